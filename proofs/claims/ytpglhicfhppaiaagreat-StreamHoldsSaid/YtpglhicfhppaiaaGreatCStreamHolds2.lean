/- Contracts of functions, part CStreamHolds2. -/
import Derived.Test.YtpglhicfhppaiaaGreatCStreamHolds1
import Derived.Laws.BytesArg
import Derived.Stop.BytesEq
import Derived.Laws.BitsAllLaws
set_option linter.unusedVariables false
set_option linter.unusedSimpArgs false
set_option maxRecDepth 100000
set_option maxHeartbeats 4000000
namespace Go.Proofs.YtpglhicfhppaiaaGreat
open Go.RowKit
def bH (dir:Int)(M:aT) : List Int :=
  if M.code==5 then aG [M.addr,M.value]
  else if M.code==15&&dir==0 then ((aG [M.addr,M.count]++[((dy M.bits).length:Int)%256])++dy M.bits)
  else if dir==1&&M.code != 15 then [(M.data.length:Int)%256]++M.data
  else aG [M.addr,M.count]
theorem oN{m:Bool}{cs:Array Value}{M:aT}{w:World}{dir:Int}(h:aF m w cs.toList M)(hf:aW M)(hd0:(dir==0)=true) : Calls Tryz.prog 85 #[.int .i64 dir,.agg cs] w (ig (bH dir M) w):=by
 obtain⟨vw,vb,vd,vr,vo,h0,hw,hbt,hd,hr,ho,hR⟩:=h
 obtain rfl:cs=(bA M vw vb vd vr vo).toArray:=by apply Array.toList_inj.1;simpa using h0
 clear h0
 obtain⟨Aw,kw,rfl,_,_⟩:=hw.shape
 obtain⟨Ab,kb,rfl,_,_⟩:=hbt.shape
 obtain⟨Ad,kd,rfl,_,_⟩:=hd.shape
 obtain⟨Ar,kr,rfl,_,_⟩:=hr.shape
 obtain⟨Ao,ko,rfl,_,_⟩:=ho.shape
 obtain⟨q0,q1,q2,q3,q4,q5,q6,q7,q8,q9,H,I,J,L,N,O,P⟩:=hR
 simp only[B8,dA] at q0 q1 q2 q3 q4 q5 q6 q7 q8 q9 H I J L N O P
 have hf1:=hf.words
 have hf2:=hf.bits
 have hf3:=hf.data
 have hf4:=hf.recs
 have hf5:=hf.objects
 refine en 62 Tryz.func85 rfl<|sg<|L0<|cI (mG M.code M.fail M.addr M.count M.value M.and_ M.or_ M.addr2 M.sub M.status M.events M.messages (.slice Aw M.words.length kw) (.slice Ab M.bits.length kb) (.slice Ad M.data.length kd) (.slice Ar M.recs.length kr) M.mei M.kind M.level M.more M.next (.slice Ao M.objects.length ko)) fun aE aH aJ a b=>Pl 1<|nt<|sq<|bk<|sg<|Pl 1<|L0<|aP a 0<|Pl 2<|nl<|?_
 refine tn<|cb ((M.code==5)) (fun c=>?_) (fun c=>?_)
 have Q:=ax c
 refine sg<|Pl 1<|L0<|aP a 2<|Pl 1<|L0<|aP a 4<|L0<|cR (m:=2) (e:=22) #[.int .u16 M.addr,.int .u16 M.value] fun aK aM R S q=>?_
 have T:=eh R (xs:=[M.addr,M.value]) (by as_aux_lemma=>kernel_rfl) (ap (by omega) (ap (by omega) aO)) (by(try simp only[List.length_cons,List.length_nil]);omega) S
 refine L0<|Oc<|dX (bj (xs:=[M.addr,M.value]) (T).rd (by(try simp only[List.length_cons,List.length_nil]);omega)) fun U V aN W aQ aR X=>Pl 1<|nt<|rt<|br<|tr<|rr (.slice U ((aG ([M.addr,M.value])).length) V)<|?_
 have hs:bH dir M=(aG ([M.addr,M.value])):=by
   unfold bH
   (try simp only[hd0,c,bs,if_true,if_false,decide_true,decide_false,reduceIte])
   all_goals rfl
 rw[hs]
 exact⟨_,rfl,(aL.weaken W (le b.size q.size)),(aD b (aD q X))⟩
 have Q:=aA c
 refine sg<|Pl 1<|L0<|aP a 0<|Pl 2<|cu 3 [20] 23 (((M.code==15)&&(dir==0))) (fun K r=>?_) ?_
 refine bl 20 ((M.code==15)) (fun g=>?_) (fun g=>?_)
 have Y:=ax g
 exact Pl 3<|ce r (dir==0) (by rw[g];rfl)
 have Y:=aA g
 exact Pl 3<|ce r false (by rw[g];rfl)
 refine Pl 1<|nt<|cb (((M.code==15)&&(dir==0))) (fun d=>?_) (fun d=>?_)
 have f:=(bM d).1
 have s:=(bM d).2
 have Z:=ax f
 have aU:=ax s
 refine sg<|Pl 1<|L0<|aP a 13<|?_
 refine L0<|Oc<|dX (wv (l:=M.bits) (iX.old hbt b) (by omega)) fun aV aY aZ a0 b0 b1 k=>?_
 have b2:=vm M.bits
 refine Pl 1<|ng<|Pl 1<|?_
 have t:=ub k a
 refine L0<|aP t 2<|Pl 1<|L0<|aP t 3<|L0<|cR (m:=2) (e:=22) #[.int .u16 M.addr,.int .u16 M.count] fun b3 b4 a1 a2 n=>?_
 have a3:=eh a1 (xs:=[M.addr,M.count]) (by as_aux_lemma=>kernel_rfl) (ap (by omega) (ap (by omega) aO)) (by(try simp only[List.length_cons,List.length_nil]);omega) a2
 refine L0<|Oc<|dX (bj (xs:=[M.addr,M.count]) (a3).rd (by(try simp only[List.length_cons,List.length_nil]);omega)) fun a4 b5 b6 u b7 b8 v=>Pl 3<|L0<|cR (m:=1) (e:=5) #[.int .u8 ((((dy M.bits).length:Nat) : Int)%256)] fun b9 ba a5 a6 o=>?_
 have a7:=cW a5 (xs:=[((((dy M.bits).length:Nat) : Int)%256)]) (by as_aux_lemma=>kernel_rfl) (ap (by omega) aO) (by(try simp only[List.length_cons,List.length_nil]);omega) a6
 refine L0<|cg aX (xs:=(aG ([M.addr,M.count]))) (ys:=([((((dy M.bits).length:Nat) : Int)%256)])) (.int .u8 0) 1 (ak u o (fun x hx=>az) (fun _ _ h=>h)) (a7).rd (by(try simp only[List.length_append,List.length_cons,List.length_nil,av]);omega) (le v.size o.size) fun bb bc bd y a8=>Pl 1<|?_
 have z:=ut v (ut (ay.mono (S':=(ob a4++[])) o au) a8 (ai il au)) (ai (aI u lr) au)
 have A:=aD n z
 refine L0<|cg aX (xs:=((aG ([M.addr,M.count]))++[((((dy M.bits).length:Nat) : Int)%256)])) (ys:=(dy M.bits)) (.int .u8 0) 1 y ((ak a0 A (fun x hx=>az) (fun _ _ h=>h))).rd (by(try simp only[List.length_append,List.length_cons,List.length_nil,av]);omega) z.size fun a9 aa be ab ac=>Pl 1<|nt<|rt<|br<|tr<|rr (.slice a9 ((((aG ([M.addr,M.count]))++[((((dy M.bits).length:Nat) : Int)%256)])++(dy M.bits)).length) aa)<|?_
 have hs:bH dir M=(((aG ([M.addr,M.count]))++[((((dy M.bits).length:Nat) : Int)%256)])++(dy M.bits)):=by
   unfold bH
   (try simp only[s,c,d,f,bs,if_true,if_false,decide_true,decide_false,reduceIte])
   all_goals rfl
 rw[hs]
 exact⟨_,rfl,(aL.weaken ab (le (le b.size k.size) n.size)),(aD b (aD k (ut A ac (ai (aI y n.size) au))))⟩
 have f:(M.code==15)=false:=by simpa only[hd0,bs] using d
 have Z:=aA f
 refine sg<|Pl 3<|cu 4 [43] 47 (((dir==1)&&(M.code != 15))) (fun K B=>?_) ?_
 refine bl 43 ((dir==1)) (fun i=>?_) (fun i=>?_)
 have ad:=ax i
 exact Pl 1<|L1<|aP a 0<|Pl 2<|ce B (M.code != 15) (by rw[i];rfl)
 have ad:=aA i
 exact Pl 4<|ce B false (by rw[i];rfl)
 refine Pl 1<|nt<|cb (((dir==1)&&(M.code != 15))) (fun j=>?_) (fun j=>?_)
 have C:=(bM j).1
 have D:=(bM j).2
 have bf:=ax C
 have bg:=aB D
 refine sg<|Pl 1<|L0<|aP a 14<|Pl 2<|L0<|cR (m:=1) (e:=5) #[.int .u8 (((M.data.length:Nat) : Int)%256)] fun bh bi ae af p=>?_
 have E:=cW ae (xs:=[(((M.data.length:Nat) : Int)%256)]) (by as_aux_lemma=>kernel_rfl) (ap (by omega) aO) (by(try simp only[List.length_cons,List.length_nil]);omega) af
 refine Pl 1<|?_
 refine L0<|aP (ub p a) 14<|?_
 have F:=aD b p
 refine L0<|cg aX (xs:=([(((M.data.length:Nat) : Int)%256)])) (ys:=M.data) (.int .u8 0) 1 E (aS.old hd F) (by(try simp only[List.length_append,List.length_cons,List.length_nil,av]);omega) p.size fun ag ah bm aj al=>Pl 1<|nt<|rt<|br<|tr<|rr (.slice ag (([(((M.data.length:Nat) : Int)%256)]++M.data).length) ah)<|?_
 have hs:bH dir M=([(((M.data.length:Nat) : Int)%256)]++M.data):=by
   unfold bH
   (try simp only[hd0,c,d,f,j,C,D,bs,if_true,if_false,decide_true,decide_false,reduceIte])
   all_goals rfl
 rw[hs]
 exact⟨_,rfl,(aL.weaken aj b.size),(ut F al (ai (aI E b.size) au))⟩
 refine sk<|bn<|tn<|sg<|Pl 1<|L0<|aP a 2<|Pl 1<|L0<|aP a 3<|L0<|cR (m:=2) (e:=22) #[.int .u16 M.addr,.int .u16 M.count] fun bo bp am an G=>?_
 have ao:=eh am (xs:=[M.addr,M.count]) (by as_aux_lemma=>kernel_rfl) (ap (by omega) (ap (by omega) aO)) (by(try simp only[List.length_cons,List.length_nil]);omega) an
 refine L0<|Oc<|dX (bj (xs:=[M.addr,M.count]) (ao).rd (by(try simp only[List.length_cons,List.length_nil]);omega)) fun aq ar bq aw bt bu aC=>Pl 1<|nt<|rt<|rr (.slice aq ((aG ([M.addr,M.count])).length) ar)<|?_
 have hs:bH dir M=(aG ([M.addr,M.count])):=by
   unfold bH
   (try simp only[hd0,c,d,f,j,bs,if_true,if_false,decide_true,decide_false,reduceIte])
   all_goals rfl
 rw[hs]
 exact⟨_,rfl,(aL.weaken aw (le b.size G.size)),(aD b (aD G aC))⟩
theorem o3{m:Bool}{cs:Array Value}{M:aT}{w:World}{dir:Int}(h:aF m w cs.toList M)(hf:aW M)(hd0:(dir==0)=false) : Calls Tryz.prog 85 #[.int .i64 dir,.agg cs] w (ig (bH dir M) w):=by
 obtain⟨vw,vb,vd,vr,vo,h0,hw,hbt,hd,hr,ho,hR⟩:=h
 obtain rfl:cs=(bA M vw vb vd vr vo).toArray:=by apply Array.toList_inj.1;simpa using h0
 clear h0
 obtain⟨Aw,kw,rfl,_,_⟩:=hw.shape
 obtain⟨Ab,kb,rfl,_,_⟩:=hbt.shape
 obtain⟨Ad,kd,rfl,_,_⟩:=hd.shape
 obtain⟨Ar,kr,rfl,_,_⟩:=hr.shape
 obtain⟨Ao,ko,rfl,_,_⟩:=ho.shape
 obtain⟨q0,q1,q2,q3,q4,q5,q6,q7,q8,q9,t,u,v,x,y,z,A⟩:=hR
 simp only[B8,dA] at q0 q1 q2 q3 q4 q5 q6 q7 q8 q9 t u v x y z A
 have hf1:=hf.words
 have hf2:=hf.bits
 have hf3:=hf.data
 have hf4:=hf.recs
 have hf5:=hf.objects
 refine en 62 Tryz.func85 rfl<|sg<|L0<|cI (mG M.code M.fail M.addr M.count M.value M.and_ M.or_ M.addr2 M.sub M.status M.events M.messages (.slice Aw M.words.length kw) (.slice Ab M.bits.length kb) (.slice Ad M.data.length kd) (.slice Ar M.recs.length kr) M.mei M.kind M.level M.more M.next (.slice Ao M.objects.length ko)) fun a0 a1 a2 a b=>Pl 1<|nt<|sq<|bk<|sg<|Pl 1<|L0<|aP a 0<|Pl 2<|nl<|?_
 refine tn<|cb ((M.code==5)) (fun c=>?_) (fun c=>?_)
 have B:=ax c
 refine sg<|Pl 1<|L0<|aP a 2<|Pl 1<|L0<|aP a 4<|L0<|cR (m:=2) (e:=22) #[.int .u16 M.addr,.int .u16 M.value] fun a3 a4 C D k=>?_
 have E:=eh C (xs:=[M.addr,M.value]) (by as_aux_lemma=>kernel_rfl) (ap (by omega) (ap (by omega) aO)) (by(try simp only[List.length_cons,List.length_nil]);omega) D
 refine L0<|Oc<|dX (bj (xs:=[M.addr,M.value]) (E).rd (by(try simp only[List.length_cons,List.length_nil]);omega)) fun F G a5 H a6 a7 I=>Pl 1<|nt<|rt<|br<|tr<|rr (.slice F ((aG ([M.addr,M.value])).length) G)<|?_
 have hs:bH dir M=(aG ([M.addr,M.value])):=by
   unfold bH
   (try simp only[hd0,c,bs,if_true,if_false,decide_true,decide_false,reduceIte])
   all_goals rfl
 rw[hs]
 exact⟨_,rfl,(aL.weaken H (le b.size k.size)),(aD b (aD k I))⟩
 have B:=aA c
 refine sg<|Pl 1<|L0<|aP a 0<|Pl 2<|cu 3 [20] 23 (((M.code==15)&&(dir==0))) (fun K l=>?_) ?_
 refine bl 20 ((M.code==15)) (fun d=>?_) (fun d=>?_)
 have J:=ax d
 exact Pl 3<|ce l (dir==0) (by rw[d];rfl)
 have J:=aA d
 exact Pl 3<|ce l false (by rw[d];rfl)
 refine Pl 1<|nt<|?_
 have i:((M.code==15)&&(dir==0))=false:=by simp only[hd0,bs]
 refine cf i<|sg<|Pl 3<|cu 4 [43] 47 (((dir==1)&&(M.code != 15))) (fun K n=>?_) ?_
 refine bl 43 ((dir==1)) (fun f=>?_) (fun f=>?_)
 have L:=ax f
 exact Pl 1<|L1<|aP a 0<|Pl 2<|ce n (M.code != 15) (by rw[f];rfl)
 have L:=aA f
 exact Pl 4<|ce n false (by rw[f];rfl)
 refine Pl 1<|nt<|cb (((dir==1)&&(M.code != 15))) (fun g=>?_) (fun g=>?_)
 have o:=(bM g).1
 have p:=(bM g).2
 have a8:=ax o
 have a9:=aB p
 refine sg<|Pl 1<|L0<|aP a 14<|Pl 2<|L0<|cR (m:=1) (e:=5) #[.int .u8 (((M.data.length:Nat) : Int)%256)] fun aa ab N O j=>?_
 have q:=cW N (xs:=[(((M.data.length:Nat) : Int)%256)]) (by as_aux_lemma=>kernel_rfl) (ap (by omega) aO) (by(try simp only[List.length_cons,List.length_nil]);omega) O
 refine Pl 1<|?_
 refine L0<|aP (ub j a) 14<|?_
 have r:=aD b j
 refine L0<|cg aX (xs:=([(((M.data.length:Nat) : Int)%256)])) (ys:=M.data) (.int .u8 0) 1 q (aS.old hd r) (by(try simp only[List.length_append,List.length_cons,List.length_nil,av]);omega) j.size fun P Q ac R S=>Pl 1<|nt<|rt<|br<|tr<|rr (.slice P (([(((M.data.length:Nat) : Int)%256)]++M.data).length) Q)<|?_
 have hs:bH dir M=([(((M.data.length:Nat) : Int)%256)]++M.data):=by
   unfold bH
   (try simp only[hd0,c,i,g,o,p,bs,if_true,if_false,decide_true,decide_false,reduceIte])
   all_goals rfl
 rw[hs]
 exact⟨_,rfl,(aL.weaken R b.size),(ut r S (ai (aI q b.size) au))⟩
 refine sk<|bn<|tn<|sg<|Pl 1<|L0<|aP a 2<|Pl 1<|L0<|aP a 3<|L0<|cR (m:=2) (e:=22) #[.int .u16 M.addr,.int .u16 M.count] fun ad ae T U s=>?_
 have V:=eh T (xs:=[M.addr,M.count]) (by as_aux_lemma=>kernel_rfl) (ap (by omega) (ap (by omega) aO)) (by(try simp only[List.length_cons,List.length_nil]);omega) U
 refine L0<|Oc<|dX (bj (xs:=[M.addr,M.count]) (V).rd (by(try simp only[List.length_cons,List.length_nil]);omega)) fun W X af Y ag ah Z=>Pl 1<|nt<|rt<|rr (.slice W ((aG ([M.addr,M.count])).length) X)<|?_
 have hs:bH dir M=(aG ([M.addr,M.count])):=by
   unfold bH
   (try simp only[hd0,c,i,g,bs,if_true,if_false,decide_true,decide_false,reduceIte])
   all_goals rfl
 rw[hs]
 exact⟨_,rfl,(aL.weaken Y (le b.size s.size)),(aD b (aD s Z))⟩
theorem tM{m:Bool}{cs:Array Value}{M:aT}{w:World}{dir:Int}(h:aF m w cs.toList M)(hf:aW M) : Calls Tryz.prog 85 #[.int .i64 dir,.agg cs] w (ig (bH dir M) w):=by
  rcases dB (dir==0) with h0|h0
  · exact oN h hf h0
  · exact o3 h hf h0
open Go.RowKit
def dg (x:Bool)(w:World)(e:Ending)(w':World) : Prop:=e = .returned (.bool x)∧ay [] w w'
theorem lL{α:Type} [DecidableEq α]{xs ys:List α}{d:α}(h:xs.length=ys.length){k:Nat}(hk:k<xs.length)(hp:xs.take k=ys.take k)(hx:xs.getD k d=ys.getD k d) : xs.take (k+1)=ys.take (k+1):=by
  rw[List.take_add_one,List.take_add_one,hp]
  simp only[List.getD_eq_getElem?_getD,List.getElem?_eq_getElem hk,List.getElem?_eq_getElem (h▸hk),Option.getD_some] at hx
  simp[List.getElem?_eq_getElem hk,List.getElem?_eq_getElem (h▸hk),hx]
theorem tK{α:Type} [DecidableEq α]{xs ys:List α}{d:α}(k:Nat)(hx:xs.getD k d≠ys.getD k d) : xs≠ys:=fun h=>hx (by rw[h])
theorem rN{m m':Bool}{u v:Value}{xs ys:List Int}{w:World}(hx:dT m w u xs)(hy:dT m' w v ys) : Calls Tryz.prog 71 #[u,v] w (dg (decide (xs=ys)) w):=by
  have hhx:=hx
  have hhy:=hy
  obtain⟨A,c,rfl,hc1,hc2⟩:=hx.shape
  obtain⟨B,c',rfl,ru,nq⟩:=hy.shape
  have hn:xs.length≤9223372036854775807:=by have:=hc2;unfold maxLen at this;omega
  by_cases hl:xs.length=ys.length
  case neg =>
    have hno:∀ W,ay [] w W→dg (decide (xs=ys)) w (.returned (.bool false)) W:=by
      intro W hW
      rw[decide_eq_false (fun h=>hl (by rw[h]))]
      exact⟨rfl,hW⟩
    have hli:((xs.length:Int)!=(ys.length:Int))=true:=by simp;omega
    clear hx hy hhx hhy hl
    go_enter Tryz.func71,Tryz.ntmps71
    go_wp2
    go_ret
    exact hno _ (ay.refl _ _)
  have hno:∀ W k,xs.getD k 0≠ys.getD k 0→ay [] w W→dg (decide (xs=ys)) w (.returned (.bool false)) W:=by
    intro W k hk hW
    rw[decide_eq_false (tK k hk)]
    exact⟨rfl,hW⟩
  have hyes:∀ W,xs.take xs.length=ys.take xs.length→ay [] w W→dg (decide (xs=ys)) w (.returned (.bool true)) W:=by
    intro W hk hW
    rw[List.take_length,hl,List.take_length] at hk
    rw[decide_eq_true hk]
    exact⟨rfl,hW⟩
  revert hno hyes
  generalize dg (decide (xs=ys)) w=P
  intro hno hyes
  have hli:((xs.length:Int)!=(ys.length:Int))=false:=by simp;omega
  have hL:=Lib.hid hl
  clear hx hy hl
  go_enter Tryz.func71,Tryz.ntmps71
  go_wp2
  go_loopw [13] (fun i wr=>∃ k:Nat,k≤xs.length∧i = .int .i64 (k:Int)∧xs.take k=ys.take k∧ay [] w wr) (fun i _=>xs.length-(intOf i).toNat)
  case atStart=>exact⟨0,by omega,rfl,by simp,ay.refl _ _⟩
  case round =>
    obtain⟨k,hk,rfl,hpre,hu⟩:=hrel
    by_cases hlt:k<xs.length
    · obtain⟨b,off,rfl,cw0,hr0⟩:=dT.at_ hhx k hlt
      obtain⟨b',off',rfl,cw1,hr1⟩:=dT.at_ hhy k (by have:=hL.out;omega)
      have hlt':k<ys.length:=by have:=hL.out;omega
      have hstep:=fun h=>lL (d:=0) hL.out hlt hpre h
      have hno':=fun W h=>hno W k h
      revert cw0 cw1 hstep hno' hr0 hr1
      generalize xs.getD k 0=x0
      generalize ys.getD k 0=y0
      intro cw0 hr0 cw1 hr1 hstep hno'
      have hc0:=hu.cell (by simp) cw0
      have hc1:=hu.cell (by simp) cw1
      have hstep:=Lib.hid hstep
      have hno':=Lib.hid hno'
      clear cw0 cw1 hhx hhy hpre hno hyes
      have hc0:wr.drew.cell? ⟨b,off+k,none⟩=some (.int .u16 x0):=hc0
      have hc1:wr.drew.cell? ⟨b',off'+k,none⟩=some (.int .u16 y0):=hc1
      go_wp2
      refine p8 (S:=fun w'=>w'.cell? ⟨b,off+k,none⟩=some (.int .u16 x0)∧w'.cell? ⟨b',off'+k,none⟩=some (.int .u16 y0)) (n:=9) #[false,false,false,false,false,false,false,false,false] (by kernel_rfl) rfl rfl ⟨hc0,hc1⟩ (fun hHeld=>?_)
      refine cN (i:=0) (N:=some 16) (v:=?_) (a':=?_) #[true,false,false,false,false,false,false,false,false] rfl rfl (by kernel_rfl) (fun _ _ _ h=>h) (Or.inl ⟨by rfl,?_⟩) hHeld ?_ ?_
      rotate_left
      · rintro w' ⟨hs0,hs1⟩
        go_simp
        with_reducible rfl
      rotate_left
      · simp only[Act.put,List.setIfInBounds_toArray,List.set_cons_zero,List.set_cons_succ]
        rfl
      refine cN (i:=1) (N:=some 17) (v:=?_) (a':=?_) #[true,true,false,false,false,false,false,false,false] rfl rfl (by kernel_rfl) (fun _ _ _ h=>h) (Or.inl ⟨by rfl,?_⟩) hHeld ?_ ?_
      rotate_left
      · rintro w' ⟨hs0,hs1⟩
        go_simp
        with_reducible rfl
      rotate_left
      · simp only[Act.put,List.setIfInBounds_toArray,List.set_cons_zero,List.set_cons_succ]
        rfl
      refine cN (i:=2) (N:=some 18) (v:=?_) (a':=?_) #[true,true,true,false,false,false,false,false,false] rfl rfl (by kernel_rfl) (fun _ _ _ h=>h) (Or.inl ⟨by rfl,?_⟩) hHeld ?_ ?_
      rotate_left
      · rintro w' ⟨hs0,hs1⟩
        go_simp
        with_reducible rfl
      rotate_left
      · simp only[Act.put,List.setIfInBounds_toArray,List.set_cons_zero,List.set_cons_succ]
        rfl
      refine cN (i:=3) (N:=some 19) (v:=?_) (a':=?_) #[true,true,true,true,false,false,false,false,false] rfl rfl (by kernel_rfl) (fun _ _ _ h=>h) (Or.inl ⟨by rfl,?_⟩) hHeld ?_ ?_
      rotate_left
      · rintro w' ⟨hs0,hs1⟩
        go_simp
        with_reducible rfl
      rotate_left
      · simp only[Act.put,List.setIfInBounds_toArray,List.set_cons_zero,List.set_cons_succ]
        rfl
      refine cN (i:=4) (N:=some 20) (v:=?_) (a':=?_) #[true,true,true,true,true,false,false,false,false] rfl rfl (by kernel_rfl) (fun _ _ _ h=>h) (Or.inl ⟨by rfl,?_⟩) hHeld ?_ ?_
      rotate_left
      · rintro w' ⟨hs0,hs1⟩
        go_simp
        with_reducible rfl
      rotate_left
      · simp only[Act.put,List.setIfInBounds_toArray,List.set_cons_zero,List.set_cons_succ]
        rfl
      refine cN (i:=5) (N:=some 21) (v:=?_) (a':=?_) #[true,true,true,true,true,true,false,false,false] rfl rfl (by kernel_rfl) (fun _ _ _ h=>h) (Or.inl ⟨by rfl,?_⟩) hHeld ?_ ?_
      rotate_left
      · rintro w' ⟨hs0,hs1⟩
        go_simp
        with_reducible rfl
      rotate_left
      · simp only[Act.put,List.setIfInBounds_toArray,List.set_cons_zero,List.set_cons_succ]
        rfl
      refine cN (i:=6) (N:=some 22) (v:=?_) (a':=?_) #[true,true,true,true,true,true,true,false,false] rfl rfl (by kernel_rfl) (fun _ _ _ h=>h) (Or.inl ⟨by rfl,?_⟩) hHeld ?_ ?_
      rotate_left
      · rintro w' ⟨hs0,hs1⟩
        go_simp
        with_reducible rfl
      rotate_left
      · simp only[Act.put,List.setIfInBounds_toArray,List.set_cons_zero,List.set_cons_succ]
        rfl
      refine cN (i:=7) (N:=some 23) (v:=?_) (a':=?_) #[true,true,true,true,true,true,true,true,false] rfl rfl (by kernel_rfl) (fun _ _ _ h=>h) (Or.inl ⟨by rfl,?_⟩) hHeld ?_ ?_
      rotate_left
      · rintro w' ⟨hs0,hs1⟩
        go_simp
        with_reducible rfl
      rotate_left
      · simp only[Act.put,List.setIfInBounds_toArray,List.set_cons_zero,List.set_cons_succ]
        rfl
      refine cN (i:=8) (N:=some 24) (v:=?_) (a':=?_) #[true,true,true,true,true,true,true,true,true] rfl rfl (by kernel_rfl) (fun _ _ _ h=>h) (Or.inl ⟨by rfl,?_⟩) hHeld ?_ ?_
      rotate_left
      · rintro w' ⟨hs0,hs1⟩
        go_simp
        with_reducible rfl
      rotate_left
      · simp only[Act.put,List.setIfInBounds_toArray,List.set_cons_zero,List.set_cons_succ]
        rfl
      refine rL (by kernel_rfl) ?_
      clear hc0 hc1 hHeld
      go_wp2
      · exact hno'.out _ (by simpa using (show(x0 != y0)=true by assumption)) (hu.drew)
      · go_roundw
        case rel=>exact⟨k+1,by omega,by go_num,hstep.out (by simpa using (show(x0 != y0)=false by assumption)),hu.drew⟩
        case measure=>simp[intOf];omega
    · have hj3:k=xs.length:=by omega
      have H3:=Lib.hid hj3
      rw[hj3] at hpre
      clear hj3 hhx hhy
      go_wp2
      exact hyes _ hpre hu
theorem xB{m m':Bool}{u v:Value}{xs ys:List Bool}{w:World}(hx:iX m w u xs)(hy:iX m' w v ys) : Calls Tryz.prog 72 #[u,v] w (dg (decide (xs=ys)) w):=by
  have hhx:=hx
  have hhy:=hy
  obtain⟨A,c,rfl,hc1,hc2⟩:=hx.shape
  obtain⟨B,c',rfl,ru,nq⟩:=hy.shape
  have hn:xs.length≤9223372036854775807:=by have:=hc2;unfold maxLen at this;omega
  by_cases hl:xs.length=ys.length
  case neg =>
    have hno:∀ W,ay [] w W→dg (decide (xs=ys)) w (.returned (.bool false)) W:=by
      intro W hW
      rw[decide_eq_false (fun h=>hl (by rw[h]))]
      exact⟨rfl,hW⟩
    have hli:((xs.length:Int)!=(ys.length:Int))=true:=by simp;omega
    clear hx hy hhx hhy hl
    go_enter Tryz.func72,Tryz.ntmps72
    go_wp2
    go_ret
    exact hno _ (ay.refl _ _)
  have hno:∀ W k,xs.getD k false≠ys.getD k false→ay [] w W→dg (decide (xs=ys)) w (.returned (.bool false)) W:=by
    intro W k hk hW
    rw[decide_eq_false (tK k hk)]
    exact⟨rfl,hW⟩
  have hyes:∀ W,xs.take xs.length=ys.take xs.length→ay [] w W→dg (decide (xs=ys)) w (.returned (.bool true)) W:=by
    intro W hk hW
    rw[List.take_length,hl,List.take_length] at hk
    rw[decide_eq_true hk]
    exact⟨rfl,hW⟩
  revert hno hyes
  generalize dg (decide (xs=ys)) w=P
  intro hno hyes
  have hli:((xs.length:Int)!=(ys.length:Int))=false:=by simp;omega
  have hL:=Lib.hid hl
  clear hx hy hl
  go_enter Tryz.func72,Tryz.ntmps72
  go_wp2
  go_loopw [13] (fun i wr=>∃ k:Nat,k≤xs.length∧i = .int .i64 (k:Int)∧xs.take k=ys.take k∧ay [] w wr) (fun i _=>xs.length-(intOf i).toNat)
  case atStart=>exact⟨0,by omega,rfl,by simp,ay.refl _ _⟩
  case round =>
    obtain⟨k,hk,rfl,hpre,hu⟩:=hrel
    by_cases hlt:k<xs.length
    · obtain⟨b,off,rfl,cw0⟩:=iX.at_ hhx k hlt
      obtain⟨b',off',rfl,cw1⟩:=iX.at_ hhy k (by have:=hL.out;omega)
      have hlt':k<ys.length:=by have:=hL.out;omega
      have hstep:=fun h=>lL (d:=false) hL.out hlt hpre h
      have hno':=fun W h=>hno W k h
      revert cw0 cw1 hstep hno'
      generalize xs.getD k false=x0
      generalize ys.getD k false=y0
      intro cw0 cw1 hstep hno'
      have hc0:=hu.cell (by simp) cw0
      have hc1:=hu.cell (by simp) cw1
      have hstep:=Lib.hid hstep
      have hno':=Lib.hid hno'
      clear cw0 cw1 hhx hhy hpre hno hyes
      have hc0:wr.drew.cell? ⟨b,off+k,none⟩=some (.bool x0):=hc0
      have hc1:wr.drew.cell? ⟨b',off'+k,none⟩=some (.bool y0):=hc1
      go_wp2
      refine p8 (S:=fun w'=>w'.cell? ⟨b,off+k,none⟩=some (.bool x0)∧w'.cell? ⟨b',off'+k,none⟩=some (.bool y0)) (n:=9) #[false,false,false,false,false,false,false,false,false] (by kernel_rfl) rfl rfl ⟨hc0,hc1⟩ (fun hHeld=>?_)
      refine cN (i:=0) (N:=some 16) (v:=?_) (a':=?_) #[true,false,false,false,false,false,false,false,false] rfl rfl (by kernel_rfl) (fun _ _ _ h=>h) (Or.inl ⟨by rfl,?_⟩) hHeld ?_ ?_
      rotate_left
      · rintro w' ⟨hs0,hs1⟩
        go_simp
        with_reducible rfl
      rotate_left
      · simp only[Act.put,List.setIfInBounds_toArray,List.set_cons_zero,List.set_cons_succ]
        rfl
      refine cN (i:=1) (N:=some 17) (v:=?_) (a':=?_) #[true,true,false,false,false,false,false,false,false] rfl rfl (by kernel_rfl) (fun _ _ _ h=>h) (Or.inl ⟨by rfl,?_⟩) hHeld ?_ ?_
      rotate_left
      · rintro w' ⟨hs0,hs1⟩
        go_simp
        with_reducible rfl
      rotate_left
      · simp only[Act.put,List.setIfInBounds_toArray,List.set_cons_zero,List.set_cons_succ]
        rfl
      refine cN (i:=2) (N:=some 18) (v:=?_) (a':=?_) #[true,true,true,false,false,false,false,false,false] rfl rfl (by kernel_rfl) (fun _ _ _ h=>h) (Or.inl ⟨by rfl,?_⟩) hHeld ?_ ?_
      rotate_left
      · rintro w' ⟨hs0,hs1⟩
        go_simp
        with_reducible rfl
      rotate_left
      · simp only[Act.put,List.setIfInBounds_toArray,List.set_cons_zero,List.set_cons_succ]
        rfl
      refine cN (i:=3) (N:=some 19) (v:=?_) (a':=?_) #[true,true,true,true,false,false,false,false,false] rfl rfl (by kernel_rfl) (fun _ _ _ h=>h) (Or.inl ⟨by rfl,?_⟩) hHeld ?_ ?_
      rotate_left
      · rintro w' ⟨hs0,hs1⟩
        go_simp
        with_reducible rfl
      rotate_left
      · simp only[Act.put,List.setIfInBounds_toArray,List.set_cons_zero,List.set_cons_succ]
        rfl
      refine cN (i:=4) (N:=some 20) (v:=?_) (a':=?_) #[true,true,true,true,true,false,false,false,false] rfl rfl (by kernel_rfl) (fun _ _ _ h=>h) (Or.inl ⟨by rfl,?_⟩) hHeld ?_ ?_
      rotate_left
      · rintro w' ⟨hs0,hs1⟩
        go_simp
        with_reducible rfl
      rotate_left
      · simp only[Act.put,List.setIfInBounds_toArray,List.set_cons_zero,List.set_cons_succ]
        rfl
      refine cN (i:=5) (N:=some 21) (v:=?_) (a':=?_) #[true,true,true,true,true,true,false,false,false] rfl rfl (by kernel_rfl) (fun _ _ _ h=>h) (Or.inl ⟨by rfl,?_⟩) hHeld ?_ ?_
      rotate_left
      · rintro w' ⟨hs0,hs1⟩
        go_simp
        with_reducible rfl
      rotate_left
      · simp only[Act.put,List.setIfInBounds_toArray,List.set_cons_zero,List.set_cons_succ]
        rfl
      refine cN (i:=6) (N:=some 22) (v:=?_) (a':=?_) #[true,true,true,true,true,true,true,false,false] rfl rfl (by kernel_rfl) (fun _ _ _ h=>h) (Or.inl ⟨by rfl,?_⟩) hHeld ?_ ?_
      rotate_left
      · rintro w' ⟨hs0,hs1⟩
        go_simp
        with_reducible rfl
      rotate_left
      · simp only[Act.put,List.setIfInBounds_toArray,List.set_cons_zero,List.set_cons_succ]
        rfl
      refine cN (i:=7) (N:=some 23) (v:=?_) (a':=?_) #[true,true,true,true,true,true,true,true,false] rfl rfl (by kernel_rfl) (fun _ _ _ h=>h) (Or.inl ⟨by rfl,?_⟩) hHeld ?_ ?_
      rotate_left
      · rintro w' ⟨hs0,hs1⟩
        go_simp
        with_reducible rfl
      rotate_left
      · simp only[Act.put,List.setIfInBounds_toArray,List.set_cons_zero,List.set_cons_succ]
        rfl
      refine cN (i:=8) (N:=some 24) (v:=?_) (a':=?_) #[true,true,true,true,true,true,true,true,true] rfl rfl (by kernel_rfl) (fun _ _ _ h=>h) (Or.inl ⟨by rfl,?_⟩) hHeld ?_ ?_
      rotate_left
      · rintro w' ⟨hs0,hs1⟩
        go_simp
        with_reducible rfl
      rotate_left
      · simp only[Act.put,List.setIfInBounds_toArray,List.set_cons_zero,List.set_cons_succ]
        rfl
      refine rL (by kernel_rfl) ?_
      clear hc0 hc1 hHeld
      go_wp2
      · exact hno'.out _ (by simpa using (show(x0 != y0)=true by assumption)) (hu.drew)
      · go_roundw
        case rel=>exact⟨k+1,by omega,by go_num,hstep.out (by simpa using (show(x0 != y0)=false by assumption)),hu.drew⟩
        case measure=>simp[intOf];omega
    · have hj3:k=xs.length:=by omega
      have H3:=Lib.hid hj3
      rw[hj3] at hpre
      clear hj3 hhx hhy
      go_wp2
      exact hyes _ hpre hu
open Go.RowKit
theorem aS.cells{m:Bool}{w:World}{A:Option Addr}{n c:Nat}{xs:List Int}(h:aS m w (.slice A n c) xs) : (A=none∧xs=[])∨xs=[]∨∃ b off,A=some ⟨b,off,none⟩∧∀ i,i<xs.length→w.cell? ⟨b,off+i,none⟩=some (.int .u8 (xs.getD i 0)):=by
  by_cases h0:xs=[]
  · exact .inr (.inl h0)
  · have hl:0<xs.length:=List.length_pos_iff.2 h0
    obtain⟨b,off,rfl,_⟩:=aS.at_ h 0 hl
    refine .inr (.inr ⟨b,off,rfl,fun i hi=>?_⟩)
    obtain⟨b',off',hA,hc,_⟩:=aS.at_ h i hi
    injection hA with hA
    injection hA with h1 h2
    subst h1 h2
    exact hc
theorem sj{m:Bool}{w:World}{v:Value}{xs:List Int}(h:aS m w v xs) : (convert 27 9 v).run Tryz.prog w = .ok (.string (strOfNums xs)) w:=by
  have hh:=h
  obtain⟨A,c,rfl,h1,h2,h0,h3⟩:=hh
  rcases Nat.eq_zero_or_pos xs.length with hz|hz
  · obtain rfl:xs=[]:=List.eq_nil_of_length_eq_zero hz
    cases A with
    | none=>exact run_convert_bytes_nil w _ _ Tryz.underlying27 Tryz.underlying5 _ _ _ Tryz.underlying9
    | some a =>
      rw[run_convert_bytes_string w _ _ _ _ _ _ Tryz.underlying27 Tryz.underlying5 Tryz.underlying9]
      rw[run_bytesToString w a _ c [] (by simp[loadCells,loadCellsFrom,Sem.run_pure])]
      rfl
  · obtain⟨b,off,cells,t,fr,rfl,hb,ht,hx⟩:=h3 hz
    exact run_convert_bytes_arg w _ _ Tryz.underlying27 Tryz.underlying5 b off _ c xs rfl (fun i hi=>by
      obtain⟨b',off',hA,hc,_⟩:=aS.at_ h i hi
      injection hA with hA
      injection hA with h1 h2
      subst h1 h2
      exact hc) _ Tryz.underlying9
theorem rB:∀ {xs ys:List Int},(∀ x,x∈xs→0≤x∧x<256)→(∀ x,x∈ys→0≤x∧x<256)→(xs.map fun n=>UInt8.ofNat n.toNat)=(ys.map fun n=>UInt8.ofNat n.toNat)→xs=ys
  | [],[],_,_,_=>rfl
  | [],_ :: _,_,_,h=>by simp at h
  | _ :: _,[],_,_,h=>by simp at h
  | x :: xs,y :: ys,hx,hy,h=>by
    simp only[List.map_cons,List.cons.injEq] at h
    have h1:=hx x (by simp)
    have h2:=hy y (by simp)
    have h3:x=y:=by
      have:=congrArg UInt8.toNat h.1
      simp at this
      omega
    rw[h3,rB (fun z hz=>hx z (by simp[hz])) (fun z hz=>hy z (by simp[hz])) h.2]
theorem sA{m m':Bool}{w w' W:World}{u v:Value}{xs ys:List Int}(hx:aS m w u xs)(hy:aS m' w' v ys) : (binOp .eql 9 (.string (strOfNums xs)) (.string (strOfNums ys))).run Tryz.prog W = .ok (.bool (decide (xs=ys))) W:=by
  have e:((strOfNums xs).toList==(strOfNums ys).toList)=decide (xs=ys):=by
    by_cases h:xs=ys
    · subst h;simp
    · rw[decide_eq_false h,beq_eq_false_iff_ne]
      intro h2
      rw[ByteArray.toList_eq,ByteArray.toList_eq] at h2
      exact h (rB hx.rng hy.rng h2)
  rw[binOp_string_eql,e]
  rfl
theorem xI{A B:dY}:decide (A=B)=(decide (A.file=B.file)&&(decide (A.record=B.record)&&(decide (A.count=B.count)&&decide (A.words=B.words)))):=by
  rw[Bool.eq_iff_iff]
  cases A;cases B
  simp
theorem xf{m m':Bool}{ca cb:List Value}{A B:dY}{w:World}(ha:bF m w A ca)(hb:bF m' w B cb) : Calls Tryz.prog 74 #[.agg ca.toArray,.agg cb.toArray] w (dg (decide (A=B)) w):=by
  obtain⟨va,rfl,hwa,hra⟩:=ha
  obtain⟨vb,rfl,hwb,hrb⟩:=hb
  rw[xI]
  generalize A.file=f1 at *
  generalize A.record=f2 at *
  generalize A.count=f3 at *
  generalize A.words=f4 at *
  generalize B.file=g1 at *
  generalize B.record=g2 at *
  generalize B.count=g3 at *
  generalize B.words=g4 at *
  clear hra hrb
  have hpost:∀ W,ay [] w W→dg (decide (f1=g1)&&(decide (f2=g2)&&(decide (f3=g3)&&decide (f4=g4)))) w (.returned (.bool (decide (f1=g1)&&(decide (f2=g2)&&(decide (f3=g3)&&decide (f4=g4)))))) W:=fun W h=>⟨rfl,h⟩
  revert hpost
  generalize dg (decide (f1=g1)&&(decide (f2=g2)&&(decide (f3=g3)&&decide (f4=g4)))) w=P
  intro hpost
  by_cases h1:f1=g1
  case neg =>
    have e:(decide (f1=g1)&&(decide (f2=g2)&&(decide (f3=g3)&&decide (f4=g4))))=false:=by simp[h1]
    rw[e] at hpost
    have e1:(f1==g1)=false:=by simpa using h1
    clear h1 e hwa hwb
    replace hpost:=Lib.hid hpost
    go_enter Tryz.func74,Tryz.ntmps74
    go_wp2
    exact hpost.out _ (((ay.refl [] w).alloc _).alloc _)
  subst h1
  by_cases h1:f2=g2
  case neg =>
    have e:(decide (f1=f1)&&(decide (f2=g2)&&(decide (f3=g3)&&decide (f4=g4))))=false:=by simp[h1]
    rw[e] at hpost
    have e1:(f2==g2)=false:=by simpa using h1
    clear h1 e hwa hwb
    replace hpost:=Lib.hid hpost
    go_enter Tryz.func74,Tryz.ntmps74
    go_wp2
    exact hpost.out _ (((ay.refl [] w).alloc _).alloc _)
  subst h1
  by_cases h1:f3=g3
  case neg =>
    have e:(decide (f1=f1)&&(decide (f2=f2)&&(decide (f3=g3)&&decide (f4=g4))))=false:=by simp[h1]
    rw[e] at hpost
    have e1:(f3==g3)=false:=by simpa using h1
    clear h1 e hwa hwb
    replace hpost:=Lib.hid hpost
    go_enter Tryz.func74,Tryz.ntmps74
    go_wp2
    exact hpost.out _ (((ay.refl [] w).alloc _).alloc _)
  subst h1
  have e:(decide (f1=f1)&&(decide (f2=f2)&&(decide (f3=f3)&&decide (f4=g4))))=decide (f4=g4):=by simp
  rw[e] at hpost
  clear e
  have hcall:=fun(W:World) (h:ay [] w W)=>rN (hwa.old h) (hwb.old h)
  replace hpost:=Lib.hid hpost
  go_enter Tryz.func74,Tryz.ntmps74
  go_wp2_with (go_at_call 71;refine(hcall _ (((ay.refl [] w).alloc _).alloc _)).mono ?_;rintro e w1 ⟨rfl,hu1⟩)
  exact hpost.out _ ((((ay.refl [] w).alloc _).alloc _).step hu1)
theorem xo{A B:Obj}:decide (A=B)=(decide (A.id=B.id)&&decide (A.value=B.value)):=by
  rw[Bool.eq_iff_iff]
  cases A;cases B
  simp
theorem qe{m m':Bool}{ca cb:List Value}{A B:Obj}{w:World}(ha:cH m w A ca)(hb:cH m' w B cb) : Calls Tryz.prog 76 #[.agg ca.toArray,.agg cb.toArray] w (dg (decide (A=B)) w):=by
  obtain⟨va,rfl,hwa,hra⟩:=ha
  obtain⟨vb,rfl,hwb,hrb⟩:=hb
  rw[xo]
  generalize A.id=f1 at *
  generalize A.value=f4 at *
  generalize B.id=g1 at *
  generalize B.value=g4 at *
  clear hra hrb
  have hpost:∀ W,ay [] w W→dg (decide (f1=g1)&&decide (f4=g4)) w (.returned (.bool (decide (f1=g1)&&decide (f4=g4)))) W:=fun W h=>⟨rfl,h⟩
  revert hpost
  generalize dg (decide (f1=g1)&&decide (f4=g4)) w=P
  intro hpost
  by_cases h1:f1=g1
  case neg =>
    have e:(decide (f1=g1)&&decide (f4=g4))=false:=by simp[h1]
    rw[e] at hpost
    have e1:(f1==g1)=false:=by simpa using h1
    clear h1 e hwa hwb
    replace hpost:=Lib.hid hpost
    go_enter Tryz.func76,Tryz.ntmps76
    go_wp2
    exact hpost.out _ (((ay.refl [] w).alloc _).alloc _)
  subst h1
  have e:(decide (f1=f1)&&decide (f4=g4))=decide (f4=g4):=by simp
  rw[e] at hpost
  have hu0:ay [] w ((w.alloc (.cells #[.int .u8 f1,va] 85)).alloc (.cells #[.int .u8 f1,vb] 85)):=((ay.refl [] w).alloc _).alloc _
  have c1:=sj (hwa.old hu0)
  have c2:=sj (hwb.old hu0)
  have c3:=sA (hwa.old hu0) (hwb.old hu0) (W:=(w.alloc (.cells #[.int .u8 f1,va] 85)).alloc (.cells #[.int .u8 f1,vb] 85))
  replace hpost:=hpost _ hu0
  generalize strOfNums f4=s1 at *
  generalize strOfNums g4=s2 at *
  generalize decide (f4=g4)=D at *
  clear hu0 hwa hwb e
  rw[binOp_string_eql] at c3
  have c4:(s1.toList==s2.toList)=D:=by simpa [Sem.run_pure] using c3
  clear c3
  replace hpost:=Lib.hid hpost
  go_enter Tryz.func76,Tryz.ntmps76
  go_wp2
  exact hpost.out
open Go.RowKit
theorem aR.at_{α:Type}{m:Bool}{e:TypeId}{sz:Nat}{R:World→α→List Value→Prop}{w:World}{A:Option Addr}{n c:Nat}{xs:List α}(h:aR m e sz R w (.slice A n c) xs)(d:α)(j:Nat)(hj:j<xs.length) :
    ∃ b off cs,A=some ⟨b,off,none⟩∧w.rangeAt b (off+j*sz) cs∧R w (xs.getD j d) cs∧cs.length=sz:=by
  obtain⟨A',c',hv,h1,h2,h0,h3⟩:=h
  injection hv with e1 e2 e3
  subst e1 e3
  obtain⟨b,off,cells,t,fr,rfl,hb,ht,hx⟩:=h3 (by omega)
  obtain⟨cs,h4,h5,h6⟩:=hx j (xs.getD j d) (by simp[List.getD_eq_getElem?_getD,List.getElem?_eq_getElem hj])
  exact⟨b,off,cs,rfl,fun i u hi=>by rw[be hb];exact h6 i u hi,h5,h4⟩
theorem bF.upd0{m:Bool}{w w':World}(hu:ay [] w w'){r:dY}{cs:List Value}(h:bF m w r cs) : bF m w' r cs:=bF.upd hu (bZ.nil _ _ _) r cs h
theorem cH.upd0{m:Bool}{w w':World}(hu:ay [] w w'){r:Obj}{cs:List Value}(h:cH m w r cs) : cH m w' r cs:=cH.upd hu (bZ.nil _ _ _) r cs h
theorem eS{w w':World}{b o:Nat}{cs:List Value}(h:w.rangeAt b o cs){S:List Nat}(hu:ay S w w')(hb:b∉S) : w'.rangeAt b o cs:=fun j v hj=>hu.cell hb (h j v hj)
theorem nC:(Tryz.prog.info? 83).map (·.zero)=some (some (.agg #[.int .u16 0,.int .u16 0,.int .u16 0,.slice none 0 0])):=by kernel_rfl
theorem fS:(Tryz.prog.info? 83).map (·.size)=some 4:=by kernel_rfl
theorem nN:(Tryz.prog.info? 85).map (·.zero)=some (some (.agg #[.int .u8 0,.slice none 0 0])):=by kernel_rfl
theorem fD:(Tryz.prog.info? 85).map (·.size)=some 2:=by kernel_rfl
theorem bF.one{m:Bool}{w:World}{r:dY}{cs:List Value}(h:bF m w r cs) : cs.toArray.all (·.oneCell')=true∧cs.length=4:=by
  obtain⟨v,rfl,h1,_⟩:=h
  obtain⟨A,c,rfl,_⟩:=h1
  exact⟨by simp[Value.oneCell'],rfl⟩
theorem cH.one{m:Bool}{w:World}{r:Obj}{cs:List Value}(h:cH m w r cs) : cs.toArray.all (·.oneCell')=true∧cs.length=2:=by
  obtain⟨v,rfl,h1,_⟩:=h
  obtain⟨A,c,rfl,_⟩:=h1
  exact⟨by simp[Value.oneCell'],rfl⟩
theorem yq{m m':Bool}{u v:Value}{xs ys:List dY}{w:World}(hx:ns m w u xs)(hy:ns m' w v ys) :
    Calls Tryz.prog 73 #[u,v,.func (.func 74) #[] #[]] w (dg (decide (xs=ys)) w):=by
  have hhx:=hx
  have hhy:=hy
  obtain⟨A,c,rfl,hc1,hc2⟩:=hx.shape
  obtain⟨B,c',rfl,ru,nq⟩:=hy.shape
  have hn:xs.length≤9223372036854775807:=by have:=hc2;unfold maxLen at this;omega
  by_cases hl:xs.length=ys.length
  case neg =>
    have hno:∀ W,ay [] w W→dg (decide (xs=ys)) w (.returned (.bool false)) W:=by
      intro W hW
      rw[decide_eq_false (fun h=>hl (by rw[h]))]
      exact⟨rfl,hW⟩
    have hli:((xs.length:Int)!=(ys.length:Int))=true:=by simp;omega
    clear hx hy hhx hhy hl
    go_enter Tryz.func73,Tryz.ntmps73
    go_wp2
    go_ret
    exact hno _ (ay.refl _ _)
  have hno:∀ W k,xs.getD k ⟨0,0,0,[]⟩≠ys.getD k ⟨0,0,0,[]⟩→ay [] w W→dg (decide (xs=ys)) w (.returned (.bool false)) W:=by
    intro W k hk hW
    rw[decide_eq_false (tK k hk)]
    exact⟨rfl,hW⟩
  have hyes:∀ W,xs.take xs.length=ys.take xs.length→ay [] w W→dg (decide (xs=ys)) w (.returned (.bool true)) W:=by
    intro W hk hW
    rw[List.take_length,hl,List.take_length] at hk
    rw[decide_eq_true hk]
    exact⟨rfl,hW⟩
  revert hno hyes
  generalize dg (decide (xs=ys)) w=P
  intro hno hyes
  have hli:((xs.length:Int)!=(ys.length:Int))=false:=by simp;omega
  have hL:=Lib.hid hl
  clear hx hy hl
  go_enter Tryz.func73,Tryz.ntmps73
  go_wp2
  go_loopw [17] (fun i wr=>∃ k:Nat,k≤xs.length∧i = .int .i64 (k:Int)∧xs.take k=ys.take k∧ay [] w wr) (fun i _=>xs.length-(intOf i).toNat)
  case atStart=>exact⟨0,by omega,rfl,by simp,ay.refl _ _⟩
  case round =>
    obtain⟨k,hk,rfl,hpre,hu⟩:=hrel
    by_cases hlt:k<xs.length
    · obtain⟨b,off,ca,rfl,cw0,hr0,hl0⟩:=aR.at_ hhx ⟨0,0,0,[]⟩ k hlt
      obtain⟨b',off',cb,rfl,cw1,hr1,hl1⟩:=aR.at_ hhy ⟨0,0,0,[]⟩ k (by have:=hL.out;omega)
      have hlt':k<ys.length:=by have:=hL.out;omega
      have hstep:=fun h=>lL (d:=⟨0,0,0,[]⟩) hL.out hlt hpre h
      have hno':=fun W h=>hno W k h
      revert hstep hno' hr0 hr1
      generalize xs.getD k ⟨0,0,0,[]⟩=x0
      generalize ys.getD k ⟨0,0,0,[]⟩=y0
      intro hr0 hr1 hstep hno'
      have hc0:=Lib.hid (eS cw0 hu (by simp))
      have hc1:=Lib.hid (eS cw1 hu (by simp))
      replace hstep:=Lib.hid hstep
      replace hno':=Lib.hid hno'
      have ha:=Lib.hid hr0
      have hb:=Lib.hid hr1
      clear cw0 cw1 hhx hhy hpre hno hyes hr0 hr1
      have tok1_0:True:=trivial
      have tok1_1:True:=trivial
      have tok1_2:True:=trivial
      have tok1_3:True:=trivial
      have tok1_4:True:=trivial
      have tok1_5:True:=trivial
      have tok1_6:True:=trivial
      have tok1_7:True:=trivial
      have tok1_8:True:=trivial
      go_wp2_with (first | (have _t:=tok1_0;refine wpList_load_mid rfl 83 _ rfl b (off+k*4) rfl ca _ hc0.out Tryz.underlying83 rfl (by rw[hl0];exact fS) ?_;clear _t tok1_0) | (have _t:=tok1_1;refine fH rfl 83 rfl _ nC ?_;intro g1 w1 hg1 hB1 hu1;clear _t tok1_1) | (have _t:=tok1_2;refine fQ rfl 83 _ _ rfl g1 rfl ca.toArray rfl _ _ hB1 (by simp only[List.size_toArray,hl0];exact fS) (by simp only[List.size_toArray,hl0];rfl) (bF.one ha.out).1 ?_;intro w2 hB2 hu2;have U2:=hu1.fresh1 hu2 hg1;clear _t tok1_2) | (have _t:=tok1_3;refine wpList_load_mid rfl 83 _ rfl b' (off'+k*4) rfl cb _ (eS hc1.out U2 (by simp)) Tryz.underlying83 rfl (by rw[hl1];exact fS) ?_;clear _t tok1_3) | (have _t:=tok1_4;refine fH rfl 83 rfl _ nC ?_;intro g3 w3 hg3 hB3 hu3;clear _t tok1_4) | (have _t:=tok1_5;refine fQ rfl 83 _ _ rfl g3 rfl cb.toArray rfl _ _ hB3 (by simp only[List.size_toArray,hl1];exact fS) (by simp only[List.size_toArray,hl1];rfl) (bF.one hb.out).1 ?_;intro w4 hB4 hu4;have U4:=hu3.fresh1 hu4 hg3;have a:=U4.blk (by simp) hB2;have V4:=hu.step (U2.step U4);clear _t tok1_5) | (have _t:=tok1_6;refine wpList_load_row rfl 83 _ rfl g1 rfl _ _ _ _ a Tryz.underlying83 rfl (by simp only[List.size_toArray,hl0];exact fS) ?_;clear _t tok1_6) | (have _t:=tok1_7;refine wpList_load_row rfl 83 _ rfl g3 rfl _ _ _ _ hB4 Tryz.underlying83 rfl (by simp only[List.size_toArray,hl1];exact fS) ?_;clear _t tok1_7) | (have _t:=tok1_8;go_at_call 74;refine(xf (bF.upd0 V4 ha.out) (bF.upd0 V4 hb.out)).mono ?_;rintro e w5 ⟨rfl,hu5⟩;generalize hD:decide (x0=y0)=D;have HD:=Lib.hid hD;clear hD a hB4;clear _t tok1_8))
      · have hD0:(!D)=true:=by assumption
        exact hno'.out _ (by have:=HD.out;intro h;rw[← this,h] at hD0;simp at hD0) (V4.step hu5)
      · have hD0:(!D)=false:=by assumption
        have hxy:x0=y0:=by have:=HD.out;rw[← this] at hD0;simpa using hD0
        go_roundw
        case rel=>exact⟨k+1,by omega,by go_num,hstep.out hxy,V4.step hu5⟩
        case measure=>simp[intOf];omega
    · have hj3:k=xs.length:=by omega
      have H3:=Lib.hid hj3
      rw[hj3] at hpre
      clear hj3 hhx hhy
      go_wp2
      exact hyes _ hpre hu
theorem xk{m m':Bool}{u v:Value}{xs ys:List Obj}{w:World}(hx:nw m w u xs)(hy:nw m' w v ys) :
    Calls Tryz.prog 75 #[u,v,.func (.func 76) #[] #[]] w (dg (decide (xs=ys)) w):=by
  have hhx:=hx
  have hhy:=hy
  obtain⟨A,c,rfl,hc1,hc2⟩:=hx.shape
  obtain⟨B,c',rfl,ru,nq⟩:=hy.shape
  have hn:xs.length≤9223372036854775807:=by have:=hc2;unfold maxLen at this;omega
  by_cases hl:xs.length=ys.length
  case neg =>
    have hno:∀ W,ay [] w W→dg (decide (xs=ys)) w (.returned (.bool false)) W:=by
      intro W hW
      rw[decide_eq_false (fun h=>hl (by rw[h]))]
      exact⟨rfl,hW⟩
    have hli:((xs.length:Int)!=(ys.length:Int))=true:=by simp;omega
    clear hx hy hhx hhy hl
    go_enter Tryz.func75,Tryz.ntmps75
    go_wp2
    go_ret
    exact hno _ (ay.refl _ _)
  have hno:∀ W k,xs.getD k ⟨0,[]⟩≠ys.getD k ⟨0,[]⟩→ay [] w W→dg (decide (xs=ys)) w (.returned (.bool false)) W:=by
    intro W k hk hW
    rw[decide_eq_false (tK k hk)]
    exact⟨rfl,hW⟩
  have hyes:∀ W,xs.take xs.length=ys.take xs.length→ay [] w W→dg (decide (xs=ys)) w (.returned (.bool true)) W:=by
    intro W hk hW
    rw[List.take_length,hl,List.take_length] at hk
    rw[decide_eq_true hk]
    exact⟨rfl,hW⟩
  revert hno hyes
  generalize dg (decide (xs=ys)) w=P
  intro hno hyes
  have hli:((xs.length:Int)!=(ys.length:Int))=false:=by simp;omega
  have hL:=Lib.hid hl
  clear hx hy hl
  go_enter Tryz.func75,Tryz.ntmps75
  go_wp2
  go_loopw [17] (fun i wr=>∃ k:Nat,k≤xs.length∧i = .int .i64 (k:Int)∧xs.take k=ys.take k∧ay [] w wr) (fun i _=>xs.length-(intOf i).toNat)
  case atStart=>exact⟨0,by omega,rfl,by simp,ay.refl _ _⟩
  case round =>
    obtain⟨k,hk,rfl,hpre,hu⟩:=hrel
    by_cases hlt:k<xs.length
    · obtain⟨b,off,ca,rfl,cw0,hr0,hl0⟩:=aR.at_ hhx ⟨0,[]⟩ k hlt
      obtain⟨b',off',cb,rfl,cw1,hr1,hl1⟩:=aR.at_ hhy ⟨0,[]⟩ k (by have:=hL.out;omega)
      have hlt':k<ys.length:=by have:=hL.out;omega
      have hstep:=fun h=>lL (d:=⟨0,[]⟩) hL.out hlt hpre h
      have hno':=fun W h=>hno W k h
      revert hstep hno' hr0 hr1
      generalize xs.getD k ⟨0,[]⟩=x0
      generalize ys.getD k ⟨0,[]⟩=y0
      intro hr0 hr1 hstep hno'
      have hc0:=Lib.hid (eS cw0 hu (by simp))
      have hc1:=Lib.hid (eS cw1 hu (by simp))
      replace hstep:=Lib.hid hstep
      replace hno':=Lib.hid hno'
      have ha:=Lib.hid hr0
      have hb:=Lib.hid hr1
      clear cw0 cw1 hhx hhy hpre hno hyes hr0 hr1
      have tok2_0:True:=trivial
      have tok2_1:True:=trivial
      have tok2_2:True:=trivial
      have tok2_3:True:=trivial
      have tok2_4:True:=trivial
      have tok2_5:True:=trivial
      have tok2_6:True:=trivial
      have tok2_7:True:=trivial
      have tok2_8:True:=trivial
      go_wp2_with (first | (have _t:=tok2_0;refine wpList_load_mid rfl 85 _ rfl b (off+k*2) rfl ca _ hc0.out Tryz.underlying85 rfl (by rw[hl0];exact fD) ?_;clear _t tok2_0) | (have _t:=tok2_1;refine fH rfl 85 rfl _ nN ?_;intro g1 w1 hg1 hB1 hu1;clear _t tok2_1) | (have _t:=tok2_2;refine fQ rfl 85 _ _ rfl g1 rfl ca.toArray rfl _ _ hB1 (by simp only[List.size_toArray,hl0];exact fD) (by simp only[List.size_toArray,hl0];rfl) (cH.one ha.out).1 ?_;intro w2 hB2 hu2;have U2:=hu1.fresh1 hu2 hg1;clear _t tok2_2) | (have _t:=tok2_3;refine wpList_load_mid rfl 85 _ rfl b' (off'+k*2) rfl cb _ (eS hc1.out U2 (by simp)) Tryz.underlying85 rfl (by rw[hl1];exact fD) ?_;clear _t tok2_3) | (have _t:=tok2_4;refine fH rfl 85 rfl _ nN ?_;intro g3 w3 hg3 hB3 hu3;clear _t tok2_4) | (have _t:=tok2_5;refine fQ rfl 85 _ _ rfl g3 rfl cb.toArray rfl _ _ hB3 (by simp only[List.size_toArray,hl1];exact fD) (by simp only[List.size_toArray,hl1];rfl) (cH.one hb.out).1 ?_;intro w4 hB4 hu4;have U4:=hu3.fresh1 hu4 hg3;have a:=U4.blk (by simp) hB2;have V4:=hu.step (U2.step U4);clear _t tok2_5) | (have _t:=tok2_6;refine wpList_load_row rfl 85 _ rfl g1 rfl _ _ _ _ a Tryz.underlying85 rfl (by simp only[List.size_toArray,hl0];exact fD) ?_;clear _t tok2_6) | (have _t:=tok2_7;refine wpList_load_row rfl 85 _ rfl g3 rfl _ _ _ _ hB4 Tryz.underlying85 rfl (by simp only[List.size_toArray,hl1];exact fD) ?_;clear _t tok2_7) | (have _t:=tok2_8;go_at_call 76;refine(qe (cH.upd0 V4 ha.out) (cH.upd0 V4 hb.out)).mono ?_;rintro e w5 ⟨rfl,hu5⟩;generalize hD:decide (x0=y0)=D;have HD:=Lib.hid hD;clear hD a hB4;clear _t tok2_8))
      · have hD0:(!D)=true:=by assumption
        exact hno'.out _ (by have:=HD.out;intro h;rw[← this,h] at hD0;simp at hD0) (V4.step hu5)
      · have hD0:(!D)=false:=by assumption
        have hxy:x0=y0:=by have:=HD.out;rw[← this] at hD0;simpa using hD0
        go_roundw
        case rel=>exact⟨k+1,by omega,by go_num,hstep.out hxy,V4.step hu5⟩
        case measure=>simp[intOf];omega
    · have hj3:k=xs.length:=by omega
      have H3:=Lib.hid hj3
      rw[hj3] at hpre
      clear hj3 hhx hhy
      go_wp2
      exact hyes _ hpre hu
open Go.RowKit
def dD (M:aT) : List Int:=[M.code,M.fail,M.addr,M.count,M.value,M.and_,M.or_,M.addr2,M.sub,M.status,M.events,M.messages,M.mei*256+M.kind,M.level*256+M.more,M.next]
def fZ (M:aT) : Array Value:=((dD M).map (Value.int .u16)).toArray
theorem pF:(Tryz.prog.info? 137).map (·.zero)=some (some (.agg ((List.replicate 15 (Value.int .u16 0)).toArray))):=by kernel_rfl
theorem l6:(Tryz.prog.info? 137).map (·.size)=some 15:=by kernel_rfl
theorem ph(a0 a1 a2 a3 a4 a5 a6 a7 a8 a9 a b c d e:Int)(w:World) : (Instr.build 137 #[(0,.int .u16 a0),(1,.int .u16 a1),(2,.int .u16 a2),(3,.int .u16 a3),(4,.int .u16 a4),(5,.int .u16 a5),(6,.int .u16 a6),(7,.int .u16 a7),(8,.int .u16 a8),(9,.int .u16 a9),(10,.int .u16 a),(11,.int .u16 b),(12,.int .u16 c),(13,.int .u16 d),(14,.int .u16 e)]).run Tryz.prog w
    = .ok (.agg #[.int .u16 a0,.int .u16 a1,.int .u16 a2,.int .u16 a3,.int .u16 a4,.int .u16 a5,.int .u16 a6,.int .u16 a7,.int .u16 a8,.int .u16 a9,.int .u16 a,.int .u16 b,.int .u16 c,.int .u16 d,.int .u16 e]) w:=by kernel_rfl
theorem wn{P:Program}{fn:Func}{p:Tmp}{ty:TypeId}(h:fn.results = #[.cell p ty]){R:Ending→World→Prop}{a:Act}{w:World}(hd0:a.defers=[])(g:Nat)(t:TypeId)(cs:Array Value)(fr:Nat × Nat)(d:TypeDesc)
    (hp:a.tmps.getD p undef = .pointer (some ⟨g,0,none⟩)) (hg:w.heap[g]? = some (.cells cs t fr))
    (hu:P.underlying ty=some d) (hd:(match d with | .struct _ | .array _ _=>true | _=>false)=true) (hi:(P.info? ty).map (·.size)=some cs.size)
    (hR:R (.returned (.agg cs)) w) : bodyPost P fn R .ret a w:=by
  have hp':a.tmps[p]?.getD undef = .pointer (some ⟨g,0,none⟩):=by simpa using hp
  exact bodyPost_ret (by simp[results,h,hp',asAddr,run_loadVar_row w g t ty cs fr d hg hu hd hi]) hd0 hR
theorem m6{m:Bool}{cs:Array Value}{M:aT}{w:World}(h:aF m w cs.toList M) : Calls Tryz.prog 70 #[.agg cs] w (bv (.agg (fZ M)) w):=by
  obtain⟨vw,vb,vd,vr,vo,h0,_,_,_,_,_,hR⟩:=h
  obtain⟨c0,c1,c2,c3,c4,c5,c6,c7,c8,c9,f,i,l1,l2,l3,l4,a,c,b,d,e,l5⟩:=M
  obtain⟨r0,r1,r2,r3,r4,r5,r6,r7,r8,r9,o,p,j,k,l,n,q⟩:=hR
  simp only[B8,dA] at r0 r1 r2 r3 r4 r5 r6 r7 r8 r9 o p j k l n q
  have hpost:∀ W,ay [] w W→bv (.agg (fZ ⟨c0,c1,c2,c3,c4,c5,c6,c7,c8,c9,f,i,l1,l2,l3,l4,a,c,b,d,e,l5⟩)) w (.returned (.agg #[.int .u16 c0,.int .u16 c1,.int .u16 c2,.int .u16 c3,.int .u16 c4,.int .u16 c5,.int .u16 c6,.int .u16 c7,.int .u16 c8,.int .u16 c9,.int .u16 f,.int .u16 i,.int .u16 (a*256+c),.int .u16 (b*256+d),.int .u16 e])) W:=fun W hW=>⟨rfl,hW⟩
  revert hpost
  generalize bv (.agg (fZ ⟨c0,c1,c2,c3,c4,c5,c6,c7,c8,c9,f,i,l1,l2,l3,l4,a,c,b,d,e,l5⟩)) w=P
  intro hpost
  replace hpost:=Lib.hid hpost
  have w0:IntKind.u16.wrap c0=c0:=by show c0%65536=c0;omega
  have w1:IntKind.u16.wrap c1=c1:=by show c1%65536=c1;omega
  have r:IntKind.u16.wrap a=a:=by show a%65536=a;omega
  have s:IntKind.u16.wrap c=c:=by show c%65536=c;omega
  have t:IntKind.u16.wrap b=b:=by show b%65536=b;omega
  have u:IntKind.u16.wrap d=d:=by show d%65536=d;omega
  have v:IntKind.u16.wrap e=e:=by show e%65536=e;omega
  have x1:IntKind.u16.wrap (a*256)=a*256:=by show(a*256)%65536=a*256;omega
  have x2:IntKind.u16.wrap (b*256)=b*256:=by show(b*256)%65536=b*256;omega
  have o1:=n9 j k
  have o2:=n9 l n
  have hcs:cs = #[.int .u8 c0,.int .u8 c1,.int .u16 c2,.int .u16 c3,.int .u16 c4,.int .u16 c5,.int .u16 c6,.int .u16 c7,.int .u16 c8,.int .u16 c9,.int .u16 f,.int .u16 i,vw,vb,vd,vr,.int .u8 a,.int .u8 c,.int .u8 b,.int .u8 d,.int .u8 e,vo]:=by
    apply Array.toList_inj.1
    exact h0
  subst hcs
  have hbp:=ph
  clear h0 r0 r1 r2 r3 r4 r5 r6 r7 r8 r9 o p j k l n q
  go_enter Tryz.func70,Tryz.ntmps70
  have tok1_0:True:=trivial
  have tok1_1:True:=trivial
  have tok1_2:True:=trivial
  go_wp2_with (first | (have _t:=tok1_0;refine xX rfl 31 _ rfl (.agg #[.int .u8 c0,.int .u8 c1,.int .u16 c2,.int .u16 c3,.int .u16 c4,.int .u16 c5,.int .u16 c6,.int .u16 c7,.int .u16 c8,.int .u16 c9,.int .u16 f,.int .u16 i,vw,vb,vd,vr,.int .u8 a,.int .u8 c,.int .u8 b,.int .u8 d,.int .u8 e,vo]) rfl ?_;intro g w1 hg hB hu1;clear _t tok1_0) | (have _t:=tok1_1;refine fH rfl 137 rfl _ pF ?_;intro gp w2 hgp hBp hu2;replace hB:=hu2.blk (by simp) hB;have k0:w2.cell? ⟨g,0,none⟩=some (.int .u8 c0):=(be hB 0).trans rfl;have k1:w2.cell? ⟨g,1,none⟩=some (.int .u8 c1):=(be hB 1).trans rfl;have k2:w2.cell? ⟨g,2,none⟩=some (.int .u16 c2):=(be hB 2).trans rfl;have k3:w2.cell? ⟨g,3,none⟩=some (.int .u16 c3):=(be hB 3).trans rfl;have k4:w2.cell? ⟨g,4,none⟩=some (.int .u16 c4):=(be hB 4).trans rfl;have k5:w2.cell? ⟨g,5,none⟩=some (.int .u16 c5):=(be hB 5).trans rfl;have k6:w2.cell? ⟨g,6,none⟩=some (.int .u16 c6):=(be hB 6).trans rfl;have k7:w2.cell? ⟨g,7,none⟩=some (.int .u16 c7):=(be hB 7).trans rfl;have k8:w2.cell? ⟨g,8,none⟩=some (.int .u16 c8):=(be hB 8).trans rfl;have k9:w2.cell? ⟨g,9,none⟩=some (.int .u16 c9):=(be hB 9).trans rfl;have x:w2.cell? ⟨g,10,none⟩=some (.int .u16 f):=(be hB 10).trans rfl;have y:w2.cell? ⟨g,11,none⟩=some (.int .u16 i):=(be hB 11).trans rfl;have z:w2.cell? ⟨g,16,none⟩=some (.int .u8 a):=(be hB 16).trans rfl;have A:w2.cell? ⟨g,17,none⟩=some (.int .u8 c):=(be hB 17).trans rfl;have B:w2.cell? ⟨g,18,none⟩=some (.int .u8 b):=(be hB 18).trans rfl;have C:w2.cell? ⟨g,19,none⟩=some (.int .u8 d):=(be hB 19).trans rfl;have D:w2.cell? ⟨g,20,none⟩=some (.int .u8 e):=(be hB 20).trans rfl;clear hB;clear _t tok1_1) | (have _t:=tok1_2;refine fQ rfl 137 _ _ rfl gp rfl _ rfl _ _ hBp l6 rfl (by simp[Value.oneCell']) ?_;intro w3 hB3 hu3;clear _t tok1_2))
  refine wn rfl rfl gp _ _ _ _ rfl hB3 Tryz.underlying137 rfl l6 ?_
  exact hpost.out _ (hu1.step (hu2.fresh1 hu3 hgp))
open Go.RowKit
theorem i4:∀ (xs ys:List Int),xs.length=ys.length→((List.range xs.length).all fun i=>xs.getD i 0==ys.getD i 0)=(xs==ys)
  | [],[],_=>rfl
  | x :: xs,y :: ys,h=>by
    have ih:=i4 xs ys (by simpa using h)
    rw[List.length_cons,List.range_succ_eq_map,List.all_cons,List.all_map]
    simp only[List.getD_cons_zero,Function.comp_def,List.getD_cons_succ,ih]
    simp[List.cons_beq_cons]
  | [],_ :: _,h=>by simp at h
  | _ :: _,[],h=>by simp at h
theorem mv{P:Program}(w:World)(t e:TypeId)(k:IntKind)(n:Nat)(ht:P.underlying t=some (.array n e))(he:P.underlying e=some (.int k))(hsz:∀ w,(sizeOf e).run P w = .ok 1 w)
    (xs ys:List Int) (hx:xs.length=n) (hy:ys.length=n) :
    (binOp .eql t (.agg (xs.map (Value.int k)).toArray) (.agg (ys.map (Value.int k)).toArray)).run P w = .ok (.bool (xs==ys)) w:=by
  rw[run_eql_struct]
  suffices h:(Op.equalIn 10000 t (.agg (xs.map (Value.int k)).toArray) (.agg (ys.map (Value.int k)).toArray)).run P w = .ok (xs==ys) w by
    rw[h]
    rfl
  rw[show(10000:Nat)=9998+2 from rfl]
  rw[← i4 xs ys (hx.trans hy.symm),hx,List.range_eq_range',Op.equalIn]
  simp only[Sem.run_bind,run_underlying ht,Result.andThen_ok,hsz,Std.Legacy.Range.forIn_eq_forIn_range',Std.Legacy.Range.size,Nat.sub_zero,Nat.add_sub_cancel,Nat.div_one]
  have hl:∀ i∈List.range' 0 n 1,i<n:=fun i hi=>by simpa using (List.mem_range'_1.1 hi).2
  generalize List.range' 0 n 1=l at hl ⊢
  induction l with
  | nil=>simp
  | cons i l ih =>
    have hi:i<n:=hl i (by simp)
    have px:(part e (xs.map (Value.int k)).toArray (i*1)).run P w = .ok (Value.int k (xs.getD i 0)) w:=by
      simp[part,isAgg,run_underlying he,List.getD,List.getElem?_eq_getElem (show i<xs.length by omega)]
    have py:(part e (ys.map (Value.int k)).toArray (i*1)).run P w = .ok (Value.int k (ys.getD i 0)) w:=by
      simp[part,isAgg,run_underlying he,List.getD,List.getElem?_eq_getElem (show i<ys.length by omega)]
    have pe:(Op.equalIn (9998+1) e (Value.int k (xs.getD i 0)) (Value.int k (ys.getD i 0))).run P w = .ok (xs.getD i 0==ys.getD i 0) w:=run_equalIn_int w 9998 e k k _ _ he
    simp only[List.forIn_cons,Sem.run_bind,px,py,pe,Result.andThen_ok,List.all_cons]
    cases hb:(xs.getD i 0==ys.getD i 0)
    · simp
    · simp only[Bool.not_true,Bool.false_eq_true,if_false,Sem.run_pure,Result.andThen_ok,Bool.true_and]
      exact ih fun j hj=>hl j (by simp[hj])
theorem v7{A B:aT}(ha:fC A)(hb:fC B) : dD A=dD B↔A = { B with words:=A.words,bits:=A.bits,data:=A.data,recs:=A.recs,objects:=A.objects }:=by
  obtain⟨_,_,_,_,_,_,_,_,_,_,_,_,a1,a2,a3,a4,_⟩:=ha
  obtain⟨_,_,_,_,_,_,_,_,_,_,_,_,b1,b2,b3,b4,_⟩:=hb
  cases A;cases B
  simp only[B8] at a1 a2 a3 a4 b1 b2 b3 b4
  simp only[dD,List.cons.injEq,and_true,aT.mk.injEq,true_and]
  constructor
  · rintro⟨h1,h2,h3,h4,h5,h6,h7,h8,h9,a,b,c,e,f,d⟩
    refine⟨h1,h2,h3,h4,h5,h6,h7,h8,h9,a,b,c,?_,?_,?_,?_,d⟩<;>omega
  · rintro⟨h1,h2,h3,h4,h5,h6,h7,h8,h9,a,b,c,e,f,d,h,g⟩
    refine⟨h1,h2,h3,h4,h5,h6,h7,h8,h9,a,b,c,?_,?_,g⟩<;>omega
theorem yZ{A B:aT}(ha:fC A)(hb:fC B) : A=B↔dD A=dD B∧A.words=B.words∧A.bits=B.bits∧A.data=B.data∧A.recs=B.recs∧A.objects=B.objects:=by
  rw[v7 ha hb]
  constructor
  · rintro rfl
    exact⟨rfl,rfl,rfl,rfl,rfl,rfl⟩
  · rintro⟨h1,h2,h3,h4,h5,h6⟩
    rw[h1,h2,h3,h4,h5,h6]
open Go.RowKit
theorem og{ev:Operand→Value}{o:Oper}{x y:Operand}{t:TypeId}{A B:aT}{w:World}(ho:o.op = .binOp .eql 137 x y t)(hx:ev x = .agg (fZ A))(hy:ev y = .agg (fZ B)) :
    (execOp ev o).run Tryz.prog w = .ok (.value (.bool (dD A==dD B))) w:=by
  have hg:(eqGuard .eql 137 x y (.agg (fZ A)) (.agg (fZ B))).run Tryz.prog w = .ok () w:=run_eqGuard_agg w .eql _ x y _ _ (by kernel_rfl)
  have he:(binOp .eql 137 (.agg (fZ A)) (.agg (fZ B))).run Tryz.prog w = .ok (.bool (dD A==dD B)) w:=mv (P:=Tryz.prog) w 137 22 .u16 15 Tryz.underlying137 Tryz.underlying22 (fun w=>by kernel_rfl) (dD A) (dD B) rfl rfl
  unfold execOp
  simp only[ho,hx,hy,Sem.run_bind,hg,he,Sem.run_pure,Result.andThen]
theorem fW{A B:aT}(ha:fC A)(hb:fC B) : decide (A=B)=(dD A==dD B&&(decide (A.words=B.words)&&(decide (A.bits=B.bits)&&(decide (A.data=B.data)&&(decide (A.recs=B.recs)&&decide (A.objects=B.objects)))))):=by
  rw[Bool.eq_iff_iff]
  simp only[Bool.and_eq_true,decide_eq_true_eq,beq_iff_eq]
  exact yZ ha hb
theorem fN{m m':Bool}{pc qc:Array Value}{A B:aT}{w:World}(ha:aF m w pc.toList A)(hb:aF m' w qc.toList B) :
    Calls Tryz.prog 56 #[.agg pc,.agg qc] w (dg (decide (A=B)) w):=by
 have pM:=ha
 obtain⟨pvw,pvb,pvd,pvr,pvo,ph0,phw,phb,phd,phr,pho,pR⟩:=ha
 obtain rfl:pc=(bA A pvw pvb pvd pvr pvo).toArray:=by apply Array.toList_inj.1;simpa using ph0
 clear ph0
 obtain⟨pw,pkw,rfl,_,_⟩:=phw.shape
 obtain⟨pb,pkb,rfl,_,_⟩:=phb.shape
 obtain⟨pd,pkd,rfl,_,_⟩:=phd.shape
 obtain⟨pr,pkr,rfl,_,_⟩:=phr.shape
 obtain⟨po,pko,rfl,_,_⟩:=pho.shape
 have qM:=hb
 obtain⟨qvw,qvb,qvd,qvr,qvo,qh0,qhw,qhb,qhd,qhr,qho,qR⟩:=hb
 obtain rfl:qc=(bA B qvw qvb qvd qvr qvo).toArray:=by apply Array.toList_inj.1;simpa using qh0
 clear qh0
 obtain⟨qw,qkw,rfl,_,_⟩:=qhw.shape
 obtain⟨qb,qkb,rfl,_,_⟩:=qhb.shape
 obtain⟨qd,qkd,rfl,_,_⟩:=qhd.shape
 obtain⟨qr,qkr,rfl,_,_⟩:=qhr.shape
 obtain⟨qo,qko,rfl,_,_⟩:=qho.shape
 refine en 47 Tryz.func56 rfl<|sg<|L0<|cI (mG A.code A.fail A.addr A.count A.value A.and_ A.or_ A.addr2 A.sub A.status A.events A.messages (.slice pw A.words.length pkw) (.slice pb A.bits.length pkb) (.slice pd A.data.length pkd) (.slice pr A.recs.length pkr) A.mei A.kind A.level A.more A.next (.slice po A.objects.length pko)) fun k aj ak ac ad=>L0<|cI (mG B.code B.fail B.addr B.count B.value B.and_ B.or_ B.addr2 B.sub B.status B.events B.messages (.slice qw B.words.length qkw) (.slice qb B.bits.length qkb) (.slice qd B.data.length qkd) (.slice qr B.recs.length qkr) B.mei B.kind B.level B.more B.next (.slice qo B.objects.length qko)) fun l al am ae X=>Pl 1<|nt<|sq<|Rg 43 (fun w'=>w'.heap[k]? = some (.cells (mG A.code A.fail A.addr A.count A.value A.and_ A.or_ A.addr2 A.sub A.status A.events A.messages (.slice pw A.words.length pkw) (.slice pb A.bits.length pkb) (.slice pd A.data.length pkd) (.slice pr A.recs.length pkr) A.mei A.kind A.level A.more A.next (.slice po A.objects.length pko)) 31 (0,0))∧w'.heap[l]? = some (.cells (mG B.code B.fail B.addr B.count B.value B.and_ B.or_ B.addr2 B.sub B.status B.events B.messages (.slice qw B.words.length qkw) (.slice qb B.bits.length qkb) (.slice qd B.data.length qkd) (.slice qr B.recs.length qkr) B.mei B.kind B.level B.more B.next (.slice qo B.objects.length qko)) 31 (0,0))∧w'.cell? ⟨k,12,none⟩=some (.slice pw A.words.length pkw)∧w'.cell? ⟨l,12,none⟩=some (.slice qw B.words.length qkw)∧w'.cell? ⟨k,13,none⟩=some (.slice pb A.bits.length pkb)∧w'.cell? ⟨l,13,none⟩=some (.slice qb B.bits.length qkb)∧w'.cell? ⟨k,14,none⟩=some (.slice pd A.data.length pkd)∧aS false w' (.slice pd A.data.length pkd) A.data∧w'.cell? ⟨l,14,none⟩=some (.slice qd B.data.length qkd)∧aS false w' (.slice qd B.data.length qkd) B.data∧w'.cell? ⟨k,15,none⟩=some (.slice pr A.recs.length pkr)∧w'.cell? ⟨l,15,none⟩=some (.slice qr B.recs.length qkr)∧w'.cell? ⟨k,21,none⟩=some (.slice po A.objects.length pko)∧w'.cell? ⟨l,21,none⟩=some (.slice qo B.objects.length qko)) fun an U=>?_
 have o:=ub (aD X U) ac
 have p:=ub U ae
 have Q:=aD (aD ad X) U
 have Y:=aS.old phd Q
 have Z:=aS.old qhd Q
 refine aZ ⟨o,p,(aa o rfl),(aa p rfl),(aa o rfl),(aa p rfl),(aa o rfl),(aR.any Y (fun _ _ h=>h)),(aa p rfl),(aR.any Z (fun _ _ h=>h)),(aa o rfl),(aa p rfl),(aa o rfl),(aa p rfl)⟩ fun a0=>Rr 0 a0 (.agg (mG A.code A.fail A.addr A.count A.value A.and_ A.or_ A.addr2 A.sub A.status A.events A.messages (.slice pw A.words.length pkw) (.slice pb A.bits.length pkb) (.slice pd A.data.length pkd) (.slice pr A.recs.length pkr) A.mei A.kind A.level A.more A.next (.slice po A.objects.length pko))) (fun w' hs=>gJ (g:=k) (off:=0) [.int .u8 A.code,.int .u8 A.fail,.int .u16 A.addr,.int .u16 A.count,.int .u16 A.value,.int .u16 A.and_,.int .u16 A.or_,.int .u16 A.addr2,.int .u16 A.sub,.int .u16 A.status,.int .u16 A.events,.int .u16 A.messages,.slice pw A.words.length pkw,.slice pb A.bits.length pkb,.slice pd A.data.length pkd,.slice pr A.recs.length pkr,.int .u8 A.mei,.int .u8 A.kind,.int .u8 A.level,.int .u8 A.more,.int .u8 A.next,.slice po A.objects.length pko] rfl (by kernel_rfl) hs.1 (by kernel_rfl) (by kernel_rfl) rfl)<|Rr 2 a0 (.agg (mG B.code B.fail B.addr B.count B.value B.and_ B.or_ B.addr2 B.sub B.status B.events B.messages (.slice qw B.words.length qkw) (.slice qb B.bits.length qkb) (.slice qd B.data.length qkd) (.slice qr B.recs.length qkr) B.mei B.kind B.level B.more B.next (.slice qo B.objects.length qko))) (fun w' hs=>gJ (g:=l) (off:=0) [.int .u8 B.code,.int .u8 B.fail,.int .u16 B.addr,.int .u16 B.count,.int .u16 B.value,.int .u16 B.and_,.int .u16 B.or_,.int .u16 B.addr2,.int .u16 B.sub,.int .u16 B.status,.int .u16 B.events,.int .u16 B.messages,.slice qw B.words.length qkw,.slice qb B.bits.length qkb,.slice qd B.data.length qkd,.slice qr B.recs.length qkr,.int .u8 B.mei,.int .u8 B.kind,.int .u8 B.level,.int .u8 B.more,.int .u8 B.next,.slice qo B.objects.length qko] rfl (by kernel_rfl) hs.2.1 (by kernel_rfl) (by kernel_rfl) rfl)<|?_
 refine R0 1 rfl<|Oc<|m1 (m6 (aF.old pM Q)) fun ao I=>?_
 have q:=ub I o
 have r:=ub I p
 have a1:=aS.old Y I
 have a2:=aS.old Z I
 refine aZ ⟨q,r,(aa q rfl),(aa r rfl),(aa q rfl),(aa r rfl),(aa q rfl),(aR.any a1 (fun _ _ h=>h)),(aa r rfl),(aR.any a2 (fun _ _ h=>h)),(aa q rfl),(aa r rfl),(aa q rfl),(aa r rfl)⟩ fun ap=>?_
 have a3:=aD Q I
 refine R0 3 rfl<|Oc<|m1 (m6 (aF.old qM a3)) fun aq J=>?_
 have s:=ub J q
 have t:=ub J r
 have a4:=aS.old a1 J
 have a5:=aS.old a2 J
 refine aZ ⟨s,t,(aa s rfl),(aa t rfl),(aa s rfl),(aa t rfl),(aa s rfl),(aR.any a4 (fun _ _ h=>h)),(aa t rfl),(aR.any a5 (fun _ _ h=>h)),(aa s rfl),(aa t rfl),(aa s rfl),(aa t rfl)⟩ fun e=>Rr 4 e (.bool (dD A==dD B)) (fun _ _=>og rfl (by kernel_rfl) (by kernel_rfl))<|Rt 5 e<|?_
 have R:=aD a3 J
 refine we 10 ((dD A==dD B)) (fun u=>?_) (fun u=>?_)
 refine Rt 6 e<|Rl 7 e (fun _ hs=>hs.2.2.1)<|Rt 8 e<|Rl 9 e (fun _ hs=>hs.2.2.2.1)<|?_
 refine R0 10 rfl<|Oc<|m1 (rN (dT.old phw R) (dT.old qhw R)) fun ar K=>?_
 have v:=ub K s
 have x:=ub K t
 have a6:=aS.old a4 K
 have a7:=aS.old a5 K
 refine aZ ⟨v,x,(aa v rfl),(aa x rfl),(aa v rfl),(aa x rfl),(aa v rfl),(aR.any a6 (fun _ _ h=>h)),(aa x rfl),(aR.any a7 (fun _ _ h=>h)),(aa v rfl),(aa x rfl),(aa v rfl),(aa x rfl)⟩ fun f=>Rt 11 f<|Rt 12 f<|?_
 have S:=aD R K
 refine we 17 ((decide (A.words=B.words))) (fun j=>?_) (fun j=>?_)
 have af:=of_decide_eq_true j
 refine Rt 13 f<|Rl 14 f (fun _ hs=>hs.2.2.2.2.1)<|Rt 15 f<|Rl 16 f (fun _ hs=>hs.2.2.2.2.2.1)<|?_
 refine R0 17 rfl<|Oc<|m1 (xB (iX.old phb S) (iX.old qhb S)) fun au L=>?_
 have y:=ub L v
 have z:=ub L x
 have V:=aS.old a6 L
 have W:=aS.old a7 L
 refine aZ ⟨y,z,(aa y rfl),(aa z rfl),(aa y rfl),(aa z rfl),(aa y rfl),(aR.any V (fun _ _ h=>h)),(aa z rfl),(aR.any W (fun _ _ h=>h)),(aa y rfl),(aa z rfl),(aa y rfl),(aa z rfl)⟩ fun d=>Rt 18 d<|Rt 19 d<|?_
 have M:=aD S L
 refine we 24 ((decide (A.bits=B.bits))) (fun C=>?_) (fun C=>?_)
 have ag:=of_decide_eq_true C
 refine Rt 20 d<|Rl 21 d (fun _ hs=>hs.2.2.2.2.2.2.1)<|Rr 22 d (.string (strOfNums A.data)) (fun _ hs=>cl (A:=pd) (n:=A.data.length) (c:=pkd) rfl (by kernel_rfl) Tryz.underlying27 Tryz.underlying5 Tryz.underlying9 hs.2.2.2.2.2.2.2.1)<|Rt 23 d<|Rl 24 d (fun _ hs=>hs.2.2.2.2.2.2.2.2.1)<|Rr 25 d (.string (strOfNums B.data)) (fun _ hs=>cl (A:=qd) (n:=B.data.length) (c:=qkd) rfl (by kernel_rfl) Tryz.underlying27 Tryz.underlying5 Tryz.underlying9 hs.2.2.2.2.2.2.2.2.2.1)<|Rr 26 d (.bool (decide (A.data=B.data))) (fun _ _=>eH (a:=(strOfNums A.data)) (b:=(strOfNums B.data)) rfl (by kernel_rfl) (by kernel_rfl) (iB V W))<|Rt 27 d<|Rt 28 d<|we 33 ((decide (A.data=B.data))) (fun F=>?_) (fun F=>?_)
 have ah:=of_decide_eq_true F
 refine Rt 29 d<|Rl 30 d (fun _ hs=>hs.2.2.2.2.2.2.2.2.2.2.1)<|Rt 31 d<|Rl 32 d (fun _ hs=>hs.2.2.2.2.2.2.2.2.2.2.2.1)<|?_
 refine R0 33 rfl<|Oc<|m1 (yq (ns.old phr M) (ns.old qhr M)) fun av N=>?_
 have D:=ub N y
 have E:=ub N z
 have a8:=aS.old V N
 have a9:=aS.old W N
 refine aZ ⟨D,E,(aa D rfl),(aa E rfl),(aa D rfl),(aa E rfl),(aa D rfl),(aR.any a8 (fun _ _ h=>h)),(aa E rfl),(aR.any a9 (fun _ _ h=>h)),(aa D rfl),(aa E rfl),(aa D rfl),(aa E rfl)⟩ fun i=>Rt 34 i<|Rt 35 i<|?_
 have T:=aD M N
 refine we 40 ((decide (A.recs=B.recs))) (fun O=>?_) (fun O=>?_)
 have ai:=of_decide_eq_true O
 refine Rt 36 i<|Rl 37 i (fun _ hs=>hs.2.2.2.2.2.2.2.2.2.2.2.2.1)<|Rt 38 i<|Rl 39 i (fun _ hs=>hs.2.2.2.2.2.2.2.2.2.2.2.2.2)<|?_
 refine R0 40 rfl<|Oc<|m1 (xk (nw.old pho T) (nw.old qho T)) fun aw P=>?_
 have G:=ub P D
 have H:=ub P E
 refine aZ ⟨G,H,(aa G rfl),(aa H rfl),(aa G rfl),(aa H rfl),(aa G rfl),(aR.any (aS.old a8 P) (fun _ _ h=>h)),(aa H rfl),(aR.any (aS.old a9 P) (fun _ _ h=>h)),(aa G rfl),(aa H rfl),(aa G rfl),(aa H rfl)⟩ fun ab=>Rt 41 ab<|Rt 42 ab<|re<|tn<|rt<|rr (.bool (decide (A.objects=B.objects)))<|?_
 have hs:decide (A=B)=(decide (A.objects=B.objects)):=by
   rw[fW pR qR]
   (try simp only[u,j,C,F,O,bs,if_true,if_false,decide_true,decide_false])
 rw[hs]
 exact⟨rfl,(aD T P)⟩
 have ai:=of_decide_eq_false O
 refine Ro 36 i<|Ro 37 i<|Ro 38 i<|Ro 39 i<|Ro 40 i<|Rt 41 i<|Rt 42 i<|re<|tn<|rt<|rr (.bool false)<|?_
 have hs:decide (A=B)=false:=by
   rw[fW pR qR]
   (try simp only[u,j,C,F,O,bs,if_true,if_false,decide_true,decide_false])
 rw[hs]
 exact⟨rfl,T⟩
 have ah:=of_decide_eq_false F
 refine Ro 29 d<|Ro 30 d<|Ro 31 d<|Ro 32 d<|Ro 33 d<|Rt 34 d<|Rt 35 d<|Ro 36 d<|Ro 37 d<|Ro 38 d<|Ro 39 d<|Ro 40 d<|Rt 41 d<|Rt 42 d<|?_
 refine re<|tn<|rt<|rr (.bool false)<|?_
 have hs:decide (A=B)=false:=by
   rw[fW pR qR]
   (try simp only[u,j,C,F,bs,if_true,if_false,decide_true,decide_false])
 rw[hs]
 exact⟨rfl,M⟩
 have ag:=of_decide_eq_false C
 refine Ro 20 d<|Ro 21 d<|Ro 22 d<|Ro 23 d<|Ro 24 d<|Ro 25 d<|Ro 26 d<|Rt 27 d<|Rt 28 d<|Ro 29 d<|Ro 30 d<|Ro 31 d<|Ro 32 d<|Ro 33 d<|?_
 refine Rt 34 d<|Rt 35 d<|Ro 36 d<|Ro 37 d<|Ro 38 d<|Ro 39 d<|Ro 40 d<|Rt 41 d<|Rt 42 d<|re<|tn<|rt<|rr (.bool false)<|?_
 have hs:decide (A=B)=false:=by
   rw[fW pR qR]
   (try simp only[u,j,C,bs,if_true,if_false,decide_true,decide_false])
 rw[hs]
 exact⟨rfl,M⟩
 have af:=of_decide_eq_false j
 refine Ro 13 f<|Ro 14 f<|Ro 15 f<|Ro 16 f<|Ro 17 f<|Rt 18 f<|Rt 19 f<|Ro 20 f<|Ro 21 f<|Ro 22 f<|Ro 23 f<|Ro 24 f<|Ro 25 f<|Ro 26 f<|?_
 refine Rt 27 f<|Rt 28 f<|Ro 29 f<|Ro 30 f<|Ro 31 f<|Ro 32 f<|Ro 33 f<|Rt 34 f<|Rt 35 f<|Ro 36 f<|Ro 37 f<|Ro 38 f<|Ro 39 f<|Ro 40 f<|?_
 refine Rt 41 f<|Rt 42 f<|re<|tn<|rt<|rr (.bool false)<|?_
 have hs:decide (A=B)=false:=by
   rw[fW pR qR]
   (try simp only[u,j,bs,if_true,if_false,decide_true,decide_false])
 rw[hs]
 exact⟨rfl,S⟩
 refine Ro 6 e<|Ro 7 e<|Ro 8 e<|Ro 9 e<|Ro 10 e<|Rt 11 e<|Rt 12 e<|Ro 13 e<|Ro 14 e<|Ro 15 e<|Ro 16 e<|Ro 17 e<|Rt 18 e<|Rt 19 e<|?_
 refine Ro 20 e<|Ro 21 e<|Ro 22 e<|Ro 23 e<|Ro 24 e<|Ro 25 e<|Ro 26 e<|Rt 27 e<|Rt 28 e<|Ro 29 e<|Ro 30 e<|Ro 31 e<|Ro 32 e<|Ro 33 e<|?_
 refine Rt 34 e<|Rt 35 e<|Ro 36 e<|Ro 37 e<|Ro 38 e<|Ro 39 e<|Ro 40 e<|Rt 41 e<|Rt 42 e<|re<|tn<|rt<|rr (.bool false)<|?_
 have hs:decide (A=B)=false:=by
   rw[fW pR qR]
   (try simp only[u,bs,if_true,if_false,decide_true,decide_false])
 rw[hs]
 exact⟨rfl,R⟩
open Go.RowKit
def ia (Q:World→Ending→World→Prop)(w:World)(e:Ending)(w':World) : Prop:=∃ F free,e = .returned (.func (.func F) #[] free)∧zL Tryz.prog F=some (false,true)∧ay [] w w'∧Calls Tryz.prog F free w' (Q w')
theorem lG{g:Nat}{C:al}{w:World}{a most:Int}(hC:ag w g C)(ha:0≤a∧a<65536) :
    Calls Tryz.prog 110 #[.pointer (some ⟨g,0,none⟩),.int .u16 a,.int .i64 most] w (lE g .i64 65536 C.wordV (bC C a most) w):=by
 have hlen:=hC.len
 have hrr:=hC.wordV
 refine en 26 Tryz.func110 rfl<|sg<|Pl 1<|ng<|Pl 1<|L0<|Oc<|m3 (bI hC) fun l d e m=>L0<|Oi C.wordV<|Pl 1<|nt<|?_
 refine sg<|Pl 4<|cu 4 [14] 18 (((decide (1≤C.wordV))&&(decide (C.wordV≤most)))) (fun K c=>?_) ?_
 refine bl 14 ((decide (1≤C.wordV))) (fun b=>?_) (fun b=>?_)
 have f:=of_decide_eq_true b
 exact Pl 4<|ce c (decide (C.wordV≤most)) (by rw[b];rfl)
 have f:=of_decide_eq_false b
 exact Pl 4<|ce c false (by rw[b];rfl)
 refine L0<|Oc<|m2 (aU (((decide (1≤C.wordV))&&(decide (C.wordV≤most)))) 5 d) fun o h i=>ng<|Pl 3<|L0<|Oc<|mq (iz (a:=a) (n:=C.wordV) (by omega))<|L0<|Oc<|m2 (aU ((er a C.wordV)) 7 h) fun p j k=>ng<|Pl 2<|nl<|?_
 refine tn<|rt<|rr (.int .i64 C.wordV)<|?_
 have hs:bC C a most=(((C.wordsC 1).need ((decide (1≤C.wordV))&&(decide (C.wordV≤most))) 5).need (er a C.wordV) 7):=by
   unfold bC
   (try simp only[bs,if_true,if_false,decide_true,decide_false,reduceIte])
   all_goals rfl
 rw[hs]
 exact⟨rfl,j,(u1 e (u1 i k im) im),hrr⟩
theorem jt{g:Nat}{C:al}{w:World}{n:Int}(hC:ag w g C)(hn:0≤n∧n<65536) :
    Calls Tryz.prog 116 #[.pointer (some ⟨g,0,none⟩),.int .i64 n] w (fun e w'=>∃ v,e = .returned v∧mY w.heap.size w' v ((cv C n).wordsR n)∧ag w' g ((cv C n).wordsC n)∧ay [g] w w'):=by
 have hlen:=hC.len
 refine en 16 Tryz.func116 rfl<|sg<|Pl 1<|ng<|Pl 2<|L0<|Oc<|m3 (bJ hC) fun l c a m=>L0<|Oi C.byteV<|Pl 1<|L0<|Oi (2*n)<|Pl 1<|L0<|Oc<|m2 (aU ((C.byteV==(2*n))) 5 c) fun o d b=>?_
 refine ng<|Pl 2<|L0<|Oc<|si (dQ (n:=n) d) fun f h p i q r j k=>Pl 1<|nt<|rt<|rr (.slice f ((((C.bytesC 1).need (C.byteV==(2*n)) 5).wordsR n).length) h)<|?_
 have hs:cv C n=((C.bytesC 1).need (C.byteV==(2*n)) 5):=by
   unfold cv
   (try simp only[bs,if_true,if_false,decide_true,decide_false,reduceIte])
   all_goals rfl
 rw[hs]
 exact⟨_,rfl,(aL.weaken i (le a.size b.size)),j,(u1 a (u1 b k im) im)⟩
theorem gY{most:Int}{g gm:Nat}{c:Int}{C:al}{w:World}(hcode:B8 c)(hC:ag w g C)(hm:w.heap[gm]? = some (.cells (mC c) 31 (0,0)))(hne:g≠gm){bc:Nat}{bm:Nat}(hbc:w.heap[bc]? = some (.cells #[.pointer (some ⟨g,0,none⟩)] 143 (0,0)))(n_bc_g:bc≠g)(n_bc_gm:bc≠gm)(hbm:w.heap[bm]? = some (.cells #[.pointer (some ⟨gm,0,none⟩)] 145 (0,0)))(n_bm_g:bm≠g)(n_bm_gm:bm≠gm) :
    Calls Tryz.prog 109 #[.int .i64 most,.pointer (some ⟨bc,0,none⟩),.pointer (some ⟨bm,0,none⟩)] w (qX g gm (bC (C.wordsC 1) C.wordV most) (mG c 0 C.wordV (C.wordsC 1).wordV 0 0 0 0 0 0 0 0 nS nS nS nS 0 0 0 0 0 nS) w):=by
 obtain⟨hcode1,hcode2⟩:=hcode
 have hlen:=hC.len
 refine en 20 Tryz.func109 rfl<|sq<|Rg 6 (fun w'=>w'.cell? ⟨bm,0,none⟩=some (.pointer (some ⟨gm,0,none⟩))∧w'.cell? ⟨bc,0,none⟩=some (.pointer (some ⟨g,0,none⟩))) fun I d=>?_
 have m:=ub d hbm
 have n:=ub d hbc
 refine aZ ⟨(aa m rfl),(aa n rfl)⟩ fun o=>Rl 0 o (fun _ hs=>hs.1)<|Rl 1 o (fun _ hs=>hs.2)<|?_
 refine R0 2 rfl<|Oc<|m3 (bI (ag.old hC d)) fun J F i K=>?_
 have p:=aY i n_bm_g m
 have q:=aY i n_bc_g n
 refine aZ ⟨(aa p rfl),(aa q rfl)⟩ fun r=>Rt 3 r<|Rt 4 r<|?_
 have s:=uz d i
 have t:=aY s (Ne.symm hne) hm
 refine R0 5 rfl<|co t 2 (mG c 0 C.wordV 0 0 0 0 0 0 0 0 0 nS nS nS nS 0 0 0 0 0 nS) fun L G j=>?_
 have u:=aY j n_bm_gm p
 have v:=aY j n_bc_gm q
 refine aZ ⟨(aa u rfl),(aa v rfl)⟩ fun M=>re<|tn<|Rg 12 (fun w'=>w'.cell? ⟨bm,0,none⟩=some (.pointer (some ⟨gm,0,none⟩))∧w'.cell? ⟨bc,0,none⟩=some (.pointer (some ⟨g,0,none⟩))∧w'.cell? ⟨gm,2,none⟩=some (.int .u16 C.wordV)) fun N e=>?_
 have x:=ub e u
 have y:=ub e v
 have z:=ub e G
 refine aZ ⟨(aa x rfl),(aa y rfl),(aa z rfl)⟩ fun b=>Rl 0 b (fun _ hs=>hs.1)<|Rl 1 b (fun _ hs=>hs.2.1)<|Rl 2 b (fun _ hs=>hs.1)<|Rt 3 b<|Rt 4 b<|Rl 5 b (fun _ hs=>hs.2.2)<|Rt 6 b<|?_
 have A:=aD j e
 refine R0 7 rfl<|Oc<|m3 (lG (a:=C.wordV) (most:=most) (ag.upd F A (ae hne az) (aj (aM t (by decide)) aE)) (by omega)) fun O H f P=>?_
 have B:=aY f n_bm_g x
 have D:=aY f n_bc_g y
 have k:=aY f (Ne.symm hne) z
 refine aZ ⟨(aa B rfl),(aa D rfl),(aa k rfl)⟩ fun l=>Rr 8 l (.int .u16 ((C.wordsC 1).wordV)) (fun _ _=>cD (.int .u16 (IntKind.u16.wrap ((C.wordsC 1).wordV))) (by kernel_rfl) (congrArg (Value.int .u16) (qy (by omega))))<|Rt 9 l<|Rt 10 l<|R0 11 rfl<|co k 3 (mG c 0 C.wordV ((C.wordsC 1).wordV) 0 0 0 0 0 0 0 0 nS nS nS nS 0 0 0 0 0 nS) fun Q E h=>?_
 refine aZ ⟨(aa (aY h n_bm_gm B) rfl),(aa (aY h n_bc_gm D) rfl),(aa E rfl)⟩ fun R=>re<|rm (.tuple #[])<|?_
 exact⟨rfl,(ag.upd H h (ae hne az) (aj (aM k (by decide)) aE)),E,(ui s (ui A (us f h)))⟩
theorem BV{g gm:Nat}{c:Int}{C:al}{w:World}(hcode:B8 c)(hC:ag w g C)(hm:w.heap[gm]? = some (.cells (mC c) 31 (0,0)))(hne:g≠gm){bc:Nat}{bm:Nat}{bw:Nat}(hbc:w.heap[bc]? = some (.cells #[.pointer (some ⟨g,0,none⟩)] 143 (0,0)))(n_bc_g:bc≠g)(n_bc_gm:bc≠gm)(hbm:w.heap[bm]? = some (.cells #[.pointer (some ⟨gm,0,none⟩)] 145 (0,0)))(n_bm_g:bm≠g)(n_bm_gm:bm≠gm)(hbw:w.heap[bw]? = some (.cells #[.func (.func 109) #[] #[.pointer (some ⟨bc,0,none⟩),.pointer (some ⟨bm,0,none⟩)]] 183 (0,0)))(n_bw_g:bw≠g)(n_bw_gm:bw≠gm) :
    Calls Tryz.prog 111 #[.pointer (some ⟨bw,0,none⟩)] w (bU g gm (cM 125 c C).1 (cM 125 c C).2 w):=by
 obtain⟨hcode1,hcode2⟩:=hcode
 have hlen:=hC.len
 refine en 3 Tryz.func111 rfl<|go<|L0<|aP hbw 0<|L0<|fj #[] #[.pointer (some ⟨bc,0,none⟩),.pointer (some ⟨bm,0,none⟩)] (args:=#[.int .i64 125,.pointer (some ⟨bc,0,none⟩),.pointer (some ⟨bm,0,none⟩)])<|m3 (gY (most:=125) ⟨hcode1,hcode2⟩ hC hm hne hbc n_bc_g n_bc_gm hbm n_bm_g n_bm_gm) fun e a b d=>?_
 have f:=(hC).wordV
 have h:=db (d6 (hC).rng 1)
 refine nl<|rm (.tuple #[])<|?_
 have hs:cM 125 c C=((bC (C.wordsC 1) C.wordV 125),(aT.mk c 0 C.wordV ((C.wordsC 1).wordV) 0 0 0 0 0 0 0 0 [] [] [] [] 0 0 0 0 0 [])):=by
   unfold cM
   (try simp only[bs,if_true,if_false,decide_true,decide_false,reduceIte])
   all_goals rfl
 rw[hs]
 exact⟨rfl,a,⟨_,⟨b,rfl⟩,⟨_,_,_,_,_,rfl,aR.nil ..,aR.nil ..,aR.nil ..,aR.nil ..,aR.nil ..,⟨(b8 (x:=c) (by omega)),(b8 (x:=0) (by omega)),(aJ (x:=C.wordV) (by omega)),(aJ (x:=(C.wordsC 1).wordV) (by omega)),(aJ (x:=0) (by omega)),(aJ (x:=0) (by omega)),(aJ (x:=0) (by omega)),(aJ (x:=0) (by omega)),(aJ (x:=0) (by omega)),(aJ (x:=0) (by omega)),(aJ (x:=0) (by omega)),(aJ (x:=0) (by omega)),(b8 (x:=0) (by omega)),(b8 (x:=0) (by omega)),(b8 (x:=0) (by omega)),(b8 (x:=0) (by omega)),(b8 (x:=0) (by omega))⟩⟩⟩,d⟩
theorem BK{g gm:Nat}{c:Int}{C:al}{w:World}(hcode:B8 c)(hC:ag w g C)(hm:w.heap[gm]? = some (.cells (mC c) 31 (0,0)))(hne:g≠gm){bc:Nat}{bm:Nat}(hbc:w.heap[bc]? = some (.cells #[.pointer (some ⟨g,0,none⟩)] 143 (0,0)))(n_bc_g:bc≠g)(n_bc_gm:bc≠gm)(hbm:w.heap[bm]? = some (.cells #[.pointer (some ⟨gm,0,none⟩)] 145 (0,0)))(n_bm_g:bm≠g)(n_bm_gm:bm≠gm) :
    Calls Tryz.prog 112 #[.pointer (some ⟨bc,0,none⟩),.pointer (some ⟨bm,0,none⟩)] w (bU g gm (dr c C).1 (dr c C).2 w):=by
 obtain⟨hcode1,hcode2⟩:=hcode
 have hlen:=hC.len
 refine en 26 Tryz.func112 rfl<|sg<|L0<|aP hbc 0<|L0<|Oc<|m3 (bJ hC) fun N B k O=>L0<|Oi C.byteV<|Pl 1<|ng<|?_
 have l:=aY k n_bc_g hbc
 refine L0<|aP l 0<|Pl 1<|L0<|Oe (.int .i64 (Int.tmod C.byteV 2)) (.int .i64 (C.byteV%2)) (congrArg (Value.int .i64) (Int.tmod_eq_emod_of_nonneg (by omega)))<|Pl 2<|cu 3 [10] 13 ((((C.byteV%2)==0)&&(decide (2≤C.byteV)))) (fun K m=>?_) ?_
 refine bl 10 (((C.byteV%2)==0)) (fun a=>?_) (fun a=>?_)
 have D:=ax a
 exact Pl 3<|ce m (decide (2≤C.byteV)) (by rw[a];rfl)
 have D:=aA a
 exact Pl 3<|ce m false (by rw[a];rfl)
 refine Pl 1<|cu 3 [14] 17 (((((C.byteV%2)==0)&&(decide (2≤C.byteV)))&&(decide (C.byteV≤250)))) (fun K o=>?_) ?_
 refine bl 14 ((((C.byteV%2)==0)&&(decide (2≤C.byteV)))) (fun b=>?_) (fun b=>?_)
 have E:=(bM b).1
 have F:=(bM b).2
 have P:=ax E
 have Q:=of_decide_eq_true F
 exact Pl 3<|ce o (decide (C.byteV≤250)) (by rw[b];rfl)
 exact Pl 3<|ce o false (by rw[b];rfl)
 refine L0<|Oc<|m2 (aU (((((C.byteV%2)==0)&&(decide (2≤C.byteV)))&&(decide (C.byteV≤250)))) 5 B) fun R G H=>nt<|Rg 8 (fun w'=>w'.cell? ⟨bm,0,none⟩=some (.pointer (some ⟨gm,0,none⟩))∧w'.cell? ⟨bc,0,none⟩=some (.pointer (some ⟨g,0,none⟩))) fun S p=>?_
 have q:=aD H p
 have i:=u1 k q im
 have r:=aY i n_bm_g hbm
 have s:=aY q n_bc_g l
 refine aZ ⟨(aa r rfl),(aa s rfl)⟩ fun f=>Rl 0 f (fun _ hs=>hs.1)<|Rl 1 f (fun _ hs=>hs.2)<|Rt 2 f<|Rr 3 f (.int .i64 (C.byteV/2)) (fun _ _=>cD (.int .i64 (IntKind.i64.wrap (Int.tdiv C.byteV 2))) (by kernel_rfl) (congrArg (Value.int .i64) (s9 (by omega) (by omega))))<|?_
 refine R0 4 rfl<|Oc<|si (dQ (n:=(C.byteV/2)) (ag.old G p)) fun I J T t U V L j=>?_
 have u:=aY j n_bm_g r
 have v:=aY j n_bc_g s
 refine aZ ⟨(aa u rfl),(aa v rfl)⟩ fun y=>Rt 5 y<|Rt 6 y<|?_
 have z:=u1 i j im
 have A:=aY z (Ne.symm hne) hm
 refine R0 7 rfl<|co A 12 (mG c 0 0 0 0 0 0 0 0 0 0 0 (.slice I ((((C.bytesC 1).need ((((C.byteV%2)==0)&&(decide (2≤C.byteV)))&&(decide (C.byteV≤250))) 5).wordsR (C.byteV/2)).length) J) nS nS nS 0 0 0 0 0 nS) fun W M d=>?_
 refine aZ ⟨(aa (aY d n_bm_gm u) rfl),(aa (aY d n_bc_gm v) rfl)⟩ fun X=>re<|rm (.tuple #[])<|?_
 have hs:dr c C=((((C.bytesC 1).need ((((C.byteV%2)==0)&&(decide (2≤C.byteV)))&&(decide (C.byteV≤250))) 5).wordsC (C.byteV/2)),(aT.mk c 0 0 0 0 0 0 0 0 0 0 0 (((C.bytesC 1).need ((((C.byteV%2)==0)&&(decide (2≤C.byteV)))&&(decide (C.byteV≤250))) 5).wordsR (C.byteV/2)) [] [] [] 0 0 0 0 0 [])):=by
   unfold dr lb ja
   (try simp only[bs,if_true,if_false,decide_true,decide_false,reduceIte])
   all_goals rfl
 rw[hs]
 exact⟨rfl,(ag.upd L d (ae hne az) (aj (aM A (by decide)) aE)),⟨_,⟨M,rfl⟩,⟨_,_,_,_,_,rfl,((ak t d (fun x hx=>(ae (fun e=>(aC (am hm) i.size t) (e▸hx)) az)) (fun _ _ h=>h))).rd,aR.nil ..,aR.nil ..,aR.nil ..,aR.nil ..,⟨(b8 (x:=c) (by omega)),(b8 (x:=0) (by omega)),(aJ (x:=0) (by omega)),(aJ (x:=0) (by omega)),(aJ (x:=0) (by omega)),(aJ (x:=0) (by omega)),(aJ (x:=0) (by omega)),(aJ (x:=0) (by omega)),(aJ (x:=0) (by omega)),(aJ (x:=0) (by omega)),(aJ (x:=0) (by omega)),(aJ (x:=0) (by omega)),(b8 (x:=0) (by omega)),(b8 (x:=0) (by omega)),(b8 (x:=0) (by omega)),(b8 (x:=0) (by omega)),(b8 (x:=0) (by omega))⟩⟩⟩,(us z d)⟩
theorem BM{g gm:Nat}{c:Int}{C:al}{w:World}(hcode:B8 c)(hC:ag w g C)(hm:w.heap[gm]? = some (.cells (mC c) 31 (0,0)))(hne:g≠gm){bc:Nat}{bm:Nat}(hbc:w.heap[bc]? = some (.cells #[.pointer (some ⟨g,0,none⟩)] 143 (0,0)))(n_bc_g:bc≠g)(n_bc_gm:bc≠gm)(hbm:w.heap[bm]? = some (.cells #[.pointer (some ⟨gm,0,none⟩)] 145 (0,0)))(n_bm_g:bm≠g)(n_bm_gm:bm≠gm) :
    Calls Tryz.prog 114 #[.pointer (some ⟨bc,0,none⟩),.pointer (some ⟨bm,0,none⟩)] w (bU g gm (fU c C).1 (fU c C).2 w):=by
 obtain⟨hcode1,hcode2⟩:=hcode
 have hlen:=hC.len
 refine en 12 Tryz.func114 rfl<|Rg 12 (fun w'=>w'.cell? ⟨bm,0,none⟩=some (.pointer (some ⟨gm,0,none⟩))∧w'.cell? ⟨bc,0,none⟩=some (.pointer (some ⟨g,0,none⟩))) fun B a=>?_
 have i:=ub a hbm
 have j:=ub a hbc
 refine aZ ⟨(aa i rfl),(aa j rfl)⟩ fun b=>Rl 0 b (fun _ hs=>hs.1)<|Rl 1 b (fun _ hs=>hs.1)<|Rl 2 b (fun _ hs=>hs.2)<|Rl 4 b (fun _ hs=>hs.2)<|?_
 refine R0 3 rfl<|Oc<|m3 (bI (ag.old hC a)) fun D v d E=>?_
 have k:=aY d n_bm_g i
 have l:=aY d n_bc_g j
 refine aZ ⟨(aa k rfl),(aa l rfl)⟩ fun F=>R0 5 rfl<|Oc<|m3 (bI v) fun G y e H=>?_
 have m:=aY e n_bm_g k
 have n:=aY e n_bc_g l
 refine aZ ⟨(aa m rfl),(aa n rfl)⟩ fun o=>Rt 6 o<|Rt 7 o<|?_
 have p:=uz a (u1 d e im)
 have q:=aY p (Ne.symm hne) hm
 refine R0 8 rfl<|co q 2 (mG c 0 C.wordV 0 0 0 0 0 0 0 0 0 nS nS nS nS 0 0 0 0 0 nS) fun I z f=>?_
 have r:=aY f n_bm_gm m
 have s:=aY f n_bc_gm n
 refine aZ ⟨(aa r rfl),(aa s rfl)⟩ fun t=>Rt 9 t<|Rt 10 t<|R0 11 rfl<|co z 4 (mG c 0 C.wordV 0 ((C.wordsC 1).wordV) 0 0 0 0 0 0 0 nS nS nS nS 0 0 0 0 0 nS) fun J A h=>?_
 refine aZ ⟨(aa (aY h n_bm_gm r) rfl),(aa (aY h n_bc_gm s) rfl)⟩ fun K=>re<|rm (.tuple #[])<|?_
 have hs:fU c C=(((C.wordsC 1).wordsC 1),(aT.mk c 0 C.wordV 0 ((C.wordsC 1).wordV) 0 0 0 0 0 0 0 [] [] [] [] 0 0 0 0 0 [])):=by
   unfold fU
   (try simp only[bs,if_true,if_false,decide_true,decide_false,reduceIte])
   all_goals rfl
 rw[hs]
 have u:=u1 f h im
 exact⟨rfl,(ag.upd y u (ae hne az) (aj (aM q (by decide)) aE)),⟨_,⟨A,rfl⟩,⟨_,_,_,_,_,rfl,aR.nil ..,aR.nil ..,aR.nil ..,aR.nil ..,aR.nil ..,⟨(b8 (x:=c) (by omega)),(b8 (x:=0) (by omega)),(aJ (x:=C.wordV) (by omega)),(aJ (x:=0) (by omega)),(aJ (x:=(C.wordsC 1).wordV) (by omega)),(aJ (x:=0) (by omega)),(aJ (x:=0) (by omega)),(aJ (x:=0) (by omega)),(aJ (x:=0) (by omega)),(aJ (x:=0) (by omega)),(aJ (x:=0) (by omega)),(aJ (x:=0) (by omega)),(b8 (x:=0) (by omega)),(b8 (x:=0) (by omega)),(b8 (x:=0) (by omega)),(b8 (x:=0) (by omega)),(b8 (x:=0) (by omega))⟩⟩⟩,(us p u)⟩
theorem B9{ask:Bool}{g gm:Nat}{c:Int}{C:al}{w:World}(hcode:B8 c)(hC:ag w g C)(hm:w.heap[gm]? = some (.cells (mC c) 31 (0,0)))(hne:g≠gm){bc:Nat}{bm:Nat}{bw:Nat}{ba:Nat}(hbc:w.heap[bc]? = some (.cells #[.pointer (some ⟨g,0,none⟩)] 143 (0,0)))(n_bc_g:bc≠g)(n_bc_gm:bc≠gm)(hbm:w.heap[bm]? = some (.cells #[.pointer (some ⟨gm,0,none⟩)] 145 (0,0)))(n_bm_g:bm≠g)(n_bm_gm:bm≠gm)(hbw:w.heap[bw]? = some (.cells #[.func (.func 109) #[] #[.pointer (some ⟨bc,0,none⟩),.pointer (some ⟨bm,0,none⟩)]] 183 (0,0)))(n_bw_g:bw≠g)(n_bw_gm:bw≠gm)(hba:w.heap[ba]? = some (.cells #[.bool ask] 4 (0,0)))(n_ba_g:ba≠g)(n_ba_gm:ba≠gm)(hask:ask=true) :
    Calls Tryz.prog 115 #[.pointer (some ⟨bw,0,none⟩),.pointer (some ⟨ba,0,none⟩),.pointer (some ⟨bc,0,none⟩),.pointer (some ⟨bm,0,none⟩)] w (bU g gm (eV c C).1 (eV c C).2 w):=by
 obtain⟨hcode1,hcode2⟩:=hcode
 have hlen:=hC.len
 refine en 17 Tryz.func115 rfl<|sg<|L0<|aP hbw 0<|L0<|fj #[] #[.pointer (some ⟨bc,0,none⟩),.pointer (some ⟨bm,0,none⟩)] (args:=#[.int .i64 123,.pointer (some ⟨bc,0,none⟩),.pointer (some ⟨bm,0,none⟩)])<|m3 (gY (most:=123) ⟨hcode1,hcode2⟩ hC hm hne hbc n_bc_g n_bc_gm hbm n_bm_g n_bm_gm) fun B u v k=>?_
 have D:=(hC).wordV
 have E:=db (d6 (hC).rng 1)
 refine ng<|?_
 refine L0<|aP (ay.blk k (ae n_ba_g (ae n_ba_gm az)) hba) 0<|nt<|ct hask<|Rg 11 (fun w'=>w'.cell? ⟨bm,0,none⟩=some (.pointer (some ⟨gm,0,none⟩))∧w'.cell? ⟨bc,0,none⟩=some (.pointer (some ⟨g,0,none⟩))∧w'.cell? ⟨gm,3,none⟩=some (.int .u16 ((C.wordsC 1).wordV))) fun F i=>?_
 have d:=aD k i
 have l:=ay.blk d (ae n_bm_g (ae n_bm_gm az)) hbm
 have m:=ay.blk d (ae n_bc_g (ae n_bc_gm az)) hbc
 have o:=ub i v
 refine aZ ⟨(aa l rfl),(aa m rfl),(aa o rfl)⟩ fun a=>Rl 0 a (fun _ hs=>hs.1)<|Rl 1 a (fun _ hs=>hs.2.1)<|Rl 2 a (fun _ hs=>hs.1)<|Rt 3 a<|Rt 4 a<|Rl 5 a (fun _ hs=>hs.2.2)<|Rr 6 a (.int .i64 ((C.wordsC 1).wordV)) (fun _ _=>cD (.int .i64 (IntKind.i64.wrap ((C.wordsC 1).wordV))) (by kernel_rfl) (congrArg (Value.int .i64) (i64_in (by omega))))<|?_
 refine R0 7 rfl<|Oc<|si (jt (n:=(C.wordsC 1).wordV) (ag.old u i) (by omega)) fun y z G p H I A f=>?_
 have q:=aY f n_bm_g l
 have r:=aY f n_bc_g m
 have j:=aY f (Ne.symm hne) o
 refine aZ ⟨(aa q rfl),(aa r rfl),(aa j rfl)⟩ fun s=>Rt 8 s<|Rt 9 s<|R0 10 rfl<|co j 12 (mG c 0 C.wordV ((C.wordsC 1).wordV) 0 0 0 0 0 0 0 0 (.slice y (((cv (bC (C.wordsC 1) C.wordV 123) ((C.wordsC 1).wordV)).wordsR ((C.wordsC 1).wordV)).length) z) nS nS nS 0 0 0 0 0 nS) fun J t b=>?_
 refine aZ ⟨(aa (aY b n_bm_gm q) rfl),(aa (aY b n_bc_gm r) rfl),(aa t rfl)⟩ fun K=>re<|rm (.tuple #[])<|?_
 have hs:eV c C=(((cv (bC (C.wordsC 1) C.wordV 123) ((C.wordsC 1).wordV)).wordsC ((C.wordsC 1).wordV)),(aT.mk c 0 C.wordV ((C.wordsC 1).wordV) 0 0 0 0 0 0 0 0 ((cv (bC (C.wordsC 1) C.wordV 123) ((C.wordsC 1).wordV)).wordsR ((C.wordsC 1).wordV)) [] [] [] 0 0 0 0 0 [])):=by
   unfold eV iv
   (try simp only[hask,bs,if_true,if_false,decide_true,decide_false,reduceIte])
   all_goals rfl
 rw[hs]
 exact⟨rfl,(ag.upd A b (ae hne az) (aj (aM j (by decide)) aE)),⟨_,⟨t,rfl⟩,⟨_,_,_,_,_,rfl,((ak p b (fun x hx=>(ae (fun e=>(aC (am hm) d.size p) (e▸hx)) az)) (fun _ _ h=>h))).rd,aR.nil ..,aR.nil ..,aR.nil ..,aR.nil ..,⟨(b8 (x:=c) (by omega)),(b8 (x:=0) (by omega)),(aJ (x:=C.wordV) (by omega)),(aJ (x:=(C.wordsC 1).wordV) (by omega)),(aJ (x:=0) (by omega)),(aJ (x:=0) (by omega)),(aJ (x:=0) (by omega)),(aJ (x:=0) (by omega)),(aJ (x:=0) (by omega)),(aJ (x:=0) (by omega)),(aJ (x:=0) (by omega)),(aJ (x:=0) (by omega)),(b8 (x:=0) (by omega)),(b8 (x:=0) (by omega)),(b8 (x:=0) (by omega)),(b8 (x:=0) (by omega)),(b8 (x:=0) (by omega))⟩⟩⟩,(ut d (us f b) (ac im (ac im au)))⟩
theorem BC{ask:Bool}{g gm:Nat}{c:Int}{C:al}{w:World}(hcode:B8 c)(hC:ag w g C)(hm:w.heap[gm]? = some (.cells (mC c) 31 (0,0)))(hne:g≠gm){bc:Nat}{bm:Nat}{bw:Nat}{ba:Nat}(hbc:w.heap[bc]? = some (.cells #[.pointer (some ⟨g,0,none⟩)] 143 (0,0)))(n_bc_g:bc≠g)(n_bc_gm:bc≠gm)(hbm:w.heap[bm]? = some (.cells #[.pointer (some ⟨gm,0,none⟩)] 145 (0,0)))(n_bm_g:bm≠g)(n_bm_gm:bm≠gm)(hbw:w.heap[bw]? = some (.cells #[.func (.func 109) #[] #[.pointer (some ⟨bc,0,none⟩),.pointer (some ⟨bm,0,none⟩)]] 183 (0,0)))(n_bw_g:bw≠g)(n_bw_gm:bw≠gm)(hba:w.heap[ba]? = some (.cells #[.bool ask] 4 (0,0)))(n_ba_g:ba≠g)(n_ba_gm:ba≠gm)(hask:ask=false) :
    Calls Tryz.prog 115 #[.pointer (some ⟨bw,0,none⟩),.pointer (some ⟨ba,0,none⟩),.pointer (some ⟨bc,0,none⟩),.pointer (some ⟨bm,0,none⟩)] w (bU g gm (cM 123 c C).1 (cM 123 c C).2 w):=by
 obtain⟨hcode1,hcode2⟩:=hcode
 have hlen:=hC.len
 refine en 17 Tryz.func115 rfl<|sg<|L0<|aP hbw 0<|L0<|fj #[] #[.pointer (some ⟨bc,0,none⟩),.pointer (some ⟨bm,0,none⟩)] (args:=#[.int .i64 123,.pointer (some ⟨bc,0,none⟩),.pointer (some ⟨bm,0,none⟩)])<|m3 (gY (most:=123) ⟨hcode1,hcode2⟩ hC hm hne hbc n_bc_g n_bc_gm hbm n_bm_g n_bm_gm) fun e b d a=>?_
 have f:=(hC).wordV
 have h:=db (d6 (hC).rng 1)
 refine ng<|?_
 refine L0<|aP (ay.blk a (ae n_ba_g (ae n_ba_gm az)) hba) 0<|nt<|cf hask<|sk<|rm (.tuple #[])<|?_
 have hs:cM 123 c C=((bC (C.wordsC 1) C.wordV 123),(aT.mk c 0 C.wordV ((C.wordsC 1).wordV) 0 0 0 0 0 0 0 0 [] [] [] [] 0 0 0 0 0 [])):=by
   unfold cM
   (try simp only[hask,bs,if_true,if_false,decide_true,decide_false,reduceIte])
   all_goals rfl
 rw[hs]
 exact⟨rfl,b,⟨_,⟨d,rfl⟩,⟨_,_,_,_,_,rfl,aR.nil ..,aR.nil ..,aR.nil ..,aR.nil ..,aR.nil ..,⟨(b8 (x:=c) (by omega)),(b8 (x:=0) (by omega)),(aJ (x:=C.wordV) (by omega)),(aJ (x:=(C.wordsC 1).wordV) (by omega)),(aJ (x:=0) (by omega)),(aJ (x:=0) (by omega)),(aJ (x:=0) (by omega)),(aJ (x:=0) (by omega)),(aJ (x:=0) (by omega)),(aJ (x:=0) (by omega)),(aJ (x:=0) (by omega)),(aJ (x:=0) (by omega)),(b8 (x:=0) (by omega)),(b8 (x:=0) (by omega)),(b8 (x:=0) (by omega)),(b8 (x:=0) (by omega)),(b8 (x:=0) (by omega))⟩⟩⟩,a⟩
theorem BR{g gm:Nat}{c:Int}{C:al}{w:World}(hcode:B8 c)(hC:ag w g C)(hm:w.heap[gm]? = some (.cells (mC c) 31 (0,0)))(hne:g≠gm){bc:Nat}{bm:Nat}(hbc:w.heap[bc]? = some (.cells #[.pointer (some ⟨g,0,none⟩)] 143 (0,0)))(n_bc_g:bc≠g)(n_bc_gm:bc≠gm)(hbm:w.heap[bm]? = some (.cells #[.pointer (some ⟨gm,0,none⟩)] 145 (0,0)))(n_bm_g:bm≠g)(n_bm_gm:bm≠gm) :
    Calls Tryz.prog 117 #[.pointer (some ⟨bc,0,none⟩),.pointer (some ⟨bm,0,none⟩)] w (bU g gm (ey c C).1 (ey c C).2 w):=by
 obtain⟨hcode1,hcode2⟩:=hcode
 have hlen:=hC.len
 refine en 17 Tryz.func117 rfl<|Rg 18 (fun w'=>w'.cell? ⟨bm,0,none⟩=some (.pointer (some ⟨gm,0,none⟩))∧w'.cell? ⟨bc,0,none⟩=some (.pointer (some ⟨g,0,none⟩))) fun L b=>?_
 have k:=ub b hbm
 have l:=ub b hbc
 refine aZ ⟨(aa k rfl),(aa l rfl)⟩ fun a=>Rl 0 a (fun _ hs=>hs.1)<|Rl 1 a (fun _ hs=>hs.1)<|Rl 2 a (fun _ hs=>hs.1)<|Rl 3 a (fun _ hs=>hs.2)<|Rl 5 a (fun _ hs=>hs.2)<|Rl 7 a (fun _ hs=>hs.2)<|?_
 refine R0 4 rfl<|Oc<|m3 (bI (ag.old hC b)) fun M F d N=>?_
 have m:=aY d n_bm_g k
 have n:=aY d n_bc_g l
 refine aZ ⟨(aa m rfl),(aa n rfl)⟩ fun O=>R0 6 rfl<|Oc<|m3 (bI F) fun P G e Q=>?_
 have o:=aY e n_bm_g m
 have p:=aY e n_bc_g n
 refine aZ ⟨(aa o rfl),(aa p rfl)⟩ fun R=>R0 8 rfl<|Oc<|m3 (bI G) fun S H f T=>?_
 have q:=aY f n_bm_g o
 have r:=aY f n_bc_g p
 refine aZ ⟨(aa q rfl),(aa r rfl)⟩ fun s=>Rt 9 s<|Rt 10 s<|?_
 have t:=uz b (u1 d (u1 e f im) im)
 have u:=aY t (Ne.symm hne) hm
 refine R0 11 rfl<|co u 2 (mG c 0 C.wordV 0 0 0 0 0 0 0 0 0 nS nS nS nS 0 0 0 0 0 nS) fun U I h=>?_
 have v:=aY h n_bm_gm q
 have y:=aY h n_bc_gm r
 refine aZ ⟨(aa v rfl),(aa y rfl)⟩ fun z=>Rt 12 z<|Rt 13 z<|R0 14 rfl<|co I 5 (mG c 0 C.wordV 0 0 ((C.wordsC 1).wordV) 0 0 0 0 0 0 nS nS nS nS 0 0 0 0 0 nS) fun V J i=>?_
 have A:=aY i n_bm_gm v
 have B:=aY i n_bc_gm y
 refine aZ ⟨(aa A rfl),(aa B rfl)⟩ fun D=>Rt 15 D<|Rt 16 D<|R0 17 rfl<|co J 6 (mG c 0 C.wordV 0 0 ((C.wordsC 1).wordV) (((C.wordsC 1).wordsC 1).wordV) 0 0 0 0 0 nS nS nS nS 0 0 0 0 0 nS) fun W K j=>?_
 refine aZ ⟨(aa (aY j n_bm_gm A) rfl),(aa (aY j n_bc_gm B) rfl)⟩ fun X=>re<|rm (.tuple #[])<|?_
 have hs:ey c C=((((C.wordsC 1).wordsC 1).wordsC 1),(aT.mk c 0 C.wordV 0 0 ((C.wordsC 1).wordV) (((C.wordsC 1).wordsC 1).wordV) 0 0 0 0 0 [] [] [] [] 0 0 0 0 0 [])):=by
   unfold ey
   (try simp only[bs,if_true,if_false,decide_true,decide_false,reduceIte])
   all_goals rfl
 rw[hs]
 have E:=u1 h (u1 i j im) im
 exact⟨rfl,(ag.upd H E (ae hne az) (aj (aM u (by decide)) aE)),⟨_,⟨K,rfl⟩,⟨_,_,_,_,_,rfl,aR.nil ..,aR.nil ..,aR.nil ..,aR.nil ..,aR.nil ..,⟨(b8 (x:=c) (by omega)),(b8 (x:=0) (by omega)),(aJ (x:=C.wordV) (by omega)),(aJ (x:=0) (by omega)),(aJ (x:=0) (by omega)),(aJ (x:=(C.wordsC 1).wordV) (by omega)),(aJ (x:=((C.wordsC 1).wordsC 1).wordV) (by omega)),(aJ (x:=0) (by omega)),(aJ (x:=0) (by omega)),(aJ (x:=0) (by omega)),(aJ (x:=0) (by omega)),(aJ (x:=0) (by omega)),(b8 (x:=0) (by omega)),(b8 (x:=0) (by omega)),(b8 (x:=0) (by omega)),(b8 (x:=0) (by omega)),(b8 (x:=0) (by omega))⟩⟩⟩,(us t E)⟩
theorem Co{g gm:Nat}{c:Int}{C:al}{w:World}(hcode:B8 c)(hC:ag w g C)(hm:w.heap[gm]? = some (.cells (mC c) 31 (0,0)))(hne:g≠gm){bc:Nat}{bm:Nat}{bw:Nat}(hbc:w.heap[bc]? = some (.cells #[.pointer (some ⟨g,0,none⟩)] 143 (0,0)))(n_bc_g:bc≠g)(n_bc_gm:bc≠gm)(hbm:w.heap[bm]? = some (.cells #[.pointer (some ⟨gm,0,none⟩)] 145 (0,0)))(n_bm_g:bm≠g)(n_bm_gm:bm≠gm)(hbw:w.heap[bw]? = some (.cells #[.func (.func 109) #[] #[.pointer (some ⟨bc,0,none⟩),.pointer (some ⟨bm,0,none⟩)]] 183 (0,0)))(n_bw_g:bw≠g)(n_bw_gm:bw≠gm) :
    Calls Tryz.prog 118 #[.pointer (some ⟨bw,0,none⟩),.pointer (some ⟨bc,0,none⟩),.pointer (some ⟨bm,0,none⟩)] w (bU g gm (ff c C).1 (ff c C).2 w):=by
 obtain⟨hcode1,hcode2⟩:=hcode
 have hlen:=hC.len
 refine en 21 Tryz.func118 rfl<|sg<|L0<|aP hbw 0<|L0<|fj #[] #[.pointer (some ⟨bc,0,none⟩),.pointer (some ⟨bm,0,none⟩)] (args:=#[.int .i64 125,.pointer (some ⟨bc,0,none⟩),.pointer (some ⟨bm,0,none⟩)])<|m3 (gY (most:=125) ⟨hcode1,hcode2⟩ hC hm hne hbc n_bc_g n_bc_gm hbm n_bm_g n_bm_gm) fun X P Q q=>?_
 have Y:=(hC).wordV
 have Z:=db (d6 (hC).rng 1)
 refine nt<|sq<|Rg 6 (fun w'=>w'.cell? ⟨bm,0,none⟩=some (.pointer (some ⟨gm,0,none⟩))∧w'.cell? ⟨bc,0,none⟩=some (.pointer (some ⟨g,0,none⟩))) fun a0 k=>?_
 have o:=aD q k
 have r:=ay.blk o (ae n_bm_g (ae n_bm_gm az)) hbm
 have s:=ay.blk o (ae n_bc_g (ae n_bc_gm az)) hbc
 refine aZ ⟨(aa r rfl),(aa s rfl)⟩ fun t=>Rl 0 t (fun _ hs=>hs.1)<|Rl 1 t (fun _ hs=>hs.2)<|?_
 refine R0 2 rfl<|Oc<|m3 (bI (ag.old P k)) fun a1 R d a2=>?_
 have u:=aY d n_bm_g r
 have v:=aY d n_bc_g s
 refine aZ ⟨(aa u rfl),(aa v rfl)⟩ fun y=>Rt 3 y<|Rt 4 y<|?_
 have z:=aY (uz k d) (Ne.symm hne) Q
 refine R0 5 rfl<|co z 7 (mG c 0 C.wordV ((C.wordsC 1).wordV) 0 0 0 ((bC (C.wordsC 1) C.wordV 125).wordV) 0 0 0 0 nS nS nS nS 0 0 0 0 0 nS) fun a3 S l=>?_
 have A:=aY l n_bm_gm u
 have B:=aY l n_bc_gm v
 refine aZ ⟨(aa A rfl),(aa B rfl)⟩ fun a4=>re<|tn<|Rg 12 (fun w'=>w'.cell? ⟨bm,0,none⟩=some (.pointer (some ⟨gm,0,none⟩))∧w'.cell? ⟨bc,0,none⟩=some (.pointer (some ⟨g,0,none⟩))∧w'.cell? ⟨gm,7,none⟩=some (.int .u16 ((bC (C.wordsC 1) C.wordV 125).wordV))) fun a5 f=>?_
 have D:=ub f A
 have E:=ub f B
 have F:=ub f S
 refine aZ ⟨(aa D rfl),(aa E rfl),(aa F rfl)⟩ fun b=>Rl 0 b (fun _ hs=>hs.1)<|Rl 1 b (fun _ hs=>hs.2.1)<|Rl 2 b (fun _ hs=>hs.2.1)<|Rl 3 b (fun _ hs=>hs.1)<|Rt 4 b<|Rt 5 b<|Rl 6 b (fun _ hs=>hs.2.2)<|?_
 have G:=aD l f
 refine R0 7 rfl<|Oc<|m3 (lG (a:=(bC (C.wordsC 1) C.wordV 125).wordV) (most:=121) (ag.upd R G (ae hne az) (aj (aM z (by decide)) aE)) (by omega)) fun a6 T i a7=>?_
 have H:=aY i n_bm_g D
 have I:=aY i n_bc_g E
 have J:=aY i (Ne.symm hne) F
 refine aZ ⟨(aa H rfl),(aa I rfl),(aa J rfl)⟩ fun a8=>R0 8 rfl<|Oc<|si (jt (n:=((bC (C.wordsC 1) C.wordV 125).wordsC 1).wordV) T (by omega)) fun U V a9 K ab ad W m=>?_
 have L:=aY m n_bm_g H
 have M:=aY m n_bc_g I
 have p:=aY m (Ne.symm hne) J
 refine aZ ⟨(aa L rfl),(aa M rfl),(aa p rfl)⟩ fun N=>Rt 9 N<|Rt 10 N<|R0 11 rfl<|co p 12 (mG c 0 C.wordV ((C.wordsC 1).wordV) 0 0 0 ((bC (C.wordsC 1) C.wordV 125).wordV) 0 0 0 0 (.slice U (((cv (bC ((bC (C.wordsC 1) C.wordV 125).wordsC 1) ((bC (C.wordsC 1) C.wordV 125).wordV) 121) (((bC (C.wordsC 1) C.wordV 125).wordsC 1).wordV)).wordsR (((bC (C.wordsC 1) C.wordV 125).wordsC 1).wordV)).length) V) nS nS nS 0 0 0 0 0 nS) fun af O j=>?_
 refine aZ ⟨(aa (aY j n_bm_gm L) rfl),(aa (aY j n_bc_gm M) rfl),(aa O rfl)⟩ fun ah=>re<|rm (.tuple #[])<|?_
 have hs:ff c C=(((cv (bC ((bC (C.wordsC 1) C.wordV 125).wordsC 1) ((bC (C.wordsC 1) C.wordV 125).wordV) 121) (((bC (C.wordsC 1) C.wordV 125).wordsC 1).wordV)).wordsC (((bC (C.wordsC 1) C.wordV 125).wordsC 1).wordV)),(aT.mk c 0 C.wordV ((C.wordsC 1).wordV) 0 0 0 ((bC (C.wordsC 1) C.wordV 125).wordV) 0 0 0 0 ((cv (bC ((bC (C.wordsC 1) C.wordV 125).wordsC 1) ((bC (C.wordsC 1) C.wordV 125).wordV) 121) (((bC (C.wordsC 1) C.wordV 125).wordsC 1).wordV)).wordsR (((bC (C.wordsC 1) C.wordV 125).wordsC 1).wordV)) [] [] [] 0 0 0 0 0 [])):=by
   unfold ff gR rJ fu
   (try simp only[bs,if_true,if_false,decide_true,decide_false,reduceIte])
   all_goals rfl
 rw[hs]
 exact⟨rfl,(ag.upd W j (ae hne az) (aj (aM p (by decide)) aE)),⟨_,⟨O,rfl⟩,⟨_,_,_,_,_,rfl,((ak K j (fun x hx=>(ae (fun e=>(aC (am hm) (le (le (le (le (le q.size k.size) d.size) l.size) f.size) i.size) K) (e▸hx)) az)) (fun _ _ h=>h))).rd,aR.nil ..,aR.nil ..,aR.nil ..,aR.nil ..,⟨(b8 (x:=c) (by omega)),(b8 (x:=0) (by omega)),(aJ (x:=C.wordV) (by omega)),(aJ (x:=(C.wordsC 1).wordV) (by omega)),(aJ (x:=0) (by omega)),(aJ (x:=0) (by omega)),(aJ (x:=0) (by omega)),(aJ (x:=(bC (C.wordsC 1) C.wordV 125).wordV) (by omega)),(aJ (x:=0) (by omega)),(aJ (x:=0) (by omega)),(aJ (x:=0) (by omega)),(aJ (x:=0) (by omega)),(b8 (x:=0) (by omega)),(b8 (x:=0) (by omega)),(b8 (x:=0) (by omega)),(b8 (x:=0) (by omega)),(b8 (x:=0) (by omega))⟩⟩⟩,(ut o (ui d (ui G (ui i (us m j)))) (ac im (ac im au)))⟩
theorem Cv{g gm:Nat}{c:Int}{C:al}{w:World}(hcode:B8 c)(hC:ag w g C)(hm:w.heap[gm]? = some (.cells (mC c) 31 (0,0)))(hne:g≠gm){bc:Nat}{bm:Nat}(hbc:w.heap[bc]? = some (.cells #[.pointer (some ⟨g,0,none⟩)] 143 (0,0)))(n_bc_g:bc≠g)(n_bc_gm:bc≠gm)(hbm:w.heap[bm]? = some (.cells #[.pointer (some ⟨gm,0,none⟩)] 145 (0,0)))(n_bm_g:bm≠g)(n_bm_gm:bm≠gm) :
    Calls Tryz.prog 119 #[.pointer (some ⟨bc,0,none⟩),.pointer (some ⟨bm,0,none⟩)] w (bU g gm (fa c C).1 (fa c C).2 w):=by
 obtain⟨hcode1,hcode2⟩:=hcode
 have hlen:=hC.len
 refine en 7 Tryz.func119 rfl<|Rg 6 (fun w'=>w'.cell? ⟨bm,0,none⟩=some (.pointer (some ⟨gm,0,none⟩))∧w'.cell? ⟨bc,0,none⟩=some (.pointer (some ⟨g,0,none⟩))) fun p a=>?_
 have e:=ub a hbm
 have f:=ub a hbc
 refine aZ ⟨(aa e rfl),(aa f rfl)⟩ fun h=>Rl 0 h (fun _ hs=>hs.1)<|Rl 1 h (fun _ hs=>hs.2)<|?_
 refine R0 2 rfl<|Oc<|m3 (bI (ag.old hC a)) fun q n d r=>?_
 have i:=aY d n_bm_g e
 have j:=aY d n_bc_g f
 refine aZ ⟨(aa i rfl),(aa j rfl)⟩ fun k=>Rt 3 k<|Rt 4 k<|?_
 have l:=uz a d
 have m:=aY l (Ne.symm hne) hm
 refine R0 5 rfl<|co m 2 (mG c 0 C.wordV 0 0 0 0 0 0 0 0 0 nS nS nS nS 0 0 0 0 0 nS) fun s o b=>?_
 refine aZ ⟨(aa (aY b n_bm_gm i) rfl),(aa (aY b n_bc_gm j) rfl)⟩ fun t=>re<|rm (.tuple #[])<|?_
 have hs:fa c C=((C.wordsC 1),(aT.mk c 0 C.wordV 0 0 0 0 0 0 0 0 0 [] [] [] [] 0 0 0 0 0 [])):=by
   unfold fa
   (try simp only[bs,if_true,if_false,decide_true,decide_false,reduceIte])
   all_goals rfl
 rw[hs]
 exact⟨rfl,(ag.upd n b (ae hne az) (aj (aM m (by decide)) aE)),⟨_,⟨o,rfl⟩,⟨_,_,_,_,_,rfl,aR.nil ..,aR.nil ..,aR.nil ..,aR.nil ..,aR.nil ..,⟨(b8 (x:=c) (by omega)),(b8 (x:=0) (by omega)),(aJ (x:=C.wordV) (by omega)),(aJ (x:=0) (by omega)),(aJ (x:=0) (by omega)),(aJ (x:=0) (by omega)),(aJ (x:=0) (by omega)),(aJ (x:=0) (by omega)),(aJ (x:=0) (by omega)),(aJ (x:=0) (by omega)),(aJ (x:=0) (by omega)),(aJ (x:=0) (by omega)),(b8 (x:=0) (by omega)),(b8 (x:=0) (by omega)),(b8 (x:=0) (by omega)),(b8 (x:=0) (by omega)),(b8 (x:=0) (by omega))⟩⟩⟩,(us l b)⟩
theorem Cx{g gm:Nat}{c:Int}{C:al}{w:World}(hcode:B8 c)(hC:ag w g C)(hm:w.heap[gm]? = some (.cells (mC c) 31 (0,0)))(hne:g≠gm){bc:Nat}{bm:Nat}(hbc:w.heap[bc]? = some (.cells #[.pointer (some ⟨g,0,none⟩)] 143 (0,0)))(n_bc_g:bc≠g)(n_bc_gm:bc≠gm)(hbm:w.heap[bm]? = some (.cells #[.pointer (some ⟨gm,0,none⟩)] 145 (0,0)))(n_bm_g:bm≠g)(n_bm_gm:bm≠gm) :
    Calls Tryz.prog 120 #[.pointer (some ⟨bc,0,none⟩),.pointer (some ⟨bm,0,none⟩)] w (bU g gm (vx c C).1 (vx c C).2 w):=by
 obtain⟨hcode1,hcode2⟩:=hcode
 have hlen:=hC.len
 refine en 36 Tryz.func120 rfl<|sg<|L0<|aP hbc 0<|L0<|Oc<|m3 (bI hC) fun T G k U=>L0<|Oi C.wordV<|Pl 1<|ng<|?_
 have l:=aY k n_bc_g hbc
 refine L0<|aP l 0<|Pl 1<|L0<|Oe (.int .i64 (Int.tmod C.wordV 2)) (.int .i64 (C.wordV%2)) (congrArg (Value.int .i64) (Int.tmod_eq_emod_of_nonneg (by omega)))<|Pl 2<|cu 3 [11] 14 ((((C.wordV%2)==0)&&(decide (2≤C.wordV)))) (fun K m=>?_) ?_
 refine bl 11 (((C.wordV%2)==0)) (fun a=>?_) (fun a=>?_)
 have H:=ax a
 exact Pl 3<|ce m (decide (2≤C.wordV)) (by rw[a];rfl)
 have H:=aA a
 exact Pl 3<|ce m false (by rw[a];rfl)
 refine Pl 1<|cu 3 [15] 18 (((((C.wordV%2)==0)&&(decide (2≤C.wordV)))&&(decide (C.wordV≤64)))) (fun K o=>?_) ?_
 refine bl 15 ((((C.wordV%2)==0)&&(decide (2≤C.wordV)))) (fun b=>?_) (fun b=>?_)
 have I:=(bM b).1
 have J:=(bM b).2
 have V:=ax I
 have W:=of_decide_eq_true J
 exact Pl 3<|ce o (decide (C.wordV≤64)) (by rw[b];rfl)
 exact Pl 3<|ce o false (by rw[b];rfl)
 refine L0<|Oc<|m2 (aU (((((C.wordV%2)==0)&&(decide (2≤C.wordV)))&&(decide (C.wordV≤64)))) 5 G) fun X L p=>ng<|?_
 have q:=aY p n_bc_g l
 refine L0<|aP q 0<|L0<|Oc<|m3 (bI L) fun Y M r Z=>L0<|Oi (((C.wordsC 1).need ((((C.wordV%2)==0)&&(decide (2≤C.wordV)))&&(decide (C.wordV≤64))) 5).wordV)<|Pl 1<|ng<|?_
 have s:=aY r n_bc_g q
 refine L0<|aP s 0<|Pl 1<|L0<|Oi (2*(((C.wordsC 1).need ((((C.wordV%2)==0)&&(decide (2≤C.wordV)))&&(decide (C.wordV≤64))) 5).wordV))<|L0<|Oi (2+(2*(((C.wordsC 1).need ((((C.wordV%2)==0)&&(decide (2≤C.wordV)))&&(decide (C.wordV≤64))) 5).wordV)))<|Pl 2<|L0<|Oc<|m2 (aU (((2+(2*(((C.wordsC 1).need ((((C.wordV%2)==0)&&(decide (2≤C.wordV)))&&(decide (C.wordV≤64))) 5).wordV)))==C.wordV)) 5 M) fun a0 N O=>nt<|Rg 7 (fun w'=>w'.cell? ⟨bm,0,none⟩=some (.pointer (some ⟨gm,0,none⟩))∧w'.cell? ⟨bc,0,none⟩=some (.pointer (some ⟨g,0,none⟩))) fun a1 t=>?_
 have u:=aD O t
 have f:=u1 k (u1 p (u1 r u im) im) im
 have v:=aY f n_bm_g hbm
 have y:=aY u n_bc_g s
 refine aZ ⟨(aa v rfl),(aa y rfl)⟩ fun i=>Rl 0 i (fun _ hs=>hs.1)<|Rl 1 i (fun _ hs=>hs.2)<|Rt 2 i<|?_
 refine R0 3 rfl<|Oc<|si (dQ (n:=((C.wordsC 1).need ((((C.wordV%2)==0)&&(decide (2≤C.wordV)))&&(decide (C.wordV≤64))) 5).wordV) (ag.old N t)) fun P Q a2 z a3 a4 R j=>?_
 have A:=aY j n_bm_g v
 have B:=aY j n_bc_g y
 refine aZ ⟨(aa A rfl),(aa B rfl)⟩ fun D=>Rt 4 D<|Rt 5 D<|?_
 have E:=u1 f j im
 have F:=aY E (Ne.symm hne) hm
 refine R0 6 rfl<|co F 12 (mG c 0 0 0 0 0 0 0 0 0 0 0 (.slice P ((((((C.wordsC 1).need ((((C.wordV%2)==0)&&(decide (2≤C.wordV)))&&(decide (C.wordV≤64))) 5).wordsC 1).need ((2+(2*(((C.wordsC 1).need ((((C.wordV%2)==0)&&(decide (2≤C.wordV)))&&(decide (C.wordV≤64))) 5).wordV)))==C.wordV) 5).wordsR (((C.wordsC 1).need ((((C.wordV%2)==0)&&(decide (2≤C.wordV)))&&(decide (C.wordV≤64))) 5).wordV)).length) Q) nS nS nS 0 0 0 0 0 nS) fun a5 S d=>?_
 refine aZ ⟨(aa (aY d n_bm_gm A) rfl),(aa (aY d n_bc_gm B) rfl)⟩ fun a6=>re<|rm (.tuple #[])<|?_
 have hs:vx c C=((((((C.wordsC 1).need ((((C.wordV%2)==0)&&(decide (2≤C.wordV)))&&(decide (C.wordV≤64))) 5).wordsC 1).need ((2+(2*(((C.wordsC 1).need ((((C.wordV%2)==0)&&(decide (2≤C.wordV)))&&(decide (C.wordV≤64))) 5).wordV)))==C.wordV) 5).wordsC (((C.wordsC 1).need ((((C.wordV%2)==0)&&(decide (2≤C.wordV)))&&(decide (C.wordV≤64))) 5).wordV)),(aT.mk c 0 0 0 0 0 0 0 0 0 0 0 (((((C.wordsC 1).need ((((C.wordV%2)==0)&&(decide (2≤C.wordV)))&&(decide (C.wordV≤64))) 5).wordsC 1).need ((2+(2*(((C.wordsC 1).need ((((C.wordV%2)==0)&&(decide (2≤C.wordV)))&&(decide (C.wordV≤64))) 5).wordV)))==C.wordV) 5).wordsR (((C.wordsC 1).need ((((C.wordV%2)==0)&&(decide (2≤C.wordV)))&&(decide (C.wordV≤64))) 5).wordV)) [] [] [] 0 0 0 0 0 [])):=by
   unfold vx yt sL ja
   (try simp only[bs,if_true,if_false,decide_true,decide_false,reduceIte])
   all_goals rfl
 rw[hs]
 exact⟨rfl,(ag.upd R d (ae hne az) (aj (aM F (by decide)) aE)),⟨_,⟨S,rfl⟩,⟨_,_,_,_,_,rfl,((ak z d (fun x hx=>(ae (fun e=>(aC (am hm) f.size z) (e▸hx)) az)) (fun _ _ h=>h))).rd,aR.nil ..,aR.nil ..,aR.nil ..,aR.nil ..,⟨(b8 (x:=c) (by omega)),(b8 (x:=0) (by omega)),(aJ (x:=0) (by omega)),(aJ (x:=0) (by omega)),(aJ (x:=0) (by omega)),(aJ (x:=0) (by omega)),(aJ (x:=0) (by omega)),(aJ (x:=0) (by omega)),(aJ (x:=0) (by omega)),(aJ (x:=0) (by omega)),(aJ (x:=0) (by omega)),(aJ (x:=0) (by omega)),(b8 (x:=0) (by omega)),(b8 (x:=0) (by omega)),(b8 (x:=0) (by omega)),(b8 (x:=0) (by omega)),(b8 (x:=0) (by omega))⟩⟩⟩,(us E d)⟩
open Go.RowKit
theorem tJ{g gm:Nat}{C:al}{w:World}(hC:ag w g C)(hm:w.heap[gm]? = some (.cells (mC 3) 31 (0,0)))(hne:g≠gm) : Calls Tryz.prog 86 #[.int .i64 0,.pointer (some ⟨gm,0,none⟩),.pointer (some ⟨g,0,none⟩)] w (ia (fun W=>bU g gm (cM 125 3 C).1 (cM 125 3 C).2 W) w):=by
 refine en 67 Tryz.func86 rfl<|sg<|L0<|cI #[.pointer (some ⟨gm,0,none⟩)] fun n D f o a=>L0<|cI #[.pointer (some ⟨g,0,none⟩)] fun p E h q b=>Pl 1<|ng<|Pl 1<|L0<|bN #[.nilFunc] fun r F d s t=>L0<|co s 0 #[.func (.func 109) #[] #[.pointer (some ⟨p,0,none⟩),.pointer (some ⟨n,0,none⟩)]] fun G u v=>nl<|?_
 refine tn<|sg<|Pl 2<|L0<|bN #[.bool false] fun H I x y z=>L0<|co y 0 #[.bool true] fun J A B=>nt<|sq<|sg<|?_
 have i:=ud z B x
 have j:=ud t (aD v i) d
 have k:=aD b j
 have l:=ub k o
 refine L0<|aP l 0<|Pl 2<|?_
 have e:=aD a k
 have m:=ub e hm
 refine L0<|aP m 0<|Pl 1<|nt<|bk<|sg<|L0<|aP A 0<|Pl 9<|nt<|c1<|sg<|?_
 refine Pl 2<|nt<|rt<|br<|tr<|rr (.func (.func 111) #[] #[.pointer (some ⟨r,0,none⟩)])<|?_
 exact⟨_,_,rfl,by kernel_rfl,e,BV (c:=3) ⟨by decide,by decide⟩ (ag.old hC e) m hne (ub j q) (Ne.symm (nb (ag.lt hC) a.size h)) (Ne.symm (nb (am hm) a.size h)) l (Ne.symm (nb (ag.lt hC) lr f)) (Ne.symm (nb (am hm) lr f)) (ub i u) (Ne.symm (nb (ag.lt hC) (le a.size b.size) d)) (Ne.symm (nb (am hm) (le a.size b.size) d))⟩
theorem tR{g gm:Nat}{C:al}{w:World}(hC:ag w g C)(hm:w.heap[gm]? = some (.cells (mC 4) 31 (0,0)))(hne:g≠gm) : Calls Tryz.prog 86 #[.int .i64 0,.pointer (some ⟨gm,0,none⟩),.pointer (some ⟨g,0,none⟩)] w (ia (fun W=>bU g gm (cM 125 4 C).1 (cM 125 4 C).2 W) w):=by
 refine en 67 Tryz.func86 rfl<|sg<|L0<|cI #[.pointer (some ⟨gm,0,none⟩)] fun n D f o a=>L0<|cI #[.pointer (some ⟨g,0,none⟩)] fun p E h q b=>Pl 1<|ng<|Pl 1<|L0<|bN #[.nilFunc] fun r F d s t=>L0<|co s 0 #[.func (.func 109) #[] #[.pointer (some ⟨p,0,none⟩),.pointer (some ⟨n,0,none⟩)]] fun G u v=>nl<|?_
 refine tn<|sg<|Pl 2<|L0<|bN #[.bool false] fun H I x y z=>L0<|co y 0 #[.bool true] fun J A B=>nt<|sq<|sg<|?_
 have i:=ud z B x
 have j:=ud t (aD v i) d
 have k:=aD b j
 have l:=ub k o
 refine L0<|aP l 0<|Pl 2<|?_
 have e:=aD a k
 have m:=ub e hm
 refine L0<|aP m 0<|Pl 1<|nt<|bk<|sg<|L0<|aP A 0<|Pl 9<|nt<|c1<|sg<|?_
 refine Pl 2<|nt<|rt<|br<|tr<|rr (.func (.func 111) #[] #[.pointer (some ⟨r,0,none⟩)])<|?_
 exact⟨_,_,rfl,by kernel_rfl,e,BV (c:=4) ⟨by decide,by decide⟩ (ag.old hC e) m hne (ub j q) (Ne.symm (nb (ag.lt hC) a.size h)) (Ne.symm (nb (am hm) a.size h)) l (Ne.symm (nb (ag.lt hC) lr f)) (Ne.symm (nb (am hm) lr f)) (ub i u) (Ne.symm (nb (ag.lt hC) (le a.size b.size) d)) (Ne.symm (nb (am hm) (le a.size b.size) d))⟩
theorem sZ{g gm:Nat}{C:al}{w:World}(hC:ag w g C)(hm:w.heap[gm]? = some (.cells (mC 3) 31 (0,0)))(hne:g≠gm) : Calls Tryz.prog 86 #[.int .i64 1,.pointer (some ⟨gm,0,none⟩),.pointer (some ⟨g,0,none⟩)] w (ia (fun W=>bU g gm (dr 3 C).1 (dr 3 C).2 W) w):=by
 refine en 67 Tryz.func86 rfl<|sg<|L0<|cI #[.pointer (some ⟨gm,0,none⟩)] fun d z e m a=>L0<|cI #[.pointer (some ⟨g,0,none⟩)] fun f A h n o=>Pl 1<|ng<|Pl 1<|L0<|bN #[.nilFunc] fun B D p q r=>L0<|co q 0 #[.func (.func 109) #[] #[.pointer (some ⟨f,0,none⟩),.pointer (some ⟨d,0,none⟩)]] fun E F s=>nl<|?_
 refine tn<|sg<|Pl 2<|L0<|bN #[.bool false] fun G H t u v=>L0<|co u 0 #[.bool false] fun I x y=>nt<|sq<|sg<|?_
 have i:=ud r (aD s (ud v y t)) p
 have j:=aD o i
 have k:=ub j m
 refine L0<|aP k 0<|Pl 2<|?_
 have b:=aD a j
 have l:=ub b hm
 refine L0<|aP l 0<|Pl 1<|nt<|bk<|sg<|L0<|aP x 0<|Pl 9<|nt<|c0<|sq<|sq<|?_
 refine go<|Pl 3<|nt<|c1<|bK<|c1<|sg<|Pl 2<|nt<|rt<|?_
 refine br<|tr<|rr (.func (.func 112) #[] #[.pointer (some ⟨f,0,none⟩),.pointer (some ⟨d,0,none⟩)])<|?_
 exact⟨_,_,rfl,by kernel_rfl,b,BK (c:=3) ⟨by decide,by decide⟩ (ag.old hC b) l hne (ub i n) (Ne.symm (nb (ag.lt hC) a.size h)) (Ne.symm (nb (am hm) a.size h)) k (Ne.symm (nb (ag.lt hC) lr e)) (Ne.symm (nb (am hm) lr e))⟩
theorem sF{g gm:Nat}{C:al}{w:World}(hC:ag w g C)(hm:w.heap[gm]? = some (.cells (mC 4) 31 (0,0)))(hne:g≠gm) : Calls Tryz.prog 86 #[.int .i64 1,.pointer (some ⟨gm,0,none⟩),.pointer (some ⟨g,0,none⟩)] w (ia (fun W=>bU g gm (dr 4 C).1 (dr 4 C).2 W) w):=by
 refine en 67 Tryz.func86 rfl<|sg<|L0<|cI #[.pointer (some ⟨gm,0,none⟩)] fun d z e m a=>L0<|cI #[.pointer (some ⟨g,0,none⟩)] fun f A h n o=>Pl 1<|ng<|Pl 1<|L0<|bN #[.nilFunc] fun B D p q r=>L0<|co q 0 #[.func (.func 109) #[] #[.pointer (some ⟨f,0,none⟩),.pointer (some ⟨d,0,none⟩)]] fun E F s=>nl<|?_
 refine tn<|sg<|Pl 2<|L0<|bN #[.bool false] fun G H t u v=>L0<|co u 0 #[.bool false] fun I x y=>nt<|sq<|sg<|?_
 have i:=ud r (aD s (ud v y t)) p
 have j:=aD o i
 have k:=ub j m
 refine L0<|aP k 0<|Pl 2<|?_
 have b:=aD a j
 have l:=ub b hm
 refine L0<|aP l 0<|Pl 1<|nt<|bk<|sg<|L0<|aP x 0<|Pl 9<|nt<|c0<|sq<|sq<|?_
 refine go<|Pl 3<|nt<|c0<|sg<|Pl 3<|nt<|c1<|bK<|c1<|?_
 refine sg<|Pl 2<|nt<|rt<|br<|tr<|rr (.func (.func 112) #[] #[.pointer (some ⟨f,0,none⟩),.pointer (some ⟨d,0,none⟩)])<|?_
 exact⟨_,_,rfl,by kernel_rfl,b,BK (c:=4) ⟨by decide,by decide⟩ (ag.old hC b) l hne (ub i n) (Ne.symm (nb (ag.lt hC) a.size h)) (Ne.symm (nb (am hm) a.size h)) k (Ne.symm (nb (ag.lt hC) lr e)) (Ne.symm (nb (am hm) lr e))⟩
theorem u0{g gm:Nat}{C:al}{w:World}(hC:ag w g C)(hm:w.heap[gm]? = some (.cells (mC 6) 31 (0,0)))(hne:g≠gm) : Calls Tryz.prog 86 #[.int .i64 0,.pointer (some ⟨gm,0,none⟩),.pointer (some ⟨g,0,none⟩)] w (ia (fun W=>bU g gm (fU 6 C).1 (fU 6 C).2 W) w):=by
 refine en 67 Tryz.func86 rfl<|sg<|L0<|cI #[.pointer (some ⟨gm,0,none⟩)] fun d z e m a=>L0<|cI #[.pointer (some ⟨g,0,none⟩)] fun f A h n o=>Pl 1<|ng<|Pl 1<|L0<|bN #[.nilFunc] fun B D p q r=>L0<|co q 0 #[.func (.func 109) #[] #[.pointer (some ⟨f,0,none⟩),.pointer (some ⟨d,0,none⟩)]] fun E F s=>nl<|?_
 refine tn<|sg<|Pl 2<|L0<|bN #[.bool false] fun G H t u v=>L0<|co u 0 #[.bool true] fun I x y=>nt<|sq<|sg<|?_
 have i:=ud r (aD s (ud v y t)) p
 have j:=aD o i
 have k:=ub j m
 refine L0<|aP k 0<|Pl 2<|?_
 have b:=aD a j
 have l:=ub b hm
 refine L0<|aP l 0<|Pl 1<|nt<|bk<|sg<|L0<|aP x 0<|Pl 9<|nt<|c0<|sq<|sq<|?_
 refine go<|Pl 3<|nt<|c0<|sg<|Pl 3<|nt<|c0<|go<|Pl 7<|nl<|?_
 refine tn<|c0<|sg<|Pl 3<|nt<|c1<|sg<|Pl 2<|nt<|rt<|?_
 refine br<|tr<|rr (.func (.func 114) #[] #[.pointer (some ⟨f,0,none⟩),.pointer (some ⟨d,0,none⟩)])<|?_
 exact⟨_,_,rfl,by kernel_rfl,b,BM (c:=6) ⟨by decide,by decide⟩ (ag.old hC b) l hne (ub i n) (Ne.symm (nb (ag.lt hC) a.size h)) (Ne.symm (nb (am hm) a.size h)) k (Ne.symm (nb (ag.lt hC) lr e)) (Ne.symm (nb (am hm) lr e))⟩
theorem tE{g gm:Nat}{C:al}{w:World}(hC:ag w g C)(hm:w.heap[gm]? = some (.cells (mC 6) 31 (0,0)))(hne:g≠gm) : Calls Tryz.prog 86 #[.int .i64 1,.pointer (some ⟨gm,0,none⟩),.pointer (some ⟨g,0,none⟩)] w (ia (fun W=>bU g gm (fU 6 C).1 (fU 6 C).2 W) w):=by
 refine en 67 Tryz.func86 rfl<|sg<|L0<|cI #[.pointer (some ⟨gm,0,none⟩)] fun d z e m a=>L0<|cI #[.pointer (some ⟨g,0,none⟩)] fun f A h n o=>Pl 1<|ng<|Pl 1<|L0<|bN #[.nilFunc] fun B D p q r=>L0<|co q 0 #[.func (.func 109) #[] #[.pointer (some ⟨f,0,none⟩),.pointer (some ⟨d,0,none⟩)]] fun E F s=>nl<|?_
 refine tn<|sg<|Pl 2<|L0<|bN #[.bool false] fun G H t u v=>L0<|co u 0 #[.bool false] fun I x y=>nt<|sq<|sg<|?_
 have i:=ud r (aD s (ud v y t)) p
 have j:=aD o i
 have k:=ub j m
 refine L0<|aP k 0<|Pl 2<|?_
 have b:=aD a j
 have l:=ub b hm
 refine L0<|aP l 0<|Pl 1<|nt<|bk<|sg<|L0<|aP x 0<|Pl 9<|nt<|c0<|sq<|sq<|?_
 refine go<|Pl 3<|nt<|c0<|sg<|Pl 3<|nt<|c0<|go<|Pl 7<|nl<|?_
 refine tn<|c0<|sg<|Pl 3<|nt<|c1<|sg<|Pl 2<|nt<|rt<|?_
 refine br<|tr<|rr (.func (.func 114) #[] #[.pointer (some ⟨f,0,none⟩),.pointer (some ⟨d,0,none⟩)])<|?_
 exact⟨_,_,rfl,by kernel_rfl,b,BM (c:=6) ⟨by decide,by decide⟩ (ag.old hC b) l hne (ub i n) (Ne.symm (nb (ag.lt hC) a.size h)) (Ne.symm (nb (am hm) a.size h)) k (Ne.symm (nb (ag.lt hC) lr e)) (Ne.symm (nb (am hm) lr e))⟩
theorem rl{g gm:Nat}{C:al}{w:World}(hC:ag w g C)(hm:w.heap[gm]? = some (.cells (mC 16) 31 (0,0)))(hne:g≠gm) : Calls Tryz.prog 86 #[.int .i64 0,.pointer (some ⟨gm,0,none⟩),.pointer (some ⟨g,0,none⟩)] w (ia (fun W=>bU g gm (eV 16 C).1 (eV 16 C).2 W) w):=by
 refine en 67 Tryz.func86 rfl<|sg<|L0<|cI #[.pointer (some ⟨gm,0,none⟩)] fun j E k t a=>L0<|cI #[.pointer (some ⟨g,0,none⟩)] fun l F m u b=>Pl 1<|ng<|Pl 1<|L0<|bN #[.nilFunc] fun v G d x e=>L0<|co x 0 #[.func (.func 109) #[] #[.pointer (some ⟨l,0,none⟩),.pointer (some ⟨j,0,none⟩)]] fun H y f=>nl<|?_
 refine tn<|sg<|Pl 2<|L0<|bN #[.bool false] fun z I h A B=>L0<|co A 0 #[.bool true] fun J n D=>nt<|sq<|sg<|?_
 have o:=ud B D h
 have p:=ud e (aD f o) d
 have q:=aD b p
 have r:=ub q t
 refine L0<|aP r 0<|Pl 2<|?_
 have i:=aD a q
 have s:=ub i hm
 refine L0<|aP s 0<|Pl 1<|nt<|bk<|sg<|L0<|aP n 0<|Pl 9<|nt<|c0<|sq<|sq<|?_
 refine go<|Pl 3<|nt<|c0<|sg<|Pl 3<|nt<|c0<|go<|Pl 7<|nl<|?_
 refine tn<|c0<|sg<|Pl 3<|nt<|c0<|sg<|Pl 3<|nt<|c1<|?_
 refine sg<|Pl 2<|nt<|rt<|br<|tr<|rr (.func (.func 115) #[] #[.pointer (some ⟨v,0,none⟩),.pointer (some ⟨z,0,none⟩),.pointer (some ⟨l,0,none⟩),.pointer (some ⟨j,0,none⟩)])<|?_
 exact⟨_,_,rfl,by kernel_rfl,i,B9 (c:=16) ⟨by decide,by decide⟩ (ag.old hC i) s hne (ub p u) (Ne.symm (nb (ag.lt hC) a.size m)) (Ne.symm (nb (am hm) a.size m)) r (Ne.symm (nb (ag.lt hC) lr k)) (Ne.symm (nb (am hm) lr k)) (ub o y) (Ne.symm (nb (ag.lt hC) (le a.size b.size) d)) (Ne.symm (nb (am hm) (le a.size b.size) d)) n (Ne.symm (nb (ag.lt hC) (le (le (le a.size b.size) e.size) f.size) h)) (Ne.symm (nb (am hm) (le (le (le a.size b.size) e.size) f.size) h)) rfl⟩
theorem qE{g gm:Nat}{C:al}{w:World}(hC:ag w g C)(hm:w.heap[gm]? = some (.cells (mC 16) 31 (0,0)))(hne:g≠gm) : Calls Tryz.prog 86 #[.int .i64 1,.pointer (some ⟨gm,0,none⟩),.pointer (some ⟨g,0,none⟩)] w (ia (fun W=>bU g gm (cM 123 16 C).1 (cM 123 16 C).2 W) w):=by
 refine en 67 Tryz.func86 rfl<|sg<|L0<|cI #[.pointer (some ⟨gm,0,none⟩)] fun j E k t a=>L0<|cI #[.pointer (some ⟨g,0,none⟩)] fun l F m u b=>Pl 1<|ng<|Pl 1<|L0<|bN #[.nilFunc] fun v G d x e=>L0<|co x 0 #[.func (.func 109) #[] #[.pointer (some ⟨l,0,none⟩),.pointer (some ⟨j,0,none⟩)]] fun H y f=>nl<|?_
 refine tn<|sg<|Pl 2<|L0<|bN #[.bool false] fun z I h A B=>L0<|co A 0 #[.bool false] fun J n D=>nt<|sq<|sg<|?_
 have o:=ud B D h
 have p:=ud e (aD f o) d
 have q:=aD b p
 have r:=ub q t
 refine L0<|aP r 0<|Pl 2<|?_
 have i:=aD a q
 have s:=ub i hm
 refine L0<|aP s 0<|Pl 1<|nt<|bk<|sg<|L0<|aP n 0<|Pl 9<|nt<|c0<|sq<|sq<|?_
 refine go<|Pl 3<|nt<|c0<|sg<|Pl 3<|nt<|c0<|go<|Pl 7<|nl<|?_
 refine tn<|c0<|sg<|Pl 3<|nt<|c0<|sg<|Pl 3<|nt<|c1<|?_
 refine sg<|Pl 2<|nt<|rt<|br<|tr<|rr (.func (.func 115) #[] #[.pointer (some ⟨v,0,none⟩),.pointer (some ⟨z,0,none⟩),.pointer (some ⟨l,0,none⟩),.pointer (some ⟨j,0,none⟩)])<|?_
 exact⟨_,_,rfl,by kernel_rfl,i,BC (c:=16) ⟨by decide,by decide⟩ (ag.old hC i) s hne (ub p u) (Ne.symm (nb (ag.lt hC) a.size m)) (Ne.symm (nb (am hm) a.size m)) r (Ne.symm (nb (ag.lt hC) lr k)) (Ne.symm (nb (am hm) lr k)) (ub o y) (Ne.symm (nb (ag.lt hC) (le a.size b.size) d)) (Ne.symm (nb (am hm) (le a.size b.size) d)) n (Ne.symm (nb (ag.lt hC) (le (le (le a.size b.size) e.size) f.size) h)) (Ne.symm (nb (am hm) (le (le (le a.size b.size) e.size) f.size) h)) rfl⟩
theorem rj{g gm:Nat}{C:al}{w:World}(hC:ag w g C)(hm:w.heap[gm]? = some (.cells (mC 22) 31 (0,0)))(hne:g≠gm) : Calls Tryz.prog 86 #[.int .i64 0,.pointer (some ⟨gm,0,none⟩),.pointer (some ⟨g,0,none⟩)] w (ia (fun W=>bU g gm (ey 22 C).1 (ey 22 C).2 W) w):=by
 refine en 67 Tryz.func86 rfl<|sg<|L0<|cI #[.pointer (some ⟨gm,0,none⟩)] fun d z e m a=>L0<|cI #[.pointer (some ⟨g,0,none⟩)] fun f A h n o=>Pl 1<|ng<|Pl 1<|L0<|bN #[.nilFunc] fun B D p q r=>L0<|co q 0 #[.func (.func 109) #[] #[.pointer (some ⟨f,0,none⟩),.pointer (some ⟨d,0,none⟩)]] fun E F s=>nl<|?_
 refine tn<|sg<|Pl 2<|L0<|bN #[.bool false] fun G H t u v=>L0<|co u 0 #[.bool true] fun I x y=>nt<|sq<|sg<|?_
 have i:=ud r (aD s (ud v y t)) p
 have j:=aD o i
 have k:=ub j m
 refine L0<|aP k 0<|Pl 2<|?_
 have b:=aD a j
 have l:=ub b hm
 refine L0<|aP l 0<|Pl 1<|nt<|bk<|sg<|L0<|aP x 0<|Pl 9<|nt<|c0<|sq<|sq<|?_
 refine go<|Pl 3<|nt<|c0<|sg<|Pl 3<|nt<|c0<|go<|Pl 7<|nl<|?_
 refine tn<|c0<|sg<|Pl 3<|nt<|c0<|sg<|Pl 3<|nt<|c0<|?_
 refine sg<|Pl 3<|nt<|c1<|sg<|Pl 2<|nt<|rt<|br<|tr<|?_
 refine rr (.func (.func 117) #[] #[.pointer (some ⟨f,0,none⟩),.pointer (some ⟨d,0,none⟩)])<|?_
 exact⟨_,_,rfl,by kernel_rfl,b,BR (c:=22) ⟨by decide,by decide⟩ (ag.old hC b) l hne (ub i n) (Ne.symm (nb (ag.lt hC) a.size h)) (Ne.symm (nb (am hm) a.size h)) k (Ne.symm (nb (ag.lt hC) lr e)) (Ne.symm (nb (am hm) lr e))⟩
theorem qj{g gm:Nat}{C:al}{w:World}(hC:ag w g C)(hm:w.heap[gm]? = some (.cells (mC 22) 31 (0,0)))(hne:g≠gm) : Calls Tryz.prog 86 #[.int .i64 1,.pointer (some ⟨gm,0,none⟩),.pointer (some ⟨g,0,none⟩)] w (ia (fun W=>bU g gm (ey 22 C).1 (ey 22 C).2 W) w):=by
 refine en 67 Tryz.func86 rfl<|sg<|L0<|cI #[.pointer (some ⟨gm,0,none⟩)] fun d z e m a=>L0<|cI #[.pointer (some ⟨g,0,none⟩)] fun f A h n o=>Pl 1<|ng<|Pl 1<|L0<|bN #[.nilFunc] fun B D p q r=>L0<|co q 0 #[.func (.func 109) #[] #[.pointer (some ⟨f,0,none⟩),.pointer (some ⟨d,0,none⟩)]] fun E F s=>nl<|?_
 refine tn<|sg<|Pl 2<|L0<|bN #[.bool false] fun G H t u v=>L0<|co u 0 #[.bool false] fun I x y=>nt<|sq<|sg<|?_
 have i:=ud r (aD s (ud v y t)) p
 have j:=aD o i
 have k:=ub j m
 refine L0<|aP k 0<|Pl 2<|?_
 have b:=aD a j
 have l:=ub b hm
 refine L0<|aP l 0<|Pl 1<|nt<|bk<|sg<|L0<|aP x 0<|Pl 9<|nt<|c0<|sq<|sq<|?_
 refine go<|Pl 3<|nt<|c0<|sg<|Pl 3<|nt<|c0<|go<|Pl 7<|nl<|?_
 refine tn<|c0<|sg<|Pl 3<|nt<|c0<|sg<|Pl 3<|nt<|c0<|?_
 refine sg<|Pl 3<|nt<|c1<|sg<|Pl 2<|nt<|rt<|br<|tr<|?_
 refine rr (.func (.func 117) #[] #[.pointer (some ⟨f,0,none⟩),.pointer (some ⟨d,0,none⟩)])<|?_
 exact⟨_,_,rfl,by kernel_rfl,b,BR (c:=22) ⟨by decide,by decide⟩ (ag.old hC b) l hne (ub i n) (Ne.symm (nb (ag.lt hC) a.size h)) (Ne.symm (nb (am hm) a.size h)) k (Ne.symm (nb (ag.lt hC) lr e)) (Ne.symm (nb (am hm) lr e))⟩
theorem qm{g gm:Nat}{C:al}{w:World}(hC:ag w g C)(hm:w.heap[gm]? = some (.cells (mC 23) 31 (0,0)))(hne:g≠gm) : Calls Tryz.prog 86 #[.int .i64 0,.pointer (some ⟨gm,0,none⟩),.pointer (some ⟨g,0,none⟩)] w (ia (fun W=>bU g gm (ff 23 C).1 (ff 23 C).2 W) w):=by
 refine en 67 Tryz.func86 rfl<|sg<|L0<|cI #[.pointer (some ⟨gm,0,none⟩)] fun f D h q a=>L0<|cI #[.pointer (some ⟨g,0,none⟩)] fun i E j r b=>Pl 1<|ng<|Pl 1<|L0<|bN #[.nilFunc] fun s F d t u=>L0<|co t 0 #[.func (.func 109) #[] #[.pointer (some ⟨i,0,none⟩),.pointer (some ⟨f,0,none⟩)]] fun G v x=>nl<|?_
 refine tn<|sg<|Pl 2<|L0<|bN #[.bool false] fun H I y z A=>L0<|co z 0 #[.bool true] fun J k B=>nt<|sq<|sg<|?_
 have l:=ud A B y
 have m:=ud u (aD x l) d
 have n:=aD b m
 have o:=ub n q
 refine L0<|aP o 0<|Pl 2<|?_
 have e:=aD a n
 have p:=ub e hm
 refine L0<|aP p 0<|Pl 1<|nt<|bk<|sg<|L0<|aP k 0<|Pl 9<|nt<|c0<|sq<|sq<|?_
 refine go<|Pl 3<|nt<|c0<|sg<|Pl 3<|nt<|c0<|go<|Pl 3<|L1<|aP k 0<|?_
 refine Pl 3<|nt<|c0<|sg<|Pl 3<|nt<|c0<|sg<|Pl 3<|nl<|?_
 refine tn<|c0<|sg<|Pl 3<|nt<|c0<|sg<|Pl 3<|nt<|c1<|?_
 refine sg<|Pl 2<|nt<|rt<|br<|tr<|rr (.func (.func 118) #[] #[.pointer (some ⟨s,0,none⟩),.pointer (some ⟨i,0,none⟩),.pointer (some ⟨f,0,none⟩)])<|?_
 exact⟨_,_,rfl,by kernel_rfl,e,Co (c:=23) ⟨by decide,by decide⟩ (ag.old hC e) p hne (ub m r) (Ne.symm (nb (ag.lt hC) a.size j)) (Ne.symm (nb (am hm) a.size j)) o (Ne.symm (nb (ag.lt hC) lr h)) (Ne.symm (nb (am hm) lr h)) (ub l v) (Ne.symm (nb (ag.lt hC) (le a.size b.size) d)) (Ne.symm (nb (am hm) (le a.size b.size) d))⟩
theorem qU{g gm:Nat}{C:al}{w:World}(hC:ag w g C)(hm:w.heap[gm]? = some (.cells (mC 23) 31 (0,0)))(hne:g≠gm) : Calls Tryz.prog 86 #[.int .i64 1,.pointer (some ⟨gm,0,none⟩),.pointer (some ⟨g,0,none⟩)] w (ia (fun W=>bU g gm (dr 23 C).1 (dr 23 C).2 W) w):=by
 refine en 67 Tryz.func86 rfl<|sg<|L0<|cI #[.pointer (some ⟨gm,0,none⟩)] fun d z e n a=>L0<|cI #[.pointer (some ⟨g,0,none⟩)] fun f A h o p=>Pl 1<|ng<|Pl 1<|L0<|bN #[.nilFunc] fun B D q r s=>L0<|co r 0 #[.func (.func 109) #[] #[.pointer (some ⟨f,0,none⟩),.pointer (some ⟨d,0,none⟩)]] fun E F t=>nl<|?_
 refine tn<|sg<|Pl 2<|L0<|bN #[.bool false] fun G H u v x=>L0<|co v 0 #[.bool false] fun I i y=>nt<|sq<|sg<|?_
 have j:=ud s (aD t (ud x y u)) q
 have k:=aD p j
 have l:=ub k n
 refine L0<|aP l 0<|Pl 2<|?_
 have b:=aD a k
 have m:=ub b hm
 refine L0<|aP m 0<|Pl 1<|nt<|bk<|sg<|L0<|aP i 0<|Pl 9<|nt<|c0<|sq<|sq<|?_
 refine go<|Pl 3<|nt<|c0<|sg<|Pl 3<|nt<|c0<|go<|Pl 3<|L1<|aP i 0<|?_
 refine Pl 3<|nt<|c1<|sg<|Pl 2<|nt<|rt<|br<|tr<|rr (.func (.func 112) #[] #[.pointer (some ⟨f,0,none⟩),.pointer (some ⟨d,0,none⟩)])<|?_
 exact⟨_,_,rfl,by kernel_rfl,b,BK (c:=23) ⟨by decide,by decide⟩ (ag.old hC b) m hne (ub j o) (Ne.symm (nb (ag.lt hC) a.size h)) (Ne.symm (nb (am hm) a.size h)) l (Ne.symm (nb (ag.lt hC) lr e)) (Ne.symm (nb (am hm) lr e))⟩
theorem pT{g gm:Nat}{C:al}{w:World}(hC:ag w g C)(hm:w.heap[gm]? = some (.cells (mC 24) 31 (0,0)))(hne:g≠gm) : Calls Tryz.prog 86 #[.int .i64 0,.pointer (some ⟨gm,0,none⟩),.pointer (some ⟨g,0,none⟩)] w (ia (fun W=>bU g gm (fa 24 C).1 (fa 24 C).2 W) w):=by
 refine en 67 Tryz.func86 rfl<|sg<|L0<|cI #[.pointer (some ⟨gm,0,none⟩)] fun d z e n a=>L0<|cI #[.pointer (some ⟨g,0,none⟩)] fun f A h o p=>Pl 1<|ng<|Pl 1<|L0<|bN #[.nilFunc] fun B D q r s=>L0<|co r 0 #[.func (.func 109) #[] #[.pointer (some ⟨f,0,none⟩),.pointer (some ⟨d,0,none⟩)]] fun E F t=>nl<|?_
 refine tn<|sg<|Pl 2<|L0<|bN #[.bool false] fun G H u v x=>L0<|co v 0 #[.bool true] fun I i y=>nt<|sq<|sg<|?_
 have j:=ud s (aD t (ud x y u)) q
 have k:=aD p j
 have l:=ub k n
 refine L0<|aP l 0<|Pl 2<|?_
 have b:=aD a k
 have m:=ub b hm
 refine L0<|aP m 0<|Pl 1<|nt<|bk<|sg<|L0<|aP i 0<|Pl 9<|nt<|c0<|sq<|sq<|?_
 refine go<|Pl 3<|nt<|c0<|sg<|Pl 3<|nt<|c0<|go<|Pl 7<|nl<|?_
 refine tn<|c0<|sg<|Pl 3<|nt<|c0<|sg<|Pl 3<|nt<|c0<|?_
 refine sg<|Pl 3<|nt<|c0<|sg<|Pl 3<|nt<|c0<|sg<|?_
 refine Pl 3<|L1<|aP i 0<|Pl 2<|nt<|c1<|sg<|Pl 2<|nt<|rt<|br<|tr<|?_
 refine rr (.func (.func 119) #[] #[.pointer (some ⟨f,0,none⟩),.pointer (some ⟨d,0,none⟩)])<|?_
 exact⟨_,_,rfl,by kernel_rfl,b,Cv (c:=24) ⟨by decide,by decide⟩ (ag.old hC b) m hne (ub j o) (Ne.symm (nb (ag.lt hC) a.size h)) (Ne.symm (nb (am hm) a.size h)) l (Ne.symm (nb (ag.lt hC) lr e)) (Ne.symm (nb (am hm) lr e))⟩
theorem qH{g gm:Nat}{C:al}{w:World}(hC:ag w g C)(hm:w.heap[gm]? = some (.cells (mC 24) 31 (0,0)))(hne:g≠gm) : Calls Tryz.prog 86 #[.int .i64 1,.pointer (some ⟨gm,0,none⟩),.pointer (some ⟨g,0,none⟩)] w (ia (fun W=>bU g gm (vx 24 C).1 (vx 24 C).2 W) w):=by
 refine en 67 Tryz.func86 rfl<|sg<|L0<|cI #[.pointer (some ⟨gm,0,none⟩)] fun d z e n a=>L0<|cI #[.pointer (some ⟨g,0,none⟩)] fun f A h o p=>Pl 1<|ng<|Pl 1<|L0<|bN #[.nilFunc] fun B D q r s=>L0<|co r 0 #[.func (.func 109) #[] #[.pointer (some ⟨f,0,none⟩),.pointer (some ⟨d,0,none⟩)]] fun E F t=>nl<|?_
 refine tn<|sg<|Pl 2<|L0<|bN #[.bool false] fun G H u v x=>L0<|co v 0 #[.bool false] fun I i y=>nt<|sq<|sg<|?_
 have j:=ud s (aD t (ud x y u)) q
 have k:=aD p j
 have l:=ub k n
 refine L0<|aP l 0<|Pl 2<|?_
 have b:=aD a k
 have m:=ub b hm
 refine L0<|aP m 0<|Pl 1<|nt<|bk<|sg<|L0<|aP i 0<|Pl 9<|nt<|c0<|sq<|sq<|?_
 refine go<|Pl 3<|nt<|c0<|sg<|Pl 3<|nt<|c0<|go<|Pl 7<|nl<|?_
 refine tn<|c0<|sg<|Pl 3<|nt<|c0<|sg<|Pl 3<|nt<|c0<|?_
 refine sg<|Pl 3<|nt<|c0<|sg<|Pl 3<|nt<|c0<|sg<|?_
 refine Pl 3<|L1<|aP i 0<|Pl 2<|nt<|c0<|sg<|Pl 3<|nt<|c1<|sg<|?_
 refine Pl 2<|nt<|rt<|br<|tr<|rr (.func (.func 120) #[] #[.pointer (some ⟨f,0,none⟩),.pointer (some ⟨d,0,none⟩)])<|?_
 exact⟨_,_,rfl,by kernel_rfl,b,Cx (c:=24) ⟨by decide,by decide⟩ (ag.old hC b) m hne (ub j o) (Ne.symm (nb (ag.lt hC) a.size h)) (Ne.symm (nb (am hm) a.size h)) l (Ne.symm (nb (ag.lt hC) lr e)) (Ne.symm (nb (am hm) lr e))⟩
theorem pH{c:Int}{g gm:Nat}{C:al}{w:World}(hC:ag w g C)(hm:w.heap[gm]? = some (.cells (mC c) 31 (0,0)))(hne:g≠gm)(k3:(c==3)=false)(k4:(c==4)=false)(k6:(c==6)=false)(f:(c==16)=false)(h:(c==22)=false)(a:(c==23)=false)(b:(c==24)=false) : Calls Tryz.prog 86 #[.int .i64 0,.pointer (some ⟨gm,0,none⟩),.pointer (some ⟨g,0,none⟩)] w (bv .nilFunc w):=by
 refine en 67 Tryz.func86 rfl<|sg<|L0<|cI #[.pointer (some ⟨gm,0,none⟩)] fun i x y j k=>L0<|cI #[.pointer (some ⟨g,0,none⟩)] fun l z A B m=>Pl 1<|ng<|Pl 1<|L0<|bN #[.nilFunc] fun D E n o p=>L0<|co o 0 #[.func (.func 109) #[] #[.pointer (some ⟨l,0,none⟩),.pointer (some ⟨i,0,none⟩)]] fun F G q=>nl<|?_
 refine tn<|sg<|Pl 2<|L0<|bN #[.bool false] fun H I r s t=>L0<|co s 0 #[.bool true] fun J u v=>nt<|sq<|sg<|?_
 have d:=aD m (ud p (aD q (ud t v r)) n)
 refine L0<|aP (ub d j) 0<|Pl 2<|?_
 have e:=aD k d
 refine L0<|aP (ub e hm) 0<|Pl 1<|nt<|bk<|sg<|L0<|aP u 0<|Pl 4<|sy 22 k3<|Pl 5<|nt<|cf k4<|?_
 refine sq<|sg<|Pl 3<|nt<|cf k3<|sg<|Pl 3<|nt<|cf k4<|go<|?_
 refine Pl 3<|sy 35 a<|Pl 4<|nt<|c0<|sg<|Pl 3<|nt<|cf k6<|sg<|?_
 refine Pl 3<|nt<|cf f<|sg<|Pl 3<|nt<|cf h<|sg<|Pl 3<|nl<|?_
 refine tn<|cf a<|sg<|Pl 3<|sy 59 b<|Pl 3<|nt<|c0<|sg<|Pl 3<|nl<|?_
 refine tn<|cf b<|sk<|bn<|tn<|sg<|Pl 1<|nt<|rt<|rr (.nilFunc)<|?_
 exact⟨rfl,e⟩
theorem qV{c:Int}{g gm:Nat}{C:al}{w:World}(hC:ag w g C)(hm:w.heap[gm]? = some (.cells (mC c) 31 (0,0)))(hne:g≠gm)(k3:(c==3)=false)(k4:(c==4)=false)(k6:(c==6)=false)(f:(c==16)=false)(h:(c==22)=false)(a:(c==23)=false)(b:(c==24)=false) : Calls Tryz.prog 86 #[.int .i64 1,.pointer (some ⟨gm,0,none⟩),.pointer (some ⟨g,0,none⟩)] w (bv .nilFunc w):=by
 refine en 67 Tryz.func86 rfl<|sg<|L0<|cI #[.pointer (some ⟨gm,0,none⟩)] fun i x y j k=>L0<|cI #[.pointer (some ⟨g,0,none⟩)] fun l z A B m=>Pl 1<|ng<|Pl 1<|L0<|bN #[.nilFunc] fun D E n o p=>L0<|co o 0 #[.func (.func 109) #[] #[.pointer (some ⟨l,0,none⟩),.pointer (some ⟨i,0,none⟩)]] fun F G q=>nl<|?_
 refine tn<|sg<|Pl 2<|L0<|bN #[.bool false] fun H I r s t=>L0<|co s 0 #[.bool false] fun J u v=>nt<|sq<|sg<|?_
 have d:=aD m (ud p (aD q (ud t v r)) n)
 refine L0<|aP (ub d j) 0<|Pl 2<|?_
 have e:=aD k d
 refine L0<|aP (ub e hm) 0<|Pl 1<|nt<|bk<|sg<|L0<|aP u 0<|Pl 9<|nt<|c0<|sq<|sq<|?_
 refine go<|Pl 3<|nt<|cf k3<|sg<|Pl 3<|nt<|cf k4<|go<|Pl 3<|sy 35 a<|?_
 refine Pl 4<|nt<|c0<|sg<|Pl 3<|nt<|cf k6<|sg<|Pl 3<|nl<|?_
 refine tn<|cf f<|sg<|Pl 3<|nt<|cf h<|sg<|Pl 3<|nt<|cf a<|?_
 refine sg<|Pl 3<|sy 59 b<|Pl 3<|nt<|c0<|sg<|Pl 3<|nt<|cf b<|?_
 refine sk<|bn<|tn<|sg<|Pl 1<|nt<|rt<|rr (.nilFunc)<|?_
 exact⟨rfl,e⟩
theorem kM{dir c:Int}{r:al × aT}{g gm:Nat}{C:al}{w:World}(hC:ag w g C)(hm:w.heap[gm]? = some (.cells (mC c) 31 (0,0)))(hne:g≠gm)(hd:dir=0∨dir=1)(h:bG dir c C=some r) : Calls Tryz.prog 86 #[.int .i64 dir,.pointer (some ⟨gm,0,none⟩),.pointer (some ⟨g,0,none⟩)] w (ia (fun W=>bU g gm r.1 r.2 W) w):=by
  by_cases h3:c=3
  · subst h3
    rcases hd with rfl|rfl
    · obtain rfl:cM 125 3 C=r:=Option.some.inj h
      exact tJ hC hm hne
    · obtain rfl:dr 3 C=r:=Option.some.inj h
      exact sZ hC hm hne
  by_cases h4:c=4
  · subst h4
    rcases hd with rfl|rfl
    · obtain rfl:cM 125 4 C=r:=Option.some.inj h
      exact tR hC hm hne
    · obtain rfl:dr 4 C=r:=Option.some.inj h
      exact sF hC hm hne
  by_cases h6:c=6
  · subst h6
    rcases hd with rfl|rfl
    · obtain rfl:fU 6 C=r:=Option.some.inj h
      exact u0 hC hm hne
    · obtain rfl:fU 6 C=r:=Option.some.inj h
      exact tE hC hm hne
  by_cases a:c=16
  · subst a
    rcases hd with rfl|rfl
    · obtain rfl:eV 16 C=r:=Option.some.inj h
      exact rl hC hm hne
    · obtain rfl:cM 123 16 C=r:=Option.some.inj h
      exact qE hC hm hne
  by_cases b:c=22
  · subst b
    rcases hd with rfl|rfl
    · obtain rfl:ey 22 C=r:=Option.some.inj h
      exact rj hC hm hne
    · obtain rfl:ey 22 C=r:=Option.some.inj h
      exact qj hC hm hne
  by_cases d:c=23
  · subst d
    rcases hd with rfl|rfl
    · obtain rfl:ff 23 C=r:=Option.some.inj h
      exact qm hC hm hne
    · obtain rfl:dr 23 C=r:=Option.some.inj h
      exact qU hC hm hne
  by_cases e:c=24
  · subst e
    rcases hd with rfl|rfl
    · obtain rfl:fa 24 C=r:=Option.some.inj h
      exact pT hC hm hne
    · obtain rfl:vx 24 C=r:=Option.some.inj h
      exact qH hC hm hne
  exfalso
  unfold bG at h
  simp[h3,h4,h6,a,b,d,e] at h
theorem lc{dir c:Int}{g gm:Nat}{C:al}{w:World}(hC:ag w g C)(hm:w.heap[gm]? = some (.cells (mC c) 31 (0,0)))(hne:g≠gm)(hd:dir=0∨dir=1)(h:bG dir c C=none) : Calls Tryz.prog 86 #[.int .i64 dir,.pointer (some ⟨gm,0,none⟩),.pointer (some ⟨g,0,none⟩)] w (bv .nilFunc w):=by
  have k3:(c==3)=false:=by
    cases hk:(c==3)
    · rfl
    · obtain rfl:c=3:=by simpa using hk
      rcases hd with rfl|rfl<;>cases h
  have k4:(c==4)=false:=by
    cases hk:(c==4)
    · rfl
    · obtain rfl:c=4:=by simpa using hk
      rcases hd with rfl|rfl<;>cases h
  have k6:(c==6)=false:=by
    cases hk:(c==6)
    · rfl
    · obtain rfl:c=6:=by simpa using hk
      rcases hd with rfl|rfl<;>cases h
  have a:(c==16)=false:=by
    cases hk:(c==16)
    · rfl
    · obtain rfl:c=16:=by simpa using hk
      rcases hd with rfl|rfl<;>cases h
  have b:(c==22)=false:=by
    cases hk:(c==22)
    · rfl
    · obtain rfl:c=22:=by simpa using hk
      rcases hd with rfl|rfl<;>cases h
  have d:(c==23)=false:=by
    cases hk:(c==23)
    · rfl
    · obtain rfl:c=23:=by simpa using hk
      rcases hd with rfl|rfl<;>cases h
  have e:(c==24)=false:=by
    cases hk:(c==24)
    · rfl
    · obtain rfl:c=24:=by simpa using hk
      rcases hd with rfl|rfl<;>cases h
  rcases hd with rfl|rfl
  · exact pH hC hm hne k3 k4 k6 a b d e
  · exact qV hC hm hne k3 k4 k6 a b d e
open Go.RowKit
theorem n7{m:Bool}{A:Option Addr}{cp:Nat}{b:List Int}{w:World}{c:Int}(hcode:B8 c)(hsl:aS m w (.slice A b.length cp) b)(hb:b.length≤1048576) :
    Calls Tryz.prog 60 #[.int .i64 0,.int .u8 c,.slice A b.length cp] w (dC (aq bG 0 c b) w):=by
 obtain⟨hcode1,hcode2⟩:=hcode
 have hln:(b.length:Int)≤1048576:=by omega
 refine en 40 Tryz.func60 rfl<|sg<|L0<|bN mZ fun U V l j v=>Pl 1<|nt<|sq<|sg<|Pl 6<|nt<|c0<|?_
 refine bK<|sg<|Pl 2<|L0<|bN mZ fun W X g n K=>L0<|bi n (mC c) fun Y x o=>ng<|Pl 1<|?_
 have h:=ud K o g
 have p:=aD v h
 refine L0<|Oc<|e3 (dq (aS.old hsl p) (by omega)) fun Z a0 d y a=>Pl 1<|ng<|Pl 2<|?_
 have z:=aD p a
 refine wo (bG 0 c ⟨b,false,0⟩) (fun hr=>?_) (fun r hr=>?_)
 refine L0<|Oc<|m1 (lc (dir:=0) (c:=c) y (ub a x) (Ne.symm (nb (am n) o.size d)) (Or.inl rfl) hr) fun a1 B=>Pl 1<|nt<|sq<|sg<|Pl 2<|nt<|c1<|sg<|Pl 1<|?_
 refine L0<|bi (ub (aD h (aD a B)) j) mZ fun a2 L M=>Pl 1<|nt<|rt<|tr<|d9 L (.int .i64 4)<|?_
 have hs:aq bG 0 c b=(aT.zero,4):=by
   unfold aq
   (try simp only[bs,if_true,if_false,decide_true,decide_false,eq_self,true_or,or_true,or_false,false_or,if_true,if_false,dR,dM,dN,dP,reduceIte,hr])
   all_goals rfl
 rw[hs]
 exact bV (ud z (uz B M) l)
 have C:=nb (am n) o.size d
 refine L0<|Oc<|AG (kM (dir:=0) (c:=c) y (ub a x) (Ne.symm C) (Or.inl rfl) hr) fun N D a3 O E hcall51=>Pl 1<|nt<|sq<|sg<|Pl 2<|nt<|c0<|bK<|sq<|?_
 refine go<|Pl 1<|L0<|fj (f:=N) (args:=D) (hf:=O) #[] D<|m3 (hcall51) fun a4 F P G=>?_
 obtain⟨Q,k,q⟩:=P
 refine ng<|Pl 1<|L0<|Oc<|m2 (bQ F) fun a5 H s=>nt<|sq<|sg<|Pl 1<|L0<|Oc<|mq (bp H)<|?_
 have a6:=ag.len H
 refine Pl 1<|ng<|Pl 2<|nt<|?_
 have t:=uz E (u1 G s im)
 have I:=ut z t (ac (ni p.size d) (ac (ni v.size g) au))
 refine cb ((r.1.endC.e != 0)) (fun i=>?_) (fun i=>?_)
 have u:=aB i
 refine sg<|Pl 2<|?_
 refine L0<|bi (ub (ud h (ud a t d) g) j) mZ fun a7 R S=>Pl 1<|nt<|rt<|tr<|d9 R (.int .i64 r.1.endC.e)<|?_
 have hs:aq bG 0 c b=b7 r.2 r.1:=by
   unfold aq
   (try simp only[i,bs,if_true,if_false,decide_true,decide_false,eq_self,true_or,or_true,or_false,false_or,if_true,if_false,dR,dM,dN,dP,reduceIte,hr])
   all_goals rfl
 rw[hs]
 exact bg u (ud I S l)
 have u:=ah i
 refine bK<|sg<|?_
 refine L0<|cj (hz:=(by rw[k.2];exact aV)) (aY s C k.1)<|?_
 refine L0<|bi (hz:=(by rw[k.2];exact aV)) (hv:=q.size) (h1:=q.one) (ub (ud h (ud a t d) g) j) (Q) fun a8 T J=>Pl 1<|nt<|rt<|fc 22 k.2 T (.int .i64 0)<|?_
 have hs:aq bG 0 c b=b7 r.2 r.1:=by
   unfold aq
   (try simp only[i,bs,if_true,if_false,decide_true,decide_false,eq_self,true_or,or_true,or_false,false_or,if_true,if_false,dR,dM,dN,dP,reduceIte,hr])
   all_goals rfl
 rw[hs]
 exact bt u (aF.upd q (us s J) (aj (ag.safe F _ (by decide)) (aj (aM (ub (ud h (ud a (uz E G) d) g) j) (by decide)) aE))) (ud I J l)
theorem nf{m:Bool}{A:Option Addr}{cp:Nat}{b:List Int}{w:World}{c:Int}(hcode:B8 c)(hsl:aS m w (.slice A b.length cp) b)(hb:b.length≤1048576) :
    Calls Tryz.prog 60 #[.int .i64 1,.int .u8 c,.slice A b.length cp] w (dC (aq bG 1 c b) w):=by
 obtain⟨hcode1,hcode2⟩:=hcode
 have hln:(b.length:Int)≤1048576:=by omega
 refine en 40 Tryz.func60 rfl<|sg<|L0<|bN mZ fun U V l j v=>Pl 1<|nt<|sq<|sg<|Pl 6<|nt<|c0<|?_
 refine bK<|sg<|Pl 2<|L0<|bN mZ fun W X g n K=>L0<|bi n (mC c) fun Y x o=>ng<|Pl 1<|?_
 have h:=ud K o g
 have p:=aD v h
 refine L0<|Oc<|e3 (dq (aS.old hsl p) (by omega)) fun Z a0 d y a=>Pl 1<|ng<|Pl 2<|?_
 have z:=aD p a
 refine wo (bG 1 c ⟨b,false,0⟩) (fun hr=>?_) (fun r hr=>?_)
 refine L0<|Oc<|m1 (lc (dir:=1) (c:=c) y (ub a x) (Ne.symm (nb (am n) o.size d)) (Or.inr rfl) hr) fun a1 B=>Pl 1<|nt<|sq<|sg<|Pl 2<|nt<|c1<|sg<|Pl 1<|?_
 refine L0<|bi (ub (aD h (aD a B)) j) mZ fun a2 L M=>Pl 1<|nt<|rt<|tr<|d9 L (.int .i64 4)<|?_
 have hs:aq bG 1 c b=(aT.zero,4):=by
   unfold aq
   (try simp only[bs,if_true,if_false,decide_true,decide_false,eq_self,true_or,or_true,or_false,false_or,if_true,if_false,dR,dM,dN,dP,reduceIte,hr])
   all_goals rfl
 rw[hs]
 exact bV (ud z (uz B M) l)
 have C:=nb (am n) o.size d
 refine L0<|Oc<|AG (kM (dir:=1) (c:=c) y (ub a x) (Ne.symm C) (Or.inr rfl) hr) fun N D a3 O E hcall51=>Pl 1<|nt<|sq<|sg<|Pl 2<|nt<|c0<|bK<|sq<|?_
 refine go<|Pl 1<|L0<|fj (f:=N) (args:=D) (hf:=O) #[] D<|m3 (hcall51) fun a4 F P G=>?_
 obtain⟨Q,k,q⟩:=P
 refine ng<|Pl 1<|L0<|Oc<|m2 (bQ F) fun a5 H s=>nt<|sq<|sg<|Pl 1<|L0<|Oc<|mq (bp H)<|?_
 have a6:=ag.len H
 refine Pl 1<|ng<|Pl 2<|nt<|?_
 have t:=uz E (u1 G s im)
 have I:=ut z t (ac (ni p.size d) (ac (ni v.size g) au))
 refine cb ((r.1.endC.e != 0)) (fun i=>?_) (fun i=>?_)
 have u:=aB i
 refine sg<|Pl 2<|?_
 refine L0<|bi (ub (ud h (ud a t d) g) j) mZ fun a7 R S=>Pl 1<|nt<|rt<|tr<|d9 R (.int .i64 r.1.endC.e)<|?_
 have hs:aq bG 1 c b=b7 r.2 r.1:=by
   unfold aq
   (try simp only[i,bs,if_true,if_false,decide_true,decide_false,eq_self,true_or,or_true,or_false,false_or,if_true,if_false,dR,dM,dN,dP,reduceIte,hr])
   all_goals rfl
 rw[hs]
 exact bg u (ud I S l)
 have u:=ah i
 refine bK<|sg<|?_
 refine L0<|cj (hz:=(by rw[k.2];exact aV)) (aY s C k.1)<|?_
 refine L0<|bi (hz:=(by rw[k.2];exact aV)) (hv:=q.size) (h1:=q.one) (ub (ud h (ud a t d) g) j) (Q) fun a8 T J=>Pl 1<|nt<|rt<|fc 22 k.2 T (.int .i64 0)<|?_
 have hs:aq bG 1 c b=b7 r.2 r.1:=by
   unfold aq
   (try simp only[i,bs,if_true,if_false,decide_true,decide_false,eq_self,true_or,or_true,or_false,false_or,if_true,if_false,dR,dM,dN,dP,reduceIte,hr])
   all_goals rfl
 rw[hs]
 exact bt u (aF.upd q (us s J) (aj (ag.safe F _ (by decide)) (aj (aM (ub (ud h (ud a (uz E G) d) g) j) (by decide)) aE))) (ud I J l)
theorem mQ{m:Bool}{A:Option Addr}{cp:Nat}{b:List Int}{w:World}{dir c:Int}(hcode:B8 c)(hsl:aS m w (.slice A b.length cp) b)(hb:b.length≤1048576)(hd:¬ (dir=0∨dir=1)) :
    Calls Tryz.prog 60 #[.int .i64 dir,.int .u8 c,.slice A b.length cp] w (dC (aq bG dir c b) w):=by
 obtain⟨hcode1,hcode2⟩:=hcode
 have hln:(b.length:Int)≤1048576:=by omega
 have e0:(dir != 0)=true:=by simp;omega
 have e1:(dir != 1)=true:=by simp;omega
 refine en 40 Tryz.func60 rfl<|sg<|L0<|bN mZ fun g h a d e=>Pl 1<|nt<|sq<|sg<|Pl 3<|sy 14 e0<|Pl 3<|nl<|?_
 refine tn<|ct e1<|sg<|Pl 1<|L0<|bi d mZ fun i dA f=>Pl 1<|nt<|rt<|tr<|d9 dA (.int .i64 1)<|?_
 have hs:aq bG dir c b=(aT.zero,1):=by
   unfold aq bG
   (try simp only[e0,e1,bs,if_true,if_false,decide_true,decide_false,eq_self,true_or,or_true,or_false,false_or,if_true,if_false,dR,dM,dN,dP,reduceIte,hd])
   all_goals rfl
 rw[hs]
 exact bV (ud e f a)
theorem kW{m:Bool}{v:Value}{b:List Int}{w:World}{dir c:Int}(hc:B8 c)(h:aS m w v b)(hb:b.length≤1048576) :
    Calls Tryz.prog 60 #[.int .i64 dir,.int .u8 c,v] w (dC (aq bG dir c b) w):=by
  obtain⟨A,cp,rfl,_,_⟩:=h.shape
  by_cases h0:dir=0
  · subst h0;exact n7 hc h hb
  by_cases h1:dir=1
  · subst h1;exact nf hc h hb
  exact mQ hc h hb (by omega)
open Go.RowKit
theorem kV{most:Int}{g gm:Nat}{c:Int}{C:al}{w:World}(hcode:B8 c)(hC:ag w g C)(hm:w.heap[gm]? = some (.cells (mC c) 31 (0,0)))(hne:g≠gm) :
    Calls Tryz.prog 103 #[.agg #[.pointer (some ⟨g,0,none⟩),.pointer (some ⟨gm,0,none⟩)],.int .u16 most] w (qX g gm (bX C most) (mG c 0 C.wordV (C.wordsC 1).wordV 0 0 0 0 0 0 0 0 nS nS nS nS 0 0 0 0 0 nS) w):=by
 obtain⟨hcode1,hcode2⟩:=hcode
 have hlen:=hC.len
 refine en 51 Tryz.func103 rfl<|sg<|L0<|cI #[.pointer (some ⟨g,0,none⟩),.pointer (some ⟨gm,0,none⟩)] fun f an P a7 a8=>nt<|sq<|Rg 8 (fun w'=>w'.cell? ⟨f,1,none⟩=some (.pointer (some ⟨gm,0,none⟩))∧w'.cell? ⟨f,0,none⟩=some (.pointer (some ⟨g,0,none⟩))) fun ao Q=>?_
 have t:=ub Q a7
 refine aZ ⟨(aa t rfl),(aa t rfl)⟩ fun o=>Rt 0 o<|Rl 1 o (fun _ hs=>hs.1)<|Rt 2 o<|Rl 3 o (fun _ hs=>hs.2)<|?_
 have R:=aD a8 Q
 refine R0 4 rfl<|Oc<|m3 (bI (ag.old hC R)) fun ap a9 S aq=>?_
 have h:=nb (ag.lt hC) lr P
 have u:=aY S (Ne.symm h) t
 refine aZ ⟨(aa u rfl),(aa u rfl)⟩ fun T=>Rt 5 T<|Rt 6 T<|?_
 have U:=uz R S
 have V:=aY U (Ne.symm hne) hm
 refine R0 7 rfl<|co V 2 (mG c 0 C.wordV 0 0 0 0 0 0 0 0 0 nS nS nS nS 0 0 0 0 0 nS) fun ar ab W=>?_
 have X:=nb (am hm) lr P
 have v:=aY W (Ne.symm X) u
 refine aZ ⟨(aa v rfl),(aa v rfl)⟩ fun au=>re<|tn<|sq<|Rg 8 (fun w'=>w'.cell? ⟨f,1,none⟩=some (.pointer (some ⟨gm,0,none⟩))∧w'.cell? ⟨f,0,none⟩=some (.pointer (some ⟨g,0,none⟩))) fun av x=>?_
 have y:=ub x v
 refine aZ ⟨(aa y rfl),(aa y rfl)⟩ fun p=>Rt 0 p<|Rl 1 p (fun _ hs=>hs.1)<|Rt 2 p<|Rl 3 p (fun _ hs=>hs.2)<|?_
 have Y:=aD W x
 refine R0 4 rfl<|Oc<|m3 (bI (ag.upd a9 Y (ae hne az) (aj (aM V (by decide)) aE))) fun aw Z z ax=>?_
 have A:=aY z (Ne.symm h) y
 refine aZ ⟨(aa A rfl),(aa A rfl)⟩ fun a0=>Rt 5 a0<|Rt 6 a0<|?_
 have B:=aY (uz x z) (Ne.symm hne) ab
 refine R0 7 rfl<|co B 3 (mG c 0 C.wordV ((C.wordsC 1).wordV) 0 0 0 0 0 0 0 0 nS nS nS nS 0 0 0 0 0 nS) fun ay ac a1=>?_
 have D:=aY a1 (Ne.symm X) A
 refine aZ ⟨(aa D rfl),(aa D rfl)⟩ fun aA=>re<|tn<|sq<|Rg 18 (fun w'=>w'.cell? ⟨f,0,none⟩=some (.pointer (some ⟨g,0,none⟩))∧w'.cell? ⟨f,1,none⟩=some (.pointer (some ⟨gm,0,none⟩))∧w'.cell? ⟨gm,3,none⟩=some (.int .u16 ((C.wordsC 1).wordV))) fun aB E=>?_
 have q:=ub E D
 have F:=ub E ac
 refine aZ ⟨(aa q rfl),(aa q rfl),(aa F rfl)⟩ fun b=>Rt 0 b<|Rl 1 b (fun _ hs=>hs.1)<|Rt 2 b<|Rl 3 b (fun _ hs=>hs.2.1)<|Rt 4 b<|Rt 5 b<|Rl 6 b (fun _ hs=>hs.2.2)<|Rt 7 b<|Rt 8 b<|?_
 have G:=aD a1 E
 have a2:=ui U (ui Y (us z G))
 refine we 26 ((decide (1≤((C.wordsC 1).wordV)))) (fun i=>?_) (fun i=>?_)
 have ad:=of_decide_eq_true i
 refine Rt 9 b<|Rl 10 b (fun _ hs=>hs.2.1)<|Rt 11 b<|Rt 12 b<|Rl 13 b (fun _ hs=>hs.2.2)<|Rt 14 b<|Rt 15 b<|Rt 16 b<|?_
 refine R0 17 rfl<|Oc<|m2 (aU ((decide (((C.wordsC 1).wordV)≤most))) 5 (ag.upd Z G (ae hne az) (aj (aM B (by decide)) aE))) fun aC af H=>?_
 have I:=aY H (Ne.symm h) q
 have a3:=aY H (Ne.symm hne) F
 refine aZ ⟨(aa I rfl),(aa I rfl),(aa a3 rfl)⟩ fun aF=>re<|tn<|Rg 15 (fun w'=>w'.cell? ⟨f,0,none⟩=some (.pointer (some ⟨g,0,none⟩))∧w'.cell? ⟨f,1,none⟩=some (.pointer (some ⟨gm,0,none⟩))∧w'.cell? ⟨gm,2,none⟩=some (.int .u16 C.wordV)∧w'.cell? ⟨gm,3,none⟩=some (.int .u16 ((C.wordsC 1).wordV))) fun aG r=>?_
 have j:=ub r I
 have k:=ub r a3
 refine aZ ⟨(aa j rfl),(aa j rfl),(aa k rfl),(aa k rfl)⟩ fun d=>Rt 0 d<|Rl 1 d (fun _ hs=>hs.1)<|Rt 2 d<|Rl 3 d (fun _ hs=>hs.2.1)<|Rt 4 d<|Rt 5 d<|Rl 6 d (fun _ hs=>hs.2.2.1)<|Rt 7 d<|Rl 8 d (fun _ hs=>hs.2.1)<|Rt 9 d<|Rt 10 d<|Rl 11 d (fun _ hs=>hs.2.2.2)<|Rr 12 d (.int .i64 ((C.wordsC 1).wordV)) (fun _ _=>cD (.int .i64 (IntKind.i64.wrap ((C.wordsC 1).wordV))) (by kernel_rfl) (congrArg (Value.int .i64) (i64_in (by omega))))<|?_
 refine R0 13 rfl<|Oc<|mq (iz (a:=C.wordV) (n:=(C.wordsC 1).wordV) (by omega))<|aZ ⟨(aa j rfl),(aa j rfl),(aa k rfl),(aa k rfl)⟩ fun aH=>?_
 refine R0 14 rfl<|Oc<|m2 (aU ((er C.wordV ((C.wordsC 1).wordV))) 7 (ag.old af r)) fun aI ah J=>?_
 have a4:=aY J (Ne.symm h) j
 have K:=aY J (Ne.symm hne) k
 refine aZ ⟨(aa a4 rfl),(aa a4 rfl),(aa K rfl),(aa K rfl)⟩ fun aJ=>re<|rm (.tuple #[])<|?_
 have hs:bX C most=((((C.wordsC 1).wordsC 1).need (decide (((C.wordsC 1).wordV)≤most)) 5).need (er C.wordV ((C.wordsC 1).wordV)) 7):=by
   unfold bX ku
   (try simp only[i,bs,if_true,if_false,decide_true,decide_false,reduceIte])
   all_goals rfl
 rw[hs]
 exact⟨rfl,ah,K,(u1 a2 (u1 H (uz r J) im) im)⟩
 have ad:=of_decide_eq_false i
 refine Ro 9 b<|Ro 10 b<|Ro 11 b<|Ro 12 b<|Ro 13 b<|Ro 14 b<|Ro 15 b<|Rt 16 b<|?_
 refine R0 17 rfl<|Oc<|m2 (aU (false) 5 (ag.upd Z G (ae hne az) (aj (aM B (by decide)) aE))) fun aK ai L=>?_
 have M:=aY L (Ne.symm h) q
 have a5:=aY L (Ne.symm hne) F
 refine aZ ⟨(aa M rfl),(aa M rfl),(aa a5 rfl)⟩ fun aL=>re<|tn<|Rg 15 (fun w'=>w'.cell? ⟨f,0,none⟩=some (.pointer (some ⟨g,0,none⟩))∧w'.cell? ⟨f,1,none⟩=some (.pointer (some ⟨gm,0,none⟩))∧w'.cell? ⟨gm,2,none⟩=some (.int .u16 C.wordV)∧w'.cell? ⟨gm,3,none⟩=some (.int .u16 ((C.wordsC 1).wordV))) fun aN s=>?_
 have l:=ub s M
 have m:=ub s a5
 refine aZ ⟨(aa l rfl),(aa l rfl),(aa m rfl),(aa m rfl)⟩ fun e=>Rt 0 e<|Rl 1 e (fun _ hs=>hs.1)<|Rt 2 e<|Rl 3 e (fun _ hs=>hs.2.1)<|Rt 4 e<|Rt 5 e<|Rl 6 e (fun _ hs=>hs.2.2.1)<|Rt 7 e<|Rl 8 e (fun _ hs=>hs.2.1)<|Rt 9 e<|Rt 10 e<|Rl 11 e (fun _ hs=>hs.2.2.2)<|Rr 12 e (.int .i64 ((C.wordsC 1).wordV)) (fun _ _=>cD (.int .i64 (IntKind.i64.wrap ((C.wordsC 1).wordV))) (by kernel_rfl) (congrArg (Value.int .i64) (i64_in (by omega))))<|?_
 refine R0 13 rfl<|Oc<|mq (iz (a:=C.wordV) (n:=(C.wordsC 1).wordV) (by omega))<|aZ ⟨(aa l rfl),(aa l rfl),(aa m rfl),(aa m rfl)⟩ fun aO=>?_
 refine R0 14 rfl<|Oc<|m2 (aU ((er C.wordV ((C.wordsC 1).wordV))) 7 (ag.old ai s)) fun aP ak N=>?_
 have a6:=aY N (Ne.symm h) l
 have O:=aY N (Ne.symm hne) m
 refine aZ ⟨(aa a6 rfl),(aa a6 rfl),(aa O rfl),(aa O rfl)⟩ fun aQ=>re<|rm (.tuple #[])<|?_
 have hs:bX C most=((((C.wordsC 1).wordsC 1).need false 5).need (er C.wordV ((C.wordsC 1).wordV)) 7):=by
   unfold bX ku
   (try simp only[i,bs,if_true,if_false,decide_true,decide_false,reduceIte])
   all_goals rfl
 rw[hs]
 exact⟨rfl,ak,O,(u1 a2 (u1 L (uz s N) im) im)⟩
theorem iI{g gm:Nat}{c:Int}{C:al}{w:World}(hcode:B8 c)(hC:ag w g C)(hm:w.heap[gm]? = some (.cells (mC c) 31 (0,0)))(hne:g≠gm) :
    Calls Tryz.prog 78 #[.agg #[.pointer (some ⟨g,0,none⟩),.pointer (some ⟨gm,0,none⟩)]] w (bU g gm (dk 2000 c C).1 (dk 2000 c C).2 w):=by
 obtain⟨hcode1,hcode2⟩:=hcode
 have hlen:=hC.len
 refine en 4 Tryz.func78 rfl<|sg<|L0<|cI #[.pointer (some ⟨g,0,none⟩),.pointer (some ⟨gm,0,none⟩)] fun i j k d a=>nt<|go<|L0<|cj d<|?_
 have b:=ag.old hC a
 refine L0<|Oc<|m3 (kV (most:=2000) ⟨hcode1,hcode2⟩ b (ub a hm) hne) fun l e f h=>?_
 have m:=(b).wordV
 have n:=db (d6 (b).rng 1)
 refine nl<|rm (.tuple #[])<|?_
 have hs:dk 2000 c C=((bX C 2000),(aT.mk c 0 C.wordV ((C.wordsC 1).wordV) 0 0 0 0 0 0 0 0 [] [] [] [] 0 0 0 0 0 [])):=by
   unfold dk
   (try simp only[bs,if_true,if_false,decide_true,decide_false,reduceIte])
   all_goals rfl
 rw[hs]
 exact⟨rfl,e,⟨_,⟨f,rfl⟩,⟨_,_,_,_,_,rfl,aR.nil ..,aR.nil ..,aR.nil ..,aR.nil ..,aR.nil ..,⟨(b8 (x:=c) (by omega)),(b8 (x:=0) (by omega)),(aJ (x:=C.wordV) (by omega)),(aJ (x:=(C.wordsC 1).wordV) (by omega)),(aJ (x:=0) (by omega)),(aJ (x:=0) (by omega)),(aJ (x:=0) (by omega)),(aJ (x:=0) (by omega)),(aJ (x:=0) (by omega)),(aJ (x:=0) (by omega)),(aJ (x:=0) (by omega)),(aJ (x:=0) (by omega)),(b8 (x:=0) (by omega)),(b8 (x:=0) (by omega)),(b8 (x:=0) (by omega)),(b8 (x:=0) (by omega)),(b8 (x:=0) (by omega))⟩⟩⟩,(uz a h)⟩
theorem lT{g gm:Nat}{c:Int}{C:al}{w:World}(hcode:B8 c)(hC:ag w g C)(hm:w.heap[gm]? = some (.cells (mC c) 31 (0,0)))(hne:g≠gm) :
    Calls Tryz.prog 79 #[.agg #[.pointer (some ⟨g,0,none⟩),.pointer (some ⟨gm,0,none⟩)]] w (bU g gm (dS c C).1 (dS c C).2 w):=by
 obtain⟨hcode1,hcode2⟩:=hcode
 have hlen:=hC.len
 refine en 24 Tryz.func79 rfl<|sg<|L0<|cI #[.pointer (some ⟨g,0,none⟩),.pointer (some ⟨gm,0,none⟩)] fun j L k l m=>ng<|Pl 1<|L0<|aP l 0<|?_
 refine L0<|Oc<|m3 (bJ (ag.old hC m)) fun M A o N=>Pl 1<|ng<|Pl 1<|?_
 have e:=nb (ag.lt hC) lr k
 have p:=aY o (Ne.symm e) l
 refine L0<|aP p 0<|Pl 3<|cu 3 [10] 13 (((decide (1≤C.byteV))&&(decide (C.byteV≤250)))) (fun K q=>?_) ?_
 refine bl 10 ((decide (1≤C.byteV))) (fun b=>?_) (fun b=>?_)
 have B:=of_decide_eq_true b
 exact Pl 3<|ce q (decide (C.byteV≤250)) (by rw[b];rfl)
 have B:=of_decide_eq_false b
 exact Pl 3<|ce q false (by rw[b];rfl)
 refine L0<|Oc<|m2 (aU (((decide (1≤C.byteV))&&(decide (C.byteV≤250)))) 5 A) fun O D E=>nt<|Rg 10 (fun w'=>w'.cell? ⟨j,1,none⟩=some (.pointer (some ⟨gm,0,none⟩))∧w'.cell? ⟨j,0,none⟩=some (.pointer (some ⟨g,0,none⟩))) fun P r=>?_
 have s:=aD E r
 have f:=aY s (Ne.symm e) p
 refine aZ ⟨(aa f rfl),(aa f rfl)⟩ fun a=>Rt 0 a<|Rl 1 a (fun _ hs=>hs.1)<|Rt 2 a<|Rl 3 a (fun _ hs=>hs.2)<|Rt 4 a<|Rr 5 a (.int .i64 C.byteV) (fun _ _=>cD (.int .i64 (IntKind.i64.wrap C.byteV)) (by kernel_rfl) (congrArg (Value.int .i64) (i64_in (by omega))))<|?_
 have t:=ag.old D r
 refine R0 6 rfl<|Oc<|uo (bT (n:=C.byteV) t) fun F G Q H R S I u=>?_
 have T:=Nat.le_trans (al.bytesR_le ((C.bytesC 1).need ((decide (1≤C.byteV))&&(decide (C.byteV≤250))) 5) C.byteV) (ag.len t)
 have h:=aY u (Ne.symm e) f
 refine aZ ⟨(aa h rfl),(aa h rfl)⟩ fun v=>Rt 7 v<|Rt 8 v<|?_
 have y:=uz m (u1 o (u1 s u im) im)
 have i:=aY y (Ne.symm hne) hm
 refine R0 9 rfl<|co i 14 (mG c 0 0 0 0 0 0 0 0 0 0 0 nS nS (.slice F ((((C.bytesC 1).need ((decide (1≤C.byteV))&&(decide (C.byteV≤250))) 5).bytesR C.byteV).length) G) nS 0 0 0 0 0 nS) fun U J d=>?_
 have z:=aY d (Ne.symm (nb (am hm) lr k)) h
 refine aZ ⟨(aa z rfl),(aa z rfl)⟩ fun V=>re<|rm (.tuple #[])<|?_
 have hs:dS c C=((((C.bytesC 1).need ((decide (1≤C.byteV))&&(decide (C.byteV≤250))) 5).bytesC C.byteV),(aT.mk c 0 0 0 0 0 0 0 0 0 0 0 [] [] (((C.bytesC 1).need ((decide (1≤C.byteV))&&(decide (C.byteV≤250))) 5).bytesR C.byteV) [] 0 0 0 0 0 [])):=by
   unfold dS gL
   (try simp only[bs,if_true,if_false,decide_true,decide_false,reduceIte])
   all_goals rfl
 rw[hs]
 exact⟨rfl,(ag.upd I d (ae hne az) (aj (aM i (by decide)) aE)),⟨_,⟨J,rfl⟩,⟨_,_,_,_,_,rfl,aR.nil ..,aR.nil ..,(aS.upd' H d (aj (aM i (by decide)) aE)),aR.nil ..,aR.nil ..,⟨(b8 (x:=c) (by omega)),(b8 (x:=0) (by omega)),(aJ (x:=0) (by omega)),(aJ (x:=0) (by omega)),(aJ (x:=0) (by omega)),(aJ (x:=0) (by omega)),(aJ (x:=0) (by omega)),(aJ (x:=0) (by omega)),(aJ (x:=0) (by omega)),(aJ (x:=0) (by omega)),(aJ (x:=0) (by omega)),(aJ (x:=0) (by omega)),(b8 (x:=0) (by omega)),(b8 (x:=0) (by omega)),(b8 (x:=0) (by omega)),(b8 (x:=0) (by omega)),(b8 (x:=0) (by omega))⟩⟩⟩,(us y d)⟩
theorem lF{g gm:Nat}{c:Int}{C:al}{w:World}(hcode:B8 c)(hC:ag w g C)(hm:w.heap[gm]? = some (.cells (mC c) 31 (0,0)))(hne:g≠gm) :
    Calls Tryz.prog 80 #[.agg #[.pointer (some ⟨g,0,none⟩),.pointer (some ⟨gm,0,none⟩)]] w (bU g gm (dI c C).1 (dI c C).2 w):=by
 obtain⟨hcode1,hcode2⟩:=hcode
 have hlen:=hC.len
 refine en 33 Tryz.func80 rfl<|sg<|L0<|cI #[.pointer (some ⟨g,0,none⟩),.pointer (some ⟨gm,0,none⟩)] fun b a0 z S T=>nt<|sq<|Rg 8 (fun w'=>w'.cell? ⟨b,1,none⟩=some (.pointer (some ⟨gm,0,none⟩))∧w'.cell? ⟨b,0,none⟩=some (.pointer (some ⟨g,0,none⟩))) fun a1 A=>?_
 have j:=ub A S
 refine aZ ⟨(aa j rfl),(aa j rfl)⟩ fun e=>Rt 0 e<|Rl 1 e (fun _ hs=>hs.1)<|Rt 2 e<|Rl 3 e (fun _ hs=>hs.2)<|?_
 have B:=aD T A
 refine R0 4 rfl<|Oc<|m3 (bI (ag.old hC B)) fun a2 U D a3=>?_
 have f:=nb (ag.lt hC) lr z
 have k:=aY D (Ne.symm f) j
 refine aZ ⟨(aa k rfl),(aa k rfl)⟩ fun E=>Rt 5 E<|Rt 6 E<|?_
 have F:=uz B D
 have G:=aY F (Ne.symm hne) hm
 refine R0 7 rfl<|co G 2 (mG c 0 C.wordV 0 0 0 0 0 0 0 0 0 nS nS nS nS 0 0 0 0 0 nS) fun a4 V H=>?_
 have I:=nb (am hm) lr z
 have l:=aY H (Ne.symm I) k
 refine aZ ⟨(aa l rfl),(aa l rfl)⟩ fun a5=>re<|tn<|sq<|Rg 8 (fun w'=>w'.cell? ⟨b,1,none⟩=some (.pointer (some ⟨gm,0,none⟩))∧w'.cell? ⟨b,0,none⟩=some (.pointer (some ⟨g,0,none⟩))) fun a6 m=>?_
 have n:=ub m l
 refine aZ ⟨(aa n rfl),(aa n rfl)⟩ fun h=>Rt 0 h<|Rl 1 h (fun _ hs=>hs.1)<|Rt 2 h<|Rl 3 h (fun _ hs=>hs.2)<|?_
 have J:=aD H m
 refine R0 4 rfl<|Oc<|m3 (bI (ag.upd U J (ae hne az) (aj (aM G (by decide)) aE))) fun a7 K o a8=>?_
 have p:=aY o (Ne.symm f) n
 refine aZ ⟨(aa p rfl),(aa p rfl)⟩ fun L=>Rt 5 L<|Rt 6 L<|?_
 have q:=aY (uz m o) (Ne.symm hne) V
 refine R0 7 rfl<|co q 4 (mG c 0 C.wordV 0 ((C.wordsC 1).wordV) 0 0 0 0 0 0 0 nS nS nS nS 0 0 0 0 0 nS) fun a9 W M=>?_
 have r:=aY M (Ne.symm I) p
 refine aZ ⟨(aa r rfl),(aa r rfl)⟩ fun ab=>re<|tn<|Rg 17 (fun w'=>w'.cell? ⟨b,0,none⟩=some (.pointer (some ⟨g,0,none⟩))∧w'.cell? ⟨b,1,none⟩=some (.pointer (some ⟨gm,0,none⟩))∧w'.cell? ⟨gm,4,none⟩=some (.int .u16 ((C.wordsC 1).wordV))) fun ac s=>?_
 have i:=ub s r
 have t:=ub s W
 refine aZ ⟨(aa i rfl),(aa i rfl),(aa t rfl)⟩ fun a=>Rt 0 a<|Rl 1 a (fun _ hs=>hs.1)<|Rt 2 a<|Rl 3 a (fun _ hs=>hs.2.1)<|Rt 4 a<|Rt 5 a<|Rl 6 a (fun _ hs=>hs.2.2)<|Rt 7 a<|Rt 8 a<|?_
 have u:=aD M s
 have N:=ui F (ui J (us o u))
 refine we 24 ((((C.wordsC 1).wordV)==0)) (fun d=>?_) (fun d=>?_)
 have X:=ax d
 refine Ro 9 a<|Ro 10 a<|Ro 11 a<|Ro 12 a<|Ro 13 a<|Ro 14 a<|Rt 15 a<|?_
 refine R0 16 rfl<|Oc<|m2 (aU (true) 6 (ag.upd K u (ae hne az) (aj (aM q (by decide)) aE))) fun ad Y v=>?_
 have O:=aY v (Ne.symm f) i
 have P:=aY v (Ne.symm hne) t
 refine aZ ⟨(aa O rfl),(aa O rfl),(aa P rfl)⟩ fun af=>re<|rm (.tuple #[])<|?_
 have hs:dI c C=((((C.wordsC 1).wordsC 1).need true 6),(aT.mk c 0 C.wordV 0 ((C.wordsC 1).wordV) 0 0 0 0 0 0 0 [] [] [] [] 0 0 0 0 0 [])):=by
   unfold dI nT
   (try simp only[d,bs,if_true,if_false,decide_true,decide_false,reduceIte])
   all_goals rfl
 rw[hs]
 exact⟨rfl,Y,⟨_,⟨P,rfl⟩,⟨_,_,_,_,_,rfl,aR.nil ..,aR.nil ..,aR.nil ..,aR.nil ..,aR.nil ..,⟨(b8 (x:=c) (by omega)),(b8 (x:=0) (by omega)),(aJ (x:=C.wordV) (by omega)),(aJ (x:=0) (by omega)),(aJ (x:=(C.wordsC 1).wordV) (by omega)),(aJ (x:=0) (by omega)),(aJ (x:=0) (by omega)),(aJ (x:=0) (by omega)),(aJ (x:=0) (by omega)),(aJ (x:=0) (by omega)),(aJ (x:=0) (by omega)),(aJ (x:=0) (by omega)),(b8 (x:=0) (by omega)),(b8 (x:=0) (by omega)),(b8 (x:=0) (by omega)),(b8 (x:=0) (by omega)),(b8 (x:=0) (by omega))⟩⟩⟩,(u1 N v im)⟩
 have X:=aA d
 refine Rt 9 a<|Rl 10 a (fun _ hs=>hs.2.1)<|Rt 11 a<|Rt 12 a<|Rl 13 a (fun _ hs=>hs.2.2)<|Rt 14 a<|Rt 15 a<|?_
 refine R0 16 rfl<|Oc<|m2 (aU ((((C.wordsC 1).wordV)==65280)) 6 (ag.upd K u (ae hne az) (aj (aM q (by decide)) aE))) fun ah Z y=>?_
 have Q:=aY y (Ne.symm f) i
 have R:=aY y (Ne.symm hne) t
 refine aZ ⟨(aa Q rfl),(aa Q rfl),(aa R rfl)⟩ fun ai=>re<|rm (.tuple #[])<|?_
 have hs:dI c C=((((C.wordsC 1).wordsC 1).need (((C.wordsC 1).wordV)==65280) 6),(aT.mk c 0 C.wordV 0 ((C.wordsC 1).wordV) 0 0 0 0 0 0 0 [] [] [] [] 0 0 0 0 0 [])):=by
   unfold dI nT
   (try simp only[d,bs,if_true,if_false,decide_true,decide_false,reduceIte])
   all_goals rfl
 rw[hs]
 exact⟨rfl,Z,⟨_,⟨R,rfl⟩,⟨_,_,_,_,_,rfl,aR.nil ..,aR.nil ..,aR.nil ..,aR.nil ..,aR.nil ..,⟨(b8 (x:=c) (by omega)),(b8 (x:=0) (by omega)),(aJ (x:=C.wordV) (by omega)),(aJ (x:=0) (by omega)),(aJ (x:=(C.wordsC 1).wordV) (by omega)),(aJ (x:=0) (by omega)),(aJ (x:=0) (by omega)),(aJ (x:=0) (by omega)),(aJ (x:=0) (by omega)),(aJ (x:=0) (by omega)),(aJ (x:=0) (by omega)),(aJ (x:=0) (by omega)),(b8 (x:=0) (by omega)),(b8 (x:=0) (by omega)),(b8 (x:=0) (by omega)),(b8 (x:=0) (by omega)),(b8 (x:=0) (by omega))⟩⟩⟩,(u1 N y im)⟩
theorem vJ{g gm:Nat}{c:Int}{C:al}{w:World}(hcode:B8 c)(hC:ag w g C)(hm:w.heap[gm]? = some (.cells (mC c) 31 (0,0)))(hne:g≠gm) :
    Calls Tryz.prog 82 #[.agg #[.pointer (some ⟨g,0,none⟩),.pointer (some ⟨gm,0,none⟩)]] w (bU g gm (dk 1968 c C).1 (dk 1968 c C).2 w):=by
 obtain⟨hcode1,hcode2⟩:=hcode
 have hlen:=hC.len
 refine en 4 Tryz.func82 rfl<|sg<|L0<|cI #[.pointer (some ⟨g,0,none⟩),.pointer (some ⟨gm,0,none⟩)] fun i j k d a=>nt<|go<|L0<|cj d<|?_
 have b:=ag.old hC a
 refine L0<|Oc<|m3 (kV (most:=1968) ⟨hcode1,hcode2⟩ b (ub a hm) hne) fun l e f h=>?_
 have m:=(b).wordV
 have n:=db (d6 (b).rng 1)
 refine nl<|rm (.tuple #[])<|?_
 have hs:dk 1968 c C=((bX C 1968),(aT.mk c 0 C.wordV ((C.wordsC 1).wordV) 0 0 0 0 0 0 0 0 [] [] [] [] 0 0 0 0 0 [])):=by
   unfold dk
   (try simp only[bs,if_true,if_false,decide_true,decide_false,reduceIte])
   all_goals rfl
 rw[hs]
 exact⟨rfl,e,⟨_,⟨f,rfl⟩,⟨_,_,_,_,_,rfl,aR.nil ..,aR.nil ..,aR.nil ..,aR.nil ..,aR.nil ..,⟨(b8 (x:=c) (by omega)),(b8 (x:=0) (by omega)),(aJ (x:=C.wordV) (by omega)),(aJ (x:=(C.wordsC 1).wordV) (by omega)),(aJ (x:=0) (by omega)),(aJ (x:=0) (by omega)),(aJ (x:=0) (by omega)),(aJ (x:=0) (by omega)),(aJ (x:=0) (by omega)),(aJ (x:=0) (by omega)),(aJ (x:=0) (by omega)),(aJ (x:=0) (by omega)),(b8 (x:=0) (by omega)),(b8 (x:=0) (by omega)),(b8 (x:=0) (by omega)),(b8 (x:=0) (by omega)),(b8 (x:=0) (by omega))⟩⟩⟩,(uz a h)⟩
theorem t7{g gm:Nat}{c:Int}{C:al}{w:World}(hcode:B8 c)(hC:ag w g C)(hm:w.heap[gm]? = some (.cells (mC c) 31 (0,0)))(hne:g≠gm) :
    Calls Tryz.prog 82 #[.agg #[.pointer (some ⟨g,0,none⟩),.pointer (some ⟨gm,0,none⟩)]] w (qX g gm (bX C 1968) (mG c 0 C.wordV (C.wordsC 1).wordV 0 0 0 0 0 0 0 0 nS nS nS nS 0 0 0 0 0 nS) w):=by
 obtain⟨hcode1,hcode2⟩:=hcode
 have hlen:=hC.len
 refine en 4 Tryz.func82 rfl<|sg<|L0<|cI #[.pointer (some ⟨g,0,none⟩),.pointer (some ⟨gm,0,none⟩)] fun i j k d a=>nt<|go<|L0<|cj d<|?_
 have b:=ag.old hC a
 refine L0<|Oc<|m3 (kV (most:=1968) ⟨hcode1,hcode2⟩ b (ub a hm) hne) fun l e f h=>?_
 have m:=(b).wordV
 have n:=db (d6 (b).rng 1)
 refine nl<|rm (.tuple #[])<|?_
 have hs:bX C 1968=(bX C 1968):=by
   unfold bX ku
   (try simp only[bs,if_true,if_false,decide_true,decide_false,reduceIte])
   all_goals rfl
 rw[hs]
 exact⟨rfl,e,f,(uz a h)⟩
theorem y8{g gm:Nat}{c:Int}{C:al}{w:World}(hcode:B8 c)(hC:ag w g C)(hm:w.heap[gm]? = some (.cells (mC c) 31 (0,0)))(hne:g≠gm) :
    Calls Tryz.prog 81 #[.agg #[.pointer (some ⟨g,0,none⟩),.pointer (some ⟨gm,0,none⟩)]] w (bU g gm (jG c C).1 (jG c C).2 w):=by
 obtain⟨hcode1,hcode2⟩:=hcode
 have hlen:=hC.len
 refine en 46 Tryz.func81 rfl<|sg<|L0<|cI #[.pointer (some ⟨g,0,none⟩),.pointer (some ⟨gm,0,none⟩)] fun o a3 F G f=>ng<|L0<|cj G<|?_
 have t:=ag.old hC f
 refine L0<|Oc<|m3 (t7 ⟨hcode1,hcode2⟩ t (ub f hm) hne) fun a4 Q R p=>?_
 have a5:=(t).wordV
 have a6:=db (d6 (t).rng 1)
 refine ng<|Pl 1<|?_
 have i:=nb (ag.lt hC) lr F
 have H:=ay.blk p (ae (Ne.symm i) (ae (Ne.symm (nb (am hm) lr F)) az)) G
 refine L0<|aP H 0<|L0<|Oc<|m3 (bJ Q) fun a7 S u a8=>L0<|Oi ((bX C 1968).byteV)<|Pl 1<|nt<|sq<|Rg 12 (fun w'=>w'.cell? ⟨o,0,none⟩=some (.pointer (some ⟨g,0,none⟩))∧w'.cell? ⟨o,1,none⟩=some (.pointer (some ⟨gm,0,none⟩))∧w'.cell? ⟨gm,3,none⟩=some (.int .u16 ((C.wordsC 1).wordV))) fun a9 q=>?_
 have v:=aD u q
 have j:=aY v (Ne.symm i) H
 have y:=aY v (Ne.symm hne) R
 refine aZ ⟨(aa j rfl),(aa j rfl),(aa y rfl)⟩ fun a=>Rt 0 a<|Rl 1 a (fun _ hs=>hs.1)<|Rt 2 a<|Rt 3 a<|Rl 4 a (fun _ hs=>hs.2.1)<|Rt 5 a<|Rt 6 a<|Rl 7 a (fun _ hs=>hs.2.2)<|Rr 8 a (.int .i64 ((C.wordsC 1).wordV)) (fun _ _=>cD (.int .i64 (IntKind.i64.wrap ((C.wordsC 1).wordV))) (by kernel_rfl) (congrArg (Value.int .i64) (i64_in (by omega))))<|R0 9 rfl<|Oc<|mq (iP (n:=(C.wordsC 1).wordV) (by omega))<|aZ ⟨(aa j rfl),(aa j rfl),(aa y rfl)⟩ fun T=>Rt 10 T<|?_
 refine R0 11 rfl<|Oc<|m2 (aU ((((bX C 1968).byteV)==(e8 ((C.wordsC 1).wordV)))) 5 (ag.old S q)) fun ab U k=>?_
 have z:=aY k (Ne.symm i) j
 have I:=aY k (Ne.symm hne) y
 refine aZ ⟨(aa z rfl),(aa z rfl),(aa I rfl)⟩ fun ad=>re<|tn<|sq<|Rg 16 (fun w'=>w'.cell? ⟨o,0,none⟩=some (.pointer (some ⟨g,0,none⟩))∧w'.cell? ⟨o,1,none⟩=some (.pointer (some ⟨gm,0,none⟩))∧w'.cell? ⟨gm,3,none⟩=some (.int .u16 ((C.wordsC 1).wordV))) fun af d=>?_
 have A:=ub d z
 have J:=ub d I
 refine aZ ⟨(aa A rfl),(aa A rfl),(aa J rfl)⟩ fun b=>Rt 0 b<|Rl 1 b (fun _ hs=>hs.1)<|Rt 2 b<|Rt 4 b<|Rl 5 b (fun _ hs=>hs.2.1)<|Rt 6 b<|Rt 7 b<|Rl 8 b (fun _ hs=>hs.2.2)<|Rr 9 b (.int .i64 ((C.wordsC 1).wordV)) (fun _ _=>cD (.int .i64 (IntKind.i64.wrap ((C.wordsC 1).wordV))) (by kernel_rfl) (congrArg (Value.int .i64) (i64_in (by omega))))<|?_
 have K:=ag.old U d
 refine R0 3 rfl<|Oc<|uo (bT (n:=(bX C 1968).byteV) K) fun V W ah X ai an Y l=>?_
 have ao:=Nat.le_trans (al.bytesR_le (((bX C 1968).bytesC 1).need (((bX C 1968).byteV)==(e8 ((C.wordsC 1).wordV))) 5) ((bX C 1968).byteV)) (ag.len K)
 have B:=aY l (Ne.symm i) A
 have L:=aY l (Ne.symm hne) J
 refine aZ ⟨(aa B rfl),(aa B rfl),(aa L rfl)⟩ fun ap=>R0 10 rfl<|Oc (args:=#[.slice V (((((bX C 1968).bytesC 1).need (((bX C 1968).byteV)==(e8 ((C.wordsC 1).wordV))) 5).bytesR ((bX C 1968).byteV)).length) W,.int .i64 ((C.wordsC 1).wordV)])<|dX (rh X (by omega) (by omega) (by omega)) fun Z a0 aq D ar av r=>?_
 have s:=ub r B
 have M:=ub r L
 refine aZ ⟨(aa s rfl),(aa s rfl),(aa M rfl)⟩ fun m=>Rt 11 m<|Rt 12 m<|Rt 13 m<|Rt 14 m<|Rt 15 m<|re<|tn<|sg<|Pl 1<|L0<|aP s 0<|Pl 1<|?_
 refine L0<|Oc<|m2 (aU ((cO ((((bX C 1968).bytesC 1).need (((bX C 1968).byteV)==(e8 ((C.wordsC 1).wordV))) 5).bytesR ((bX C 1968).byteV)) ((C.wordsC 1).wordV)).isSome) 6 (ag.old Y r)) fun aw a1 E=>nt<|go<|Pl 1<|?_
 refine L0<|aP (aY E (Ne.symm i) s) 1<|Pl 3<|?_
 have N:=aY E (Ne.symm hne) M
 refine L0<|co N 13 (mG c 0 C.wordV ((C.wordsC 1).wordV) 0 0 0 0 0 0 0 0 nS (.slice Z (((cO ((((bX C 1968).bytesC 1).need (((bX C 1968).byteV)==(e8 ((C.wordsC 1).wordV))) 5).bytesR ((bX C 1968).byteV)) ((C.wordsC 1).wordV)).getD []).length) a0) nS nS 0 0 0 0 0 nS) fun ax a2 O=>nl<|rm (.tuple #[])<|?_
 have P:=us E O
 have hs:jG c C=((((((bX C 1968).bytesC 1).need (((bX C 1968).byteV)==(e8 ((C.wordsC 1).wordV))) 5).bytesC ((bX C 1968).byteV)).need ((cO ((((bX C 1968).bytesC 1).need (((bX C 1968).byteV)==(e8 ((C.wordsC 1).wordV))) 5).bytesR ((bX C 1968).byteV)) ((C.wordsC 1).wordV)).isSome) 6),(aT.mk c 0 C.wordV ((C.wordsC 1).wordV) 0 0 0 0 0 0 0 0 [] ((cO ((((bX C 1968).bytesC 1).need (((bX C 1968).byteV)==(e8 ((C.wordsC 1).wordV))) 5).bytesR ((bX C 1968).byteV)) ((C.wordsC 1).wordV)).getD []) [] [] 0 0 0 0 0 [])):=by
   unfold jG AS zy nL wM AT
   (try simp only[bs,if_true,if_false,decide_true,decide_false,reduceIte])
   all_goals rfl
 rw[hs]
 exact⟨rfl,(ag.upd a1 O (ae hne az) (aj (aM N (by decide)) aE)),⟨_,⟨a2,rfl⟩,⟨_,_,_,_,_,rfl,aR.nil ..,((ak D P (fun x hx=>(ae (fun e=>(aC (ag.lt hC) (le (le (le (le (le (le f.size p.size) u.size) q.size) k.size) d.size) l.size) D) (e▸hx)) (ae (fun e=>(aC (am hm) (le (le (le (le (le (le f.size p.size) u.size) q.size) k.size) d.size) l.size) D) (e▸hx)) az))) (fun _ _ h=>h))).rd,aR.nil ..,aR.nil ..,aR.nil ..,⟨(b8 (x:=c) (by omega)),(b8 (x:=0) (by omega)),(aJ (x:=C.wordV) (by omega)),(aJ (x:=(C.wordsC 1).wordV) (by omega)),(aJ (x:=0) (by omega)),(aJ (x:=0) (by omega)),(aJ (x:=0) (by omega)),(aJ (x:=0) (by omega)),(aJ (x:=0) (by omega)),(aJ (x:=0) (by omega)),(aJ (x:=0) (by omega)),(aJ (x:=0) (by omega)),(b8 (x:=0) (by omega)),(b8 (x:=0) (by omega)),(b8 (x:=0) (by omega)),(b8 (x:=0) (by omega)),(b8 (x:=0) (by omega))⟩⟩⟩,(uz f (ut p (ui v (ui k (uz d (ui l (uz r P))))) (ac im (ac im au))))⟩
open Go.RowKit
theorem yA(c:Int) : c=1∨c=2∨c=5∨c=15∨(c≠1∧c≠2∧c≠5∧c≠15):=by omega
theorem ln{m:Bool}{A:Option Addr}{cp:Nat}{b:List Int}{w:World}{c:Int}(hcode:B8 c)(hsl:aS m w (.slice A b.length cp) b)(hb:b.length≤1048576) :
    Calls Tryz.prog 58 #[.int .i64 0,.int .u8 c,.slice A b.length cp] w (dC (aq aN 0 c b) w):=by
 obtain⟨hcode1,hcode2⟩:=hcode
 have hln:(b.length:Int)≤1048576:=by omega
 refine en 72 Tryz.func58 rfl<|sg<|L0<|bN mZ fun cE cF n k y=>Pl 1<|nt<|sq<|sg<|Pl 6<|nt<|c0<|?_
 refine bK<|sg<|Pl 2<|L0<|bN mZ fun a cG g o bA=>L0<|bi o (mC c) fun cH J p=>ng<|Pl 1<|?_
 have i:=ud bA p g
 have u:=aD y i
 refine L0<|Oc<|e3 (dq (aS.old hsl u) (by omega)) fun d cI f s z=>Pl 1<|L0<|bN #[.pointer none,.pointer none] fun cJ cK r ad bB=>L0<|bi ad #[.pointer (some ⟨d,0,none⟩),.pointer (some ⟨a,0,none⟩)] fun cL bC af=>ng<|L0<|xh fun cM cN ai bD ak=>?_
 have S:=ub ak bC
 refine L0<|cj S<|Pl 1<|L0<|cj S<|Pl 2<|L0<|gj bD 1 fun cO bE an=>?_
 have t:=nb (am ad) af.size ai
 have T:=aY an t S
 refine L0<|cj T<|Pl 1<|L0<|cj T<|Pl 2<|L0<|gj bE 2 fun cP bF ao=>?_
 have U:=aY ao t T
 refine L0<|cj U<|Pl 1<|L0<|cj U<|Pl 2<|L0<|gj bF 5 fun cQ bG ap=>?_
 have v:=aY ap t U
 refine L0<|cj v<|Pl 1<|L0<|cj v<|Pl 2<|L0<|gj bG 15 fun cR B C=>Pl 2<|ng<|Pl 2<|?_
 have D:=ud bB (aD af (ud ak (u1 an (u1 ao (u1 ap C im) im) im) ai)) r
 have j:=aD z D
 have E:=aD u j
 rcases yA c with hk|hk|hk|hk|hk
 have k1:(c==1)=true:=by rw[hk];rfl
 have k2:(c==2)=false:=by rw[hk];rfl
 have k5:(c==5)=false:=by rw[hk];rfl
 have l:(c==15)=false:=by rw[hk];rfl
 refine L0<|n8 (hf:=(by subst hk;kernel_rfl)) B c (.agg #[.nilFunc,.nilFunc]) (some (0,.agg #[.func (.func 78) #[.agg #[.pointer (some ⟨d,0,none⟩),.pointer (some ⟨a,0,none⟩)]] #[],.func (.func 79) #[.agg #[.pointer (some ⟨d,0,none⟩),.pointer (some ⟨a,0,none⟩)]] #[]]))<|Pl 3<|L0<|bN #[.nilFunc,.nilFunc] fun cS cT bH bI bJ=>L0<|bi bI #[.func (.func 78) #[.agg #[.pointer (some ⟨d,0,none⟩),.pointer (some ⟨a,0,none⟩)]] #[],.func (.func 79) #[.agg #[.pointer (some ⟨d,0,none⟩),.pointer (some ⟨a,0,none⟩)]] #[]] fun cU bL bM=>Pl 1<|nt<|sq<|sg<|Pl 2<|nt<|c0<|?_
 refine bK<|sg<|Pl 2<|L0<|aP bL 0<|?_
 have V:=ud bJ bM bH
 have ar:=aD j V
 have av:=nb (am o) p.size f
 refine L0<|fj #[.agg #[.pointer (some ⟨d,0,none⟩),.pointer (some ⟨a,0,none⟩)]] #[] (args:=#[.agg #[.pointer (some ⟨d,0,none⟩),.pointer (some ⟨a,0,none⟩)]])<|m3 (iI (c:=c) ⟨hcode1,hcode2⟩ (ag.old s (aD D V)) (ub ar J) (Ne.symm av)) fun cV bO bP aw=>?_
 obtain⟨bR,K,W⟩:=bP
 refine ab bO fun x89 ax aA=>?_
 refine ng<|Pl 1<|?_
 have aC:=uz V aw
 have aG:=nb (ag.lt s) lr r
 have aH:=ay.blk (us C aC) (ae t (ae (Ne.symm aG) (ae (Ne.symm (nb (am o) (le p.size z.size) r)) az))) v
 refine L0<|aP aH 0<|L0<|Oc<|m2 (bQ aA) fun cW aI L=>nt<|sq<|sg<|Pl 1<|?_
 refine L0<|aP (aY L (Ne.symm aG) aH) 0<|L0<|Oc<|mq (bp aI)<|?_
 have cX:=ag.len aI
 refine Pl 1<|ng<|Pl 2<|nt<|?_
 have X:=u1 aC L im
 have aJ:=ut E X (ac (ni u.size f) (ac (ni y.size g) au))
 refine cb ((x89.endC.e != 0)) (fun F=>?_) (fun F=>?_)
 have Y:=aB F
 refine sg<|Pl 2<|?_
 refine L0<|bi (ub (ud i (ud j X f) g) k) mZ fun cY bS bT=>Pl 1<|nt<|rt<|tr<|d9 bS (.int .i64 x89.endC.e)<|?_
 subst ax
 have hs:aq aN 0 c b=b7 ((dk 2000 c (al.mk b false 0)).2) ((dk 2000 c (al.mk b false 0)).1):=by
   unfold aq aN
   (try simp only[F,bs,if_true,if_false,decide_true,decide_false,eq_self,true_or,or_true,or_false,false_or,if_true,if_false,dR,dM,dN,dP,reduceIte,k1,k2,k5,l])
   all_goals rfl
 rw[hs]
 exact bg Y (ud aJ bT n)
 have Y:=ah F
 refine bK<|sg<|?_
 refine L0<|cj (hz:=(by rw[K.2];exact aV)) (aY L av K.1)<|?_
 refine L0<|bi (hz:=(by rw[K.2];exact aV)) (hv:=W.size) (h1:=W.one) (ub (ud i (ud j X f) g) k) (bR) fun cZ bU aK=>Pl 1<|nt<|rt<|fc 22 K.2 bU (.int .i64 0)<|?_
 subst ax
 have hs:aq aN 0 c b=b7 ((dk 2000 c (al.mk b false 0)).2) ((dk 2000 c (al.mk b false 0)).1):=by
   unfold aq aN
   (try simp only[F,bs,if_true,if_false,decide_true,decide_false,eq_self,true_or,or_true,or_false,false_or,if_true,if_false,dR,dM,dN,dP,reduceIte,k1,k2,k5,l])
   all_goals rfl
 rw[hs]
 exact bt Y (aF.upd W (us L aK) (aj (ag.safe aA _ (by decide)) (aj (aM (ub (ud i (ud ar aw f) g) k) (by decide)) aE))) (ud aJ aK n)
 have k1:(c==1)=false:=by rw[hk];rfl
 have k2:(c==2)=true:=by rw[hk];rfl
 have k5:(c==5)=false:=by rw[hk];rfl
 have l:(c==15)=false:=by rw[hk];rfl
 refine L0<|n8 (hf:=(by subst hk;kernel_rfl)) B c (.agg #[.nilFunc,.nilFunc]) (some (1,.agg #[.func (.func 78) #[.agg #[.pointer (some ⟨d,0,none⟩),.pointer (some ⟨a,0,none⟩)]] #[],.func (.func 79) #[.agg #[.pointer (some ⟨d,0,none⟩),.pointer (some ⟨a,0,none⟩)]] #[]]))<|Pl 3<|L0<|bN #[.nilFunc,.nilFunc] fun d0 d1 bW bX bY=>L0<|bi bX #[.func (.func 78) #[.agg #[.pointer (some ⟨d,0,none⟩),.pointer (some ⟨a,0,none⟩)]] #[],.func (.func 79) #[.agg #[.pointer (some ⟨d,0,none⟩),.pointer (some ⟨a,0,none⟩)]] #[]] fun d2 bZ c2=>Pl 1<|nt<|sq<|sg<|Pl 2<|nt<|c0<|?_
 refine bK<|sg<|Pl 2<|L0<|aP bZ 0<|?_
 have Z:=ud bY c2 bW
 have aL:=aD j Z
 have aO:=nb (am o) p.size f
 refine L0<|fj #[.agg #[.pointer (some ⟨d,0,none⟩),.pointer (some ⟨a,0,none⟩)]] #[] (args:=#[.agg #[.pointer (some ⟨d,0,none⟩),.pointer (some ⟨a,0,none⟩)]])<|m3 (iI (c:=c) ⟨hcode1,hcode2⟩ (ag.old s (aD D Z)) (ub aL J) (Ne.symm aO)) fun d3 c3 c4 aQ=>?_
 obtain⟨c5,M,a0⟩:=c4
 refine ab c3 fun aR aU aW=>?_
 refine ng<|Pl 1<|?_
 have aX:=uz Z aQ
 have aZ:=nb (ag.lt s) lr r
 have b0:=ay.blk (us C aX) (ae t (ae (Ne.symm aZ) (ae (Ne.symm (nb (am o) (le p.size z.size) r)) az))) v
 refine L0<|aP b0 0<|L0<|Oc<|m2 (bQ aW) fun d4 b1 N=>nt<|sq<|sg<|Pl 1<|?_
 refine L0<|aP (aY N (Ne.symm aZ) b0) 0<|L0<|Oc<|mq (bp b1)<|?_
 have d5:=ag.len b1
 refine Pl 1<|ng<|Pl 2<|nt<|?_
 have a1:=u1 aX N im
 have b2:=ut E a1 (ac (ni u.size f) (ac (ni y.size g) au))
 refine cb ((aR.endC.e != 0)) (fun G=>?_) (fun G=>?_)
 have a2:=aB G
 refine sg<|Pl 2<|?_
 refine L0<|bi (ub (ud i (ud j a1 f) g) k) mZ fun d6 c6 c7=>Pl 1<|nt<|rt<|tr<|d9 c6 (.int .i64 aR.endC.e)<|?_
 subst aU
 have hs:aq aN 0 c b=b7 ((dk 2000 c (al.mk b false 0)).2) ((dk 2000 c (al.mk b false 0)).1):=by
   unfold aq aN
   (try simp only[G,bs,if_true,if_false,decide_true,decide_false,eq_self,true_or,or_true,or_false,false_or,if_true,if_false,dR,dM,dN,dP,reduceIte,k1,k2,k5,l])
   all_goals rfl
 rw[hs]
 exact bg a2 (ud b2 c7 n)
 have a2:=ah G
 refine bK<|sg<|?_
 refine L0<|cj (hz:=(by rw[M.2];exact aV)) (aY N aO M.1)<|?_
 refine L0<|bi (hz:=(by rw[M.2];exact aV)) (hv:=a0.size) (h1:=a0.one) (ub (ud i (ud j a1 f) g) k) (c5) fun d7 c8 b3=>Pl 1<|nt<|rt<|fc 22 M.2 c8 (.int .i64 0)<|?_
 subst aU
 have hs:aq aN 0 c b=b7 ((dk 2000 c (al.mk b false 0)).2) ((dk 2000 c (al.mk b false 0)).1):=by
   unfold aq aN
   (try simp only[G,bs,if_true,if_false,decide_true,decide_false,eq_self,true_or,or_true,or_false,false_or,if_true,if_false,dR,dM,dN,dP,reduceIte,k1,k2,k5,l])
   all_goals rfl
 rw[hs]
 exact bt a2 (aF.upd a0 (us N b3) (aj (ag.safe aW _ (by decide)) (aj (aM (ub (ud i (ud aL aQ f) g) k) (by decide)) aE))) (ud b2 b3 n)
 have k1:(c==1)=false:=by rw[hk];rfl
 have k2:(c==2)=false:=by rw[hk];rfl
 have k5:(c==5)=true:=by rw[hk];rfl
 have l:(c==15)=false:=by rw[hk];rfl
 refine L0<|n8 (hf:=(by subst hk;kernel_rfl)) B c (.agg #[.nilFunc,.nilFunc]) (some (2,.agg #[.func (.func 80) #[.agg #[.pointer (some ⟨d,0,none⟩),.pointer (some ⟨a,0,none⟩)]] #[],.func (.func 80) #[.agg #[.pointer (some ⟨d,0,none⟩),.pointer (some ⟨a,0,none⟩)]] #[]]))<|Pl 3<|L0<|bN #[.nilFunc,.nilFunc] fun d8 da c9 ca cc=>L0<|bi ca #[.func (.func 80) #[.agg #[.pointer (some ⟨d,0,none⟩),.pointer (some ⟨a,0,none⟩)]] #[],.func (.func 80) #[.agg #[.pointer (some ⟨d,0,none⟩),.pointer (some ⟨a,0,none⟩)]] #[]] fun db cd ce=>Pl 1<|nt<|sq<|sg<|Pl 2<|nt<|c0<|?_
 refine bK<|sg<|Pl 2<|L0<|aP cd 0<|?_
 have a3:=ud cc ce c9
 have b4:=aD j a3
 have b5:=nb (am o) p.size f
 refine L0<|fj #[.agg #[.pointer (some ⟨d,0,none⟩),.pointer (some ⟨a,0,none⟩)]] #[] (args:=#[.agg #[.pointer (some ⟨d,0,none⟩),.pointer (some ⟨a,0,none⟩)]])<|m3 (lF (c:=c) ⟨hcode1,hcode2⟩ (ag.old s (aD D a3)) (ub b4 J) (Ne.symm b5)) fun dc cf cg b6=>?_
 obtain⟨ch,O,a4⟩:=cg
 refine ab cf fun b8 b9 ba=>?_
 refine ng<|Pl 1<|?_
 have bb:=uz a3 b6
 have bc:=nb (ag.lt s) lr r
 have bd:=ay.blk (us C bb) (ae t (ae (Ne.symm bc) (ae (Ne.symm (nb (am o) (le p.size z.size) r)) az))) v
 refine L0<|aP bd 0<|L0<|Oc<|m2 (bQ ba) fun dd be P=>nt<|sq<|sg<|Pl 1<|?_
 refine L0<|aP (aY P (Ne.symm bc) bd) 0<|L0<|Oc<|mq (bp be)<|?_
 have de:=ag.len be
 refine Pl 1<|ng<|Pl 2<|nt<|?_
 have a5:=u1 bb P im
 have bf:=ut E a5 (ac (ni u.size f) (ac (ni y.size g) au))
 refine cb ((b8.endC.e != 0)) (fun H=>?_) (fun H=>?_)
 have a6:=aB H
 refine sg<|Pl 2<|?_
 refine L0<|bi (ub (ud i (ud j a5 f) g) k) mZ fun df ci ck=>Pl 1<|nt<|rt<|tr<|d9 ci (.int .i64 b8.endC.e)<|?_
 subst b9
 have hs:aq aN 0 c b=b7 ((dI c (al.mk b false 0)).2) ((dI c (al.mk b false 0)).1):=by
   unfold aq aN
   (try simp only[H,bs,if_true,if_false,decide_true,decide_false,eq_self,true_or,or_true,or_false,false_or,if_true,if_false,dR,dM,dN,dP,reduceIte,k1,k2,k5,l])
   all_goals rfl
 rw[hs]
 exact bg a6 (ud bf ck n)
 have a6:=ah H
 refine bK<|sg<|?_
 refine L0<|cj (hz:=(by rw[O.2];exact aV)) (aY P b5 O.1)<|?_
 refine L0<|bi (hz:=(by rw[O.2];exact aV)) (hv:=a4.size) (h1:=a4.one) (ub (ud i (ud j a5 f) g) k) (ch) fun dg cl bh=>Pl 1<|nt<|rt<|fc 22 O.2 cl (.int .i64 0)<|?_
 subst b9
 have hs:aq aN 0 c b=b7 ((dI c (al.mk b false 0)).2) ((dI c (al.mk b false 0)).1):=by
   unfold aq aN
   (try simp only[H,bs,if_true,if_false,decide_true,decide_false,eq_self,true_or,or_true,or_false,false_or,if_true,if_false,dR,dM,dN,dP,reduceIte,k1,k2,k5,l])
   all_goals rfl
 rw[hs]
 exact bt a6 (aF.upd a4 (us P bh) (aj (ag.safe ba _ (by decide)) (aj (aM (ub (ud i (ud b4 b6 f) g) k) (by decide)) aE))) (ud bf bh n)
 have k1:(c==1)=false:=by rw[hk];rfl
 have k2:(c==2)=false:=by rw[hk];rfl
 have k5:(c==5)=false:=by rw[hk];rfl
 have l:(c==15)=true:=by rw[hk];rfl
 refine L0<|n8 (hf:=(by subst hk;kernel_rfl)) B c (.agg #[.nilFunc,.nilFunc]) (some (3,.agg #[.func (.func 81) #[.agg #[.pointer (some ⟨d,0,none⟩),.pointer (some ⟨a,0,none⟩)]] #[],.func (.func 82) #[.agg #[.pointer (some ⟨d,0,none⟩),.pointer (some ⟨a,0,none⟩)]] #[]]))<|Pl 3<|L0<|bN #[.nilFunc,.nilFunc] fun dh di cm cn co=>L0<|bi cn #[.func (.func 81) #[.agg #[.pointer (some ⟨d,0,none⟩),.pointer (some ⟨a,0,none⟩)]] #[],.func (.func 82) #[.agg #[.pointer (some ⟨d,0,none⟩),.pointer (some ⟨a,0,none⟩)]] #[]] fun dj cq cr=>Pl 1<|nt<|sq<|sg<|Pl 2<|nt<|c0<|?_
 refine bK<|sg<|Pl 2<|L0<|aP cq 0<|?_
 have a7:=ud co cr cm
 have bj:=aD j a7
 have bk:=nb (am o) p.size f
 refine L0<|fj #[.agg #[.pointer (some ⟨d,0,none⟩),.pointer (some ⟨a,0,none⟩)]] #[] (args:=#[.agg #[.pointer (some ⟨d,0,none⟩),.pointer (some ⟨a,0,none⟩)]])<|m3 (y8 (c:=c) ⟨hcode1,hcode2⟩ (ag.old s (aD D a7)) (ub bj J) (Ne.symm bk)) fun dl bl cs bm=>?_
 obtain⟨ct,Q,a8⟩:=cs
 refine ng<|Pl 1<|?_
 have bn:=uz a7 bm
 have bo:=nb (ag.lt s) lr r
 have bq:=ay.blk (us C bn) (ae t (ae (Ne.symm bo) (ae (Ne.symm (nb (am o) (le p.size z.size) r)) az))) v
 refine L0<|aP bq 0<|L0<|Oc<|m2 (bQ bl) fun dm cu R=>?_
 refine ab cu fun br bu bv=>?_
 refine nt<|sq<|sg<|Pl 1<|?_
 refine L0<|aP (aY R (Ne.symm bo) bq) 0<|L0<|Oc<|mq (bp bv)<|?_
 have dn:=ag.len bv
 refine Pl 1<|ng<|Pl 2<|nt<|?_
 have a9:=u1 bn R im
 have bw:=ut E a9 (ac (ni u.size f) (ac (ni y.size g) au))
 refine cb ((br.e != 0)) (fun I=>?_) (fun I=>?_)
 have aa:=aB I
 refine sg<|Pl 2<|?_
 refine L0<|bi (ub (ud i (ud j a9 f) g) k) mZ fun dp cv cw=>Pl 1<|nt<|rt<|tr<|d9 cv (.int .i64 br.e)<|?_
 subst bu
 have hs:aq aN 0 c b=b7 ((jG c (al.mk b false 0)).2) ((jG c (al.mk b false 0)).1):=by
   unfold aq aN
   (try simp only[I,bs,if_true,if_false,decide_true,decide_false,eq_self,true_or,or_true,or_false,false_or,if_true,if_false,dR,dM,dN,dP,reduceIte,k1,k2,k5,l])
   all_goals rfl
 rw[hs]
 exact bg aa (ud bw cw n)
 have aa:=ah I
 refine bK<|sg<|?_
 refine L0<|cj (hz:=(by rw[Q.2];exact aV)) (aY R bk Q.1)<|?_
 refine L0<|bi (hz:=(by rw[Q.2];exact aV)) (hv:=a8.size) (h1:=a8.one) (ub (ud i (ud j a9 f) g) k) (ct) fun dr cx bx=>Pl 1<|nt<|rt<|fc 22 Q.2 cx (.int .i64 0)<|?_
 subst bu
 have hs:aq aN 0 c b=b7 ((jG c (al.mk b false 0)).2) ((jG c (al.mk b false 0)).1):=by
   unfold aq aN
   (try simp only[I,bs,if_true,if_false,decide_true,decide_false,eq_self,true_or,or_true,or_false,false_or,if_true,if_false,dR,dM,dN,dP,reduceIte,k1,k2,k5,l])
   all_goals rfl
 rw[hs]
 exact bt aa (aF.upd a8 (us R bx) (aj (ag.safe bl _ (by decide)) (aj (aM (ub (ud i (ud bj bm f) g) k) (by decide)) aE))) (ud bw bx n)
 have k1:(c==1)=false:=by simpa using hk.1
 have k2:(c==2)=false:=by simpa using hk.2.1
 have k5:(c==5)=false:=by simpa using hk.2.2.1
 have l:(c==15)=false:=by simpa using hk.2.2.2
 refine L0<|n8 (hf:=(AN (q:=.u8) (x:=c) #[⟨.int .u8 1,.agg #[.func (.func 78) #[.agg #[.pointer (some ⟨d,0,none⟩),.pointer (some ⟨a,0,none⟩)]] #[],.func (.func 79) #[.agg #[.pointer (some ⟨d,0,none⟩),.pointer (some ⟨a,0,none⟩)]] #[]],0⟩,⟨.int .u8 2,.agg #[.func (.func 78) #[.agg #[.pointer (some ⟨d,0,none⟩),.pointer (some ⟨a,0,none⟩)]] #[],.func (.func 79) #[.agg #[.pointer (some ⟨d,0,none⟩),.pointer (some ⟨a,0,none⟩)]] #[]],1⟩,⟨.int .u8 5,.agg #[.func (.func 80) #[.agg #[.pointer (some ⟨d,0,none⟩),.pointer (some ⟨a,0,none⟩)]] #[],.func (.func 80) #[.agg #[.pointer (some ⟨d,0,none⟩),.pointer (some ⟨a,0,none⟩)]] #[]],2⟩,⟨.int .u8 15,.agg #[.func (.func 81) #[.agg #[.pointer (some ⟨d,0,none⟩),.pointer (some ⟨a,0,none⟩)]] #[],.func (.func 82) #[.agg #[.pointer (some ⟨d,0,none⟩),.pointer (some ⟨a,0,none⟩)]] #[]],3⟩] (fd _ _ (by intro e he;simp only[List.mem_cons,List.not_mem_nil,or_false] at he;obtain⟨z1,z2,z5,ds⟩:=hk;rcases he with rfl | rfl | rfl | rfl<;>exact⟨_,rfl,fun h=>by simp_all⟩)))) B c (.agg #[.nilFunc,.nilFunc]) none<|Pl 3<|L0<|bN #[.nilFunc,.nilFunc] fun dt du cy cz cA=>L0<|bi cz #[.nilFunc,.nilFunc] fun dv dw cB=>Pl 1<|nt<|sq<|sg<|Pl 2<|nt<|c1<|?_
 refine sg<|Pl 1<|?_
 have bz:=ud cA cB cy
 refine L0<|bi (ub (aD i (aD j bz)) k) mZ fun dx cC cD=>Pl 1<|nt<|rt<|tr<|d9 cC (.int .i64 4)<|?_
 have hs:aq aN 0 c b=(aT.zero,4):=by
   unfold aq aN
   (try simp only[bs,if_true,if_false,decide_true,decide_false,eq_self,true_or,or_true,or_false,false_or,if_true,if_false,dR,dM,dN,dP,reduceIte,k1,k2,k5,l])
   all_goals rfl
 rw[hs]
 exact bV (ud E (uz bz cD) n)
theorem lu{m:Bool}{A:Option Addr}{cp:Nat}{b:List Int}{w:World}{c:Int}(hcode:B8 c)(hsl:aS m w (.slice A b.length cp) b)(hb:b.length≤1048576) :
    Calls Tryz.prog 58 #[.int .i64 1,.int .u8 c,.slice A b.length cp] w (dC (aq aN 1 c b) w):=by
 obtain⟨hcode1,hcode2⟩:=hcode
 have hln:(b.length:Int)≤1048576:=by omega
 refine en 72 Tryz.func58 rfl<|sg<|L0<|bN mZ fun cE cF n k y=>Pl 1<|nt<|sq<|sg<|Pl 6<|nt<|c0<|?_
 refine bK<|sg<|Pl 2<|L0<|bN mZ fun a cG g o bA=>L0<|bi o (mC c) fun cH J p=>ng<|Pl 1<|?_
 have i:=ud bA p g
 have u:=aD y i
 refine L0<|Oc<|e3 (dq (aS.old hsl u) (by omega)) fun d cI f s z=>Pl 1<|L0<|bN #[.pointer none,.pointer none] fun cJ cK r ad bB=>L0<|bi ad #[.pointer (some ⟨d,0,none⟩),.pointer (some ⟨a,0,none⟩)] fun cL bC af=>ng<|L0<|xh fun cM cN ai bD ak=>?_
 have S:=ub ak bC
 refine L0<|cj S<|Pl 1<|L0<|cj S<|Pl 2<|L0<|gj bD 1 fun cO bE an=>?_
 have t:=nb (am ad) af.size ai
 have T:=aY an t S
 refine L0<|cj T<|Pl 1<|L0<|cj T<|Pl 2<|L0<|gj bE 2 fun cP bF ao=>?_
 have U:=aY ao t T
 refine L0<|cj U<|Pl 1<|L0<|cj U<|Pl 2<|L0<|gj bF 5 fun cQ bG ap=>?_
 have v:=aY ap t U
 refine L0<|cj v<|Pl 1<|L0<|cj v<|Pl 2<|L0<|gj bG 15 fun cR B C=>Pl 2<|ng<|Pl 2<|?_
 have D:=ud bB (aD af (ud ak (u1 an (u1 ao (u1 ap C im) im) im) ai)) r
 have j:=aD z D
 have E:=aD u j
 rcases yA c with hk|hk|hk|hk|hk
 have k1:(c==1)=true:=by rw[hk];rfl
 have k2:(c==2)=false:=by rw[hk];rfl
 have k5:(c==5)=false:=by rw[hk];rfl
 have l:(c==15)=false:=by rw[hk];rfl
 refine L0<|n8 (hf:=(by subst hk;kernel_rfl)) B c (.agg #[.nilFunc,.nilFunc]) (some (0,.agg #[.func (.func 78) #[.agg #[.pointer (some ⟨d,0,none⟩),.pointer (some ⟨a,0,none⟩)]] #[],.func (.func 79) #[.agg #[.pointer (some ⟨d,0,none⟩),.pointer (some ⟨a,0,none⟩)]] #[]]))<|Pl 3<|L0<|bN #[.nilFunc,.nilFunc] fun cS cT bH bI bJ=>L0<|bi bI #[.func (.func 78) #[.agg #[.pointer (some ⟨d,0,none⟩),.pointer (some ⟨a,0,none⟩)]] #[],.func (.func 79) #[.agg #[.pointer (some ⟨d,0,none⟩),.pointer (some ⟨a,0,none⟩)]] #[]] fun cU bL bM=>Pl 1<|nt<|sq<|sg<|Pl 2<|nt<|c0<|?_
 refine bK<|sg<|Pl 2<|L0<|aP bL 1<|?_
 have V:=ud bJ bM bH
 have ar:=aD j V
 have av:=nb (am o) p.size f
 refine L0<|fj #[.agg #[.pointer (some ⟨d,0,none⟩),.pointer (some ⟨a,0,none⟩)]] #[] (args:=#[.agg #[.pointer (some ⟨d,0,none⟩),.pointer (some ⟨a,0,none⟩)]])<|m3 (lT (c:=c) ⟨hcode1,hcode2⟩ (ag.old s (aD D V)) (ub ar J) (Ne.symm av)) fun cV bO bP aw=>?_
 obtain⟨bR,K,W⟩:=bP
 refine ab bO fun x89 ax aA=>?_
 refine ng<|Pl 1<|?_
 have aC:=uz V aw
 have aG:=nb (ag.lt s) lr r
 have aH:=ay.blk (us C aC) (ae t (ae (Ne.symm aG) (ae (Ne.symm (nb (am o) (le p.size z.size) r)) az))) v
 refine L0<|aP aH 0<|L0<|Oc<|m2 (bQ aA) fun cW aI L=>nt<|sq<|sg<|Pl 1<|?_
 refine L0<|aP (aY L (Ne.symm aG) aH) 0<|L0<|Oc<|mq (bp aI)<|?_
 have cX:=ag.len aI
 refine Pl 1<|ng<|Pl 2<|nt<|?_
 have X:=u1 aC L im
 have aJ:=ut E X (ac (ni u.size f) (ac (ni y.size g) au))
 refine cb ((x89.endC.e != 0)) (fun F=>?_) (fun F=>?_)
 have Y:=aB F
 refine sg<|Pl 2<|?_
 refine L0<|bi (ub (ud i (ud j X f) g) k) mZ fun cY bS bT=>Pl 1<|nt<|rt<|tr<|d9 bS (.int .i64 x89.endC.e)<|?_
 subst ax
 have hs:aq aN 1 c b=b7 ((dS c (al.mk b false 0)).2) ((dS c (al.mk b false 0)).1):=by
   unfold aq aN
   (try simp only[F,bs,if_true,if_false,decide_true,decide_false,eq_self,true_or,or_true,or_false,false_or,if_true,if_false,dR,dM,dN,dP,reduceIte,k1,k2,k5,l])
   all_goals rfl
 rw[hs]
 exact bg Y (ud aJ bT n)
 have Y:=ah F
 refine bK<|sg<|?_
 refine L0<|cj (hz:=(by rw[K.2];exact aV)) (aY L av K.1)<|?_
 refine L0<|bi (hz:=(by rw[K.2];exact aV)) (hv:=W.size) (h1:=W.one) (ub (ud i (ud j X f) g) k) (bR) fun cZ bU aK=>Pl 1<|nt<|rt<|fc 22 K.2 bU (.int .i64 0)<|?_
 subst ax
 have hs:aq aN 1 c b=b7 ((dS c (al.mk b false 0)).2) ((dS c (al.mk b false 0)).1):=by
   unfold aq aN
   (try simp only[F,bs,if_true,if_false,decide_true,decide_false,eq_self,true_or,or_true,or_false,false_or,if_true,if_false,dR,dM,dN,dP,reduceIte,k1,k2,k5,l])
   all_goals rfl
 rw[hs]
 exact bt Y (aF.upd W (us L aK) (aj (ag.safe aA _ (by decide)) (aj (aM (ub (ud i (ud ar aw f) g) k) (by decide)) aE))) (ud aJ aK n)
 have k1:(c==1)=false:=by rw[hk];rfl
 have k2:(c==2)=true:=by rw[hk];rfl
 have k5:(c==5)=false:=by rw[hk];rfl
 have l:(c==15)=false:=by rw[hk];rfl
 refine L0<|n8 (hf:=(by subst hk;kernel_rfl)) B c (.agg #[.nilFunc,.nilFunc]) (some (1,.agg #[.func (.func 78) #[.agg #[.pointer (some ⟨d,0,none⟩),.pointer (some ⟨a,0,none⟩)]] #[],.func (.func 79) #[.agg #[.pointer (some ⟨d,0,none⟩),.pointer (some ⟨a,0,none⟩)]] #[]]))<|Pl 3<|L0<|bN #[.nilFunc,.nilFunc] fun d0 d1 bW bX bY=>L0<|bi bX #[.func (.func 78) #[.agg #[.pointer (some ⟨d,0,none⟩),.pointer (some ⟨a,0,none⟩)]] #[],.func (.func 79) #[.agg #[.pointer (some ⟨d,0,none⟩),.pointer (some ⟨a,0,none⟩)]] #[]] fun d2 bZ c2=>Pl 1<|nt<|sq<|sg<|Pl 2<|nt<|c0<|?_
 refine bK<|sg<|Pl 2<|L0<|aP bZ 1<|?_
 have Z:=ud bY c2 bW
 have aL:=aD j Z
 have aO:=nb (am o) p.size f
 refine L0<|fj #[.agg #[.pointer (some ⟨d,0,none⟩),.pointer (some ⟨a,0,none⟩)]] #[] (args:=#[.agg #[.pointer (some ⟨d,0,none⟩),.pointer (some ⟨a,0,none⟩)]])<|m3 (lT (c:=c) ⟨hcode1,hcode2⟩ (ag.old s (aD D Z)) (ub aL J) (Ne.symm aO)) fun d3 c3 c4 aQ=>?_
 obtain⟨c5,M,a0⟩:=c4
 refine ab c3 fun aR aU aW=>?_
 refine ng<|Pl 1<|?_
 have aX:=uz Z aQ
 have aZ:=nb (ag.lt s) lr r
 have b0:=ay.blk (us C aX) (ae t (ae (Ne.symm aZ) (ae (Ne.symm (nb (am o) (le p.size z.size) r)) az))) v
 refine L0<|aP b0 0<|L0<|Oc<|m2 (bQ aW) fun d4 b1 N=>nt<|sq<|sg<|Pl 1<|?_
 refine L0<|aP (aY N (Ne.symm aZ) b0) 0<|L0<|Oc<|mq (bp b1)<|?_
 have d5:=ag.len b1
 refine Pl 1<|ng<|Pl 2<|nt<|?_
 have a1:=u1 aX N im
 have b2:=ut E a1 (ac (ni u.size f) (ac (ni y.size g) au))
 refine cb ((aR.endC.e != 0)) (fun G=>?_) (fun G=>?_)
 have a2:=aB G
 refine sg<|Pl 2<|?_
 refine L0<|bi (ub (ud i (ud j a1 f) g) k) mZ fun d6 c6 c7=>Pl 1<|nt<|rt<|tr<|d9 c6 (.int .i64 aR.endC.e)<|?_
 subst aU
 have hs:aq aN 1 c b=b7 ((dS c (al.mk b false 0)).2) ((dS c (al.mk b false 0)).1):=by
   unfold aq aN
   (try simp only[G,bs,if_true,if_false,decide_true,decide_false,eq_self,true_or,or_true,or_false,false_or,if_true,if_false,dR,dM,dN,dP,reduceIte,k1,k2,k5,l])
   all_goals rfl
 rw[hs]
 exact bg a2 (ud b2 c7 n)
 have a2:=ah G
 refine bK<|sg<|?_
 refine L0<|cj (hz:=(by rw[M.2];exact aV)) (aY N aO M.1)<|?_
 refine L0<|bi (hz:=(by rw[M.2];exact aV)) (hv:=a0.size) (h1:=a0.one) (ub (ud i (ud j a1 f) g) k) (c5) fun d7 c8 b3=>Pl 1<|nt<|rt<|fc 22 M.2 c8 (.int .i64 0)<|?_
 subst aU
 have hs:aq aN 1 c b=b7 ((dS c (al.mk b false 0)).2) ((dS c (al.mk b false 0)).1):=by
   unfold aq aN
   (try simp only[G,bs,if_true,if_false,decide_true,decide_false,eq_self,true_or,or_true,or_false,false_or,if_true,if_false,dR,dM,dN,dP,reduceIte,k1,k2,k5,l])
   all_goals rfl
 rw[hs]
 exact bt a2 (aF.upd a0 (us N b3) (aj (ag.safe aW _ (by decide)) (aj (aM (ub (ud i (ud aL aQ f) g) k) (by decide)) aE))) (ud b2 b3 n)
 have k1:(c==1)=false:=by rw[hk];rfl
 have k2:(c==2)=false:=by rw[hk];rfl
 have k5:(c==5)=true:=by rw[hk];rfl
 have l:(c==15)=false:=by rw[hk];rfl
 refine L0<|n8 (hf:=(by subst hk;kernel_rfl)) B c (.agg #[.nilFunc,.nilFunc]) (some (2,.agg #[.func (.func 80) #[.agg #[.pointer (some ⟨d,0,none⟩),.pointer (some ⟨a,0,none⟩)]] #[],.func (.func 80) #[.agg #[.pointer (some ⟨d,0,none⟩),.pointer (some ⟨a,0,none⟩)]] #[]]))<|Pl 3<|L0<|bN #[.nilFunc,.nilFunc] fun d8 da c9 ca cc=>L0<|bi ca #[.func (.func 80) #[.agg #[.pointer (some ⟨d,0,none⟩),.pointer (some ⟨a,0,none⟩)]] #[],.func (.func 80) #[.agg #[.pointer (some ⟨d,0,none⟩),.pointer (some ⟨a,0,none⟩)]] #[]] fun db cd ce=>Pl 1<|nt<|sq<|sg<|Pl 2<|nt<|c0<|?_
 refine bK<|sg<|Pl 2<|L0<|aP cd 1<|?_
 have a3:=ud cc ce c9
 have b4:=aD j a3
 have b5:=nb (am o) p.size f
 refine L0<|fj #[.agg #[.pointer (some ⟨d,0,none⟩),.pointer (some ⟨a,0,none⟩)]] #[] (args:=#[.agg #[.pointer (some ⟨d,0,none⟩),.pointer (some ⟨a,0,none⟩)]])<|m3 (lF (c:=c) ⟨hcode1,hcode2⟩ (ag.old s (aD D a3)) (ub b4 J) (Ne.symm b5)) fun dc cf cg b6=>?_
 obtain⟨ch,O,a4⟩:=cg
 refine ab cf fun b8 b9 ba=>?_
 refine ng<|Pl 1<|?_
 have bb:=uz a3 b6
 have bc:=nb (ag.lt s) lr r
 have bd:=ay.blk (us C bb) (ae t (ae (Ne.symm bc) (ae (Ne.symm (nb (am o) (le p.size z.size) r)) az))) v
 refine L0<|aP bd 0<|L0<|Oc<|m2 (bQ ba) fun dd be P=>nt<|sq<|sg<|Pl 1<|?_
 refine L0<|aP (aY P (Ne.symm bc) bd) 0<|L0<|Oc<|mq (bp be)<|?_
 have de:=ag.len be
 refine Pl 1<|ng<|Pl 2<|nt<|?_
 have a5:=u1 bb P im
 have bf:=ut E a5 (ac (ni u.size f) (ac (ni y.size g) au))
 refine cb ((b8.endC.e != 0)) (fun H=>?_) (fun H=>?_)
 have a6:=aB H
 refine sg<|Pl 2<|?_
 refine L0<|bi (ub (ud i (ud j a5 f) g) k) mZ fun df ci ck=>Pl 1<|nt<|rt<|tr<|d9 ci (.int .i64 b8.endC.e)<|?_
 subst b9
 have hs:aq aN 1 c b=b7 ((dI c (al.mk b false 0)).2) ((dI c (al.mk b false 0)).1):=by
   unfold aq aN
   (try simp only[H,bs,if_true,if_false,decide_true,decide_false,eq_self,true_or,or_true,or_false,false_or,if_true,if_false,dR,dM,dN,dP,reduceIte,k1,k2,k5,l])
   all_goals rfl
 rw[hs]
 exact bg a6 (ud bf ck n)
 have a6:=ah H
 refine bK<|sg<|?_
 refine L0<|cj (hz:=(by rw[O.2];exact aV)) (aY P b5 O.1)<|?_
 refine L0<|bi (hz:=(by rw[O.2];exact aV)) (hv:=a4.size) (h1:=a4.one) (ub (ud i (ud j a5 f) g) k) (ch) fun dg cl bh=>Pl 1<|nt<|rt<|fc 22 O.2 cl (.int .i64 0)<|?_
 subst b9
 have hs:aq aN 1 c b=b7 ((dI c (al.mk b false 0)).2) ((dI c (al.mk b false 0)).1):=by
   unfold aq aN
   (try simp only[H,bs,if_true,if_false,decide_true,decide_false,eq_self,true_or,or_true,or_false,false_or,if_true,if_false,dR,dM,dN,dP,reduceIte,k1,k2,k5,l])
   all_goals rfl
 rw[hs]
 exact bt a6 (aF.upd a4 (us P bh) (aj (ag.safe ba _ (by decide)) (aj (aM (ub (ud i (ud b4 b6 f) g) k) (by decide)) aE))) (ud bf bh n)
 have k1:(c==1)=false:=by rw[hk];rfl
 have k2:(c==2)=false:=by rw[hk];rfl
 have k5:(c==5)=false:=by rw[hk];rfl
 have l:(c==15)=true:=by rw[hk];rfl
 refine L0<|n8 (hf:=(by subst hk;kernel_rfl)) B c (.agg #[.nilFunc,.nilFunc]) (some (3,.agg #[.func (.func 81) #[.agg #[.pointer (some ⟨d,0,none⟩),.pointer (some ⟨a,0,none⟩)]] #[],.func (.func 82) #[.agg #[.pointer (some ⟨d,0,none⟩),.pointer (some ⟨a,0,none⟩)]] #[]]))<|Pl 3<|L0<|bN #[.nilFunc,.nilFunc] fun dh di cm cn co=>L0<|bi cn #[.func (.func 81) #[.agg #[.pointer (some ⟨d,0,none⟩),.pointer (some ⟨a,0,none⟩)]] #[],.func (.func 82) #[.agg #[.pointer (some ⟨d,0,none⟩),.pointer (some ⟨a,0,none⟩)]] #[]] fun dj cq cr=>Pl 1<|nt<|sq<|sg<|Pl 2<|nt<|c0<|?_
 refine bK<|sg<|Pl 2<|L0<|aP cq 1<|?_
 have a7:=ud co cr cm
 have bj:=aD j a7
 have bk:=nb (am o) p.size f
 refine L0<|fj #[.agg #[.pointer (some ⟨d,0,none⟩),.pointer (some ⟨a,0,none⟩)]] #[] (args:=#[.agg #[.pointer (some ⟨d,0,none⟩),.pointer (some ⟨a,0,none⟩)]])<|m3 (vJ (c:=c) ⟨hcode1,hcode2⟩ (ag.old s (aD D a7)) (ub bj J) (Ne.symm bk)) fun dl cs ct bl=>?_
 obtain⟨cu,Q,a8⟩:=ct
 refine ab cs fun bm bn bo=>?_
 refine ng<|Pl 1<|?_
 have bq:=uz a7 bl
 have br:=nb (ag.lt s) lr r
 have bu:=ay.blk (us C bq) (ae t (ae (Ne.symm br) (ae (Ne.symm (nb (am o) (le p.size z.size) r)) az))) v
 refine L0<|aP bu 0<|L0<|Oc<|m2 (bQ bo) fun dm bv R=>nt<|sq<|sg<|Pl 1<|?_
 refine L0<|aP (aY R (Ne.symm br) bu) 0<|L0<|Oc<|mq (bp bv)<|?_
 have dn:=ag.len bv
 refine Pl 1<|ng<|Pl 2<|nt<|?_
 have a9:=u1 bq R im
 have bw:=ut E a9 (ac (ni u.size f) (ac (ni y.size g) au))
 refine cb ((bm.endC.e != 0)) (fun I=>?_) (fun I=>?_)
 have aa:=aB I
 refine sg<|Pl 2<|?_
 refine L0<|bi (ub (ud i (ud j a9 f) g) k) mZ fun dp cv cw=>Pl 1<|nt<|rt<|tr<|d9 cv (.int .i64 bm.endC.e)<|?_
 subst bn
 have hs:aq aN 1 c b=b7 ((dk 1968 c (al.mk b false 0)).2) ((dk 1968 c (al.mk b false 0)).1):=by
   unfold aq aN
   (try simp only[I,bs,if_true,if_false,decide_true,decide_false,eq_self,true_or,or_true,or_false,false_or,if_true,if_false,dR,dM,dN,dP,reduceIte,k1,k2,k5,l])
   all_goals rfl
 rw[hs]
 exact bg aa (ud bw cw n)
 have aa:=ah I
 refine bK<|sg<|?_
 refine L0<|cj (hz:=(by rw[Q.2];exact aV)) (aY R bk Q.1)<|?_
 refine L0<|bi (hz:=(by rw[Q.2];exact aV)) (hv:=a8.size) (h1:=a8.one) (ub (ud i (ud j a9 f) g) k) (cu) fun dr cx bx=>Pl 1<|nt<|rt<|fc 22 Q.2 cx (.int .i64 0)<|?_
 subst bn
 have hs:aq aN 1 c b=b7 ((dk 1968 c (al.mk b false 0)).2) ((dk 1968 c (al.mk b false 0)).1):=by
   unfold aq aN
   (try simp only[I,bs,if_true,if_false,decide_true,decide_false,eq_self,true_or,or_true,or_false,false_or,if_true,if_false,dR,dM,dN,dP,reduceIte,k1,k2,k5,l])
   all_goals rfl
 rw[hs]
 exact bt aa (aF.upd a8 (us R bx) (aj (ag.safe bo _ (by decide)) (aj (aM (ub (ud i (ud bj bl f) g) k) (by decide)) aE))) (ud bw bx n)
 have k1:(c==1)=false:=by simpa using hk.1
 have k2:(c==2)=false:=by simpa using hk.2.1
 have k5:(c==5)=false:=by simpa using hk.2.2.1
 have l:(c==15)=false:=by simpa using hk.2.2.2
 refine L0<|n8 (hf:=(AN (q:=.u8) (x:=c) #[⟨.int .u8 1,.agg #[.func (.func 78) #[.agg #[.pointer (some ⟨d,0,none⟩),.pointer (some ⟨a,0,none⟩)]] #[],.func (.func 79) #[.agg #[.pointer (some ⟨d,0,none⟩),.pointer (some ⟨a,0,none⟩)]] #[]],0⟩,⟨.int .u8 2,.agg #[.func (.func 78) #[.agg #[.pointer (some ⟨d,0,none⟩),.pointer (some ⟨a,0,none⟩)]] #[],.func (.func 79) #[.agg #[.pointer (some ⟨d,0,none⟩),.pointer (some ⟨a,0,none⟩)]] #[]],1⟩,⟨.int .u8 5,.agg #[.func (.func 80) #[.agg #[.pointer (some ⟨d,0,none⟩),.pointer (some ⟨a,0,none⟩)]] #[],.func (.func 80) #[.agg #[.pointer (some ⟨d,0,none⟩),.pointer (some ⟨a,0,none⟩)]] #[]],2⟩,⟨.int .u8 15,.agg #[.func (.func 81) #[.agg #[.pointer (some ⟨d,0,none⟩),.pointer (some ⟨a,0,none⟩)]] #[],.func (.func 82) #[.agg #[.pointer (some ⟨d,0,none⟩),.pointer (some ⟨a,0,none⟩)]] #[]],3⟩] (fd _ _ (by intro e he;simp only[List.mem_cons,List.not_mem_nil,or_false] at he;obtain⟨z1,z2,z5,ds⟩:=hk;rcases he with rfl | rfl | rfl | rfl<;>exact⟨_,rfl,fun h=>by simp_all⟩)))) B c (.agg #[.nilFunc,.nilFunc]) none<|Pl 3<|L0<|bN #[.nilFunc,.nilFunc] fun dt du cy cz cA=>L0<|bi cz #[.nilFunc,.nilFunc] fun dv dw cB=>Pl 1<|nt<|sq<|sg<|Pl 2<|nt<|c1<|?_
 refine sg<|Pl 1<|?_
 have bz:=ud cA cB cy
 refine L0<|bi (ub (aD i (aD j bz)) k) mZ fun dx cC cD=>Pl 1<|nt<|rt<|tr<|d9 cC (.int .i64 4)<|?_
 have hs:aq aN 1 c b=(aT.zero,4):=by
   unfold aq aN
   (try simp only[bs,if_true,if_false,decide_true,decide_false,eq_self,true_or,or_true,or_false,false_or,if_true,if_false,dR,dM,dN,dP,reduceIte,k1,k2,k5,l])
   all_goals rfl
 rw[hs]
 exact bV (ud E (uz bz cD) n)
theorem lm{m:Bool}{A:Option Addr}{cp:Nat}{b:List Int}{w:World}{dir c:Int}(hcode:B8 c)(hsl:aS m w (.slice A b.length cp) b)(hb:b.length≤1048576)(hd:¬ (dir=0∨dir=1)) :
    Calls Tryz.prog 58 #[.int .i64 dir,.int .u8 c,.slice A b.length cp] w (dC (aq aN dir c b) w):=by
 obtain⟨hcode1,hcode2⟩:=hcode
 have hln:(b.length:Int)≤1048576:=by omega
 have e0:(dir != 0)=true:=by simp;omega
 have e1:(dir != 1)=true:=by simp;omega
 refine en 72 Tryz.func58 rfl<|sg<|L0<|bN mZ fun g h a d e=>Pl 1<|nt<|sq<|sg<|Pl 3<|sy 16 e0<|Pl 3<|nl<|?_
 refine tn<|ct e1<|sg<|Pl 1<|L0<|bi d mZ fun i dA f=>Pl 1<|nt<|rt<|tr<|d9 dA (.int .i64 1)<|?_
 have hs:aq aN dir c b=(aT.zero,1):=by
   unfold aq aN
   (try simp only[e0,e1,bs,if_true,if_false,decide_true,decide_false,eq_self,true_or,or_true,or_false,false_or,if_true,if_false,dR,dM,dN,dP,reduceIte,hd])
   all_goals rfl
 rw[hs]
 exact bV (ud e f a)
theorem jw{m:Bool}{v:Value}{b:List Int}{w:World}{dir c:Int}(hc:B8 c)(h:aS m w v b)(hb:b.length≤1048576) :
    Calls Tryz.prog 58 #[.int .i64 dir,.int .u8 c,v] w (dC (aq aN dir c b) w):=by
  obtain⟨A,cp,rfl,_,_⟩:=h.shape
  by_cases h0:dir=0
  · subst h0;exact ln hc h hb
  by_cases h1:dir=1
  · subst h1;exact lu hc h hb
  exact lm hc h hb (by omega)
open Go.RowKit
def d8 (c:al) : al:=(c.wordsC 1).need (c.wordV==0 || c.wordV==65535) 6
theorem zm{v:Int}(h:0≤v∧v<65536) : bits .and .u16 v 255=v%256:=by
  rw[u16_and v 255 h.1 h.2 (by decide) (by decide)]
  show((v.toNat &&& (2 ^ 8-1) : Nat) : Int)=_
  rw[Nat.and_two_pow_sub_one_eq_mod]
  omega
def ii (dir sub v:Int) : Bool:=if (sub==2 || (decide (11≤sub)&&decide (sub≤18)))&&dir==1 then true else if sub==1 then v==0 || v==65280 else if sub==3 then v%256==0 else v==0
theorem oc{g:Nat}{c:al}{w:World}(hc:ag w g c) :
    Calls Tryz.prog 123 #[.pointer (some ⟨g,0,none⟩)] w (lE g .u16 65536 c.wordV (d8 c) w):=by
 have hr:=hc.wordV
 refine en 15 Tryz.func123 rfl<|sg<|Pl 1<|ng<|Pl 1<|L0<|Oc<|m3 (bI hc) fun l d e m=>Pl 1<|nt<|sq<|?_
 refine go<|Pl 4<|cu 3 [9] 12 (((c.wordV==0)||(c.wordV==65535))) (fun K b=>?_) ?_
 refine bl 9 ((c.wordV==0)) (fun a=>?_) (fun a=>?_)
 have f:=ax a
 exact Pl 3<|ce b true (by rw[a];rfl)
 have f:=aA a
 exact Pl 3<|ce b (c.wordV==65535) (by rw[a];rfl)
 refine L0<|Oc<|m2 (aU (((c.wordV==0)||(c.wordV==65535))) 6 d) fun n h i=>?_
 refine ab h fun x19 j k=>?_
 refine ng<|Pl 2<|nt<|rt<|rr (.int .u16 c.wordV)<|?_
 subst j
 exact⟨rfl,k,(u1 e i im),hr⟩
theorem wx{v:Int}{w:World}:Calls Tryz.prog 137 #[.int .u16 v] w (bv (.bool (v==0 || v==65280)) w):=by
 refine en 9 Tryz.func137 rfl<|sg<|Pl 1<|ng<|Pl 3<|cu 3 [5] 8 (((v==0)||(v==65280))) (fun K b=>?_) ?_
 refine bl 5 ((v==0)) (fun a=>?_) (fun a=>?_)
 have c:=ax a
 exact Pl 3<|ce b true (by rw[a];rfl)
 have c:=aA a
 exact Pl 3<|ce b (v==65280) (by rw[a];rfl)
 refine Pl 1<|nt<|rt<|rr (.bool ((v==0)||(v==65280)))<|?_
 exact⟨rfl,(ay.refl [] _)⟩
theorem vH{v:Int}{w:World}(hv:0≤v∧v<65536) : Calls Tryz.prog 138 #[.int .u16 v] w (bv (.bool (v%256==0)) w):=by
 refine en 6 Tryz.func138 rfl<|sg<|Pl 1<|ng<|Pl 1<|L0<|Oe (.int .u16 (bits .and .u16 v 255)) (.int .u16 (v%256)) (congrArg (Value.int .u16) (zm (by omega)))<|Pl 2<|nt<|rt<|?_
 refine rr (.bool ((v%256)==0))<|?_
 exact⟨rfl,(ay.refl [] _)⟩
theorem vO{v x:Int}{gb:Nat}{w:World}(hB:w.heap[gb]? = some (.cells #[.int .u16 v] 22 (0,0))) : Calls Tryz.prog 136 #[.int .u16 x,.pointer (some ⟨gb,0,none⟩)] w (bv (.bool (v==0)) w):=by
 refine en 6 Tryz.func136 rfl<|sg<|Pl 1<|ng<|L0<|aP hB 0<|Pl 2<|nt<|rt<|rr (.bool (v==0))<|?_
 exact⟨rfl,(ay.refl [] _)⟩
theorem zR{dir v:Int}{w:World}(hv:0≤v∧v<65536) : Calls Tryz.prog 122 #[.int .i64 dir,.int .u16 1,.int .u16 v] w (bv (.bool (ii dir 1 v)) w):=by
 refine en 42 Tryz.func122 rfl<|sg<|L0<|cI #[.int .u16 v] fun l m n b c=>Pl 1<|ng<|Pl 2<|ng<|?_
 refine L0<|xh fun o p d e f=>L0<|gj e 1 fun q g h=>L0<|gj g 3 fun r i j=>Pl 2<|ng<|Pl 11<|nt<|sq<|sg<|?_
 refine Pl 5<|nt<|c0<|bK<|sg<|Pl 2<|L0<|n8 i 1 (.nilFunc) (some (0,.func (.func 137) #[] #[]))<|Pl 5<|nt<|sq<|?_
 refine sg<|Pl 2<|nt<|c0<|bK<|sg<|Pl 1<|?_
 have a:=ud f (u1 h j im) d
 refine L0<|aP (ub a b) 0<|L0<|fj #[] #[] (args:=#[.int .u16 v])<|m1 (wx) fun s k=>Pl 1<|nt<|rt<|rr (.bool (v==0 || v==65280))<|?_
 have hs:ii dir 1 v=(v==0 || v==65280):=by
   unfold ii
   (try simp only[bs,if_true,if_false,decide_true,decide_false,reduceIte])
   all_goals rfl
 rw[hs]
 exact⟨rfl,(aD c (aD a k))⟩
theorem Az{dir v:Int}{w:World}(hv:0≤v∧v<65536) : Calls Tryz.prog 122 #[.int .i64 dir,.int .u16 3,.int .u16 v] w (bv (.bool (ii dir 3 v)) w):=by
 refine en 42 Tryz.func122 rfl<|sg<|L0<|cI #[.int .u16 v] fun l m n b c=>Pl 1<|ng<|Pl 2<|ng<|?_
 refine L0<|xh fun o p d e f=>L0<|gj e 1 fun q g h=>L0<|gj g 3 fun r i j=>Pl 2<|ng<|Pl 11<|nt<|sq<|sg<|?_
 refine Pl 5<|nt<|c0<|bK<|sg<|Pl 2<|L0<|n8 i 3 (.nilFunc) (some (1,.func (.func 138) #[] #[]))<|Pl 5<|nt<|sq<|?_
 refine sg<|Pl 2<|nt<|c0<|bK<|sg<|Pl 1<|?_
 have a:=ud f (u1 h j im) d
 refine L0<|aP (ub a b) 0<|L0<|fj #[] #[] (args:=#[.int .u16 v])<|m1 (vH hv) fun s k=>Pl 1<|nt<|rt<|rr (.bool (v%256==0))<|?_
 have hs:ii dir 3 v=(v%256==0):=by
   unfold ii
   (try simp only[bs,if_true,if_false,decide_true,decide_false,reduceIte])
   all_goals rfl
 rw[hs]
 exact⟨rfl,(aD c (aD a k))⟩
theorem zc{dir sub v:Int}{w:World}(hv:0≤v∧v<65536)(h1:sub≠1)(h3:sub≠3) : Calls Tryz.prog 122 #[.int .i64 dir,.int .u16 sub,.int .u16 v] w (bv (.bool (ii dir sub v)) w):=by
 have n1:(sub==1)=false:=by simpa using h1
 have n3:(sub==3)=false:=by simpa using h3
 refine en 42 Tryz.func122 rfl<|sg<|L0<|cI #[.int .u16 v] fun f G H o p=>Pl 1<|ng<|Pl 2<|ng<|?_
 refine L0<|xh fun I J r s t=>L0<|gj s 1 fun L u y=>L0<|gj u 3 fun M z A=>Pl 2<|ng<|Pl 3<|cu 7 [17] 24 (((sub==2)||((decide (11≤sub))&&(decide (sub≤18))))) (fun K g=>?_) ?_
 refine bl 17 ((sub==2)) (fun a=>?_) (fun a=>?_)
 have B:=ax a
 exact Pl 7<|ce g true (by rw[a];rfl)
 have B:=aA a
 refine Pl 3<|cu 3 [20] 23 (((decide (11≤sub))&&(decide (sub≤18)))) (fun K i=>?_) ?_
 refine bl 20 ((decide (11≤sub))) (fun b=>?_) (fun b=>?_)
 have C:=of_decide_eq_true b
 exact Pl 3<|ce i (decide (sub≤18)) (by rw[b];rfl)
 have C:=of_decide_eq_false b
 exact Pl 3<|ce i false (by rw[b];rfl)
 exact Pl 1<|ce g ((decide (11≤sub))&&(decide (sub≤18))) (by rw[a];rfl)
 refine Pl 1<|nt<|sq<|sg<|Pl 2<|cu 3 [26] 29 ((((sub==2)||((decide (11≤sub))&&(decide (sub≤18))))&&(dir==1))) (fun K j=>?_) ?_
 refine bl 26 (((sub==2)||((decide (11≤sub))&&(decide (sub≤18))))) (fun c=>?_) (fun c=>?_)
 exact Pl 3<|ce j (dir==1) (by rw[c];rfl)
 have D:=(aK c).1
 have N:=(aK c).2
 have O:=aA D
 exact Pl 3<|ce j false (by rw[c];rfl)
 refine nt<|?_
 have k:=ud t (u1 y A im) r
 have l:=aD p k
 refine cb ((((sub==2)||((decide (11≤sub))&&(decide (sub≤18))))&&(dir==1))) (fun d=>?_) (fun d=>?_)
 have E:=(bM d).1
 have m:=(bM d).2
 have P:=ax m
 refine sg<|Pl 1<|nt<|rt<|tr<|rr (.bool true)<|?_
 have hs:ii dir sub v=true:=by
   unfold ii
   (try simp only[d,E,m,bs,if_true,if_false,decide_true,decide_false,n1,n3,reduceIte])
   all_goals rfl
 rw[hs]
 exact⟨rfl,l⟩
 refine bK<|sg<|Pl 2<|L0<|n8 (hf:=(AN (q:=.u16) (x:=sub) #[⟨.int .u16 1,.func (.func 137) #[] #[],0⟩,⟨.int .u16 3,.func (.func 138) #[] #[],1⟩] (fd _ _ (by intro e he;simp only[List.mem_cons,List.not_mem_nil,or_false] at he;rcases he with rfl | rfl;exact⟨_,rfl,fun h=>h1 h.symm⟩;exact⟨_,rfl,fun h=>h3 h.symm⟩)))) z sub (.nilFunc) none<|Pl 5<|nt<|sq<|sg<|Pl 2<|nl<|?_
 refine tn<|c1<|go<|Pl 2<|ng<|Pl 1<|?_
 have n:=ub k o
 refine L0<|aP n 0<|L0<|fj #[] #[.pointer (some ⟨f,0,none⟩)] (args:=#[.int .u16 v,.pointer (some ⟨f,0,none⟩)])<|m1 (vO n) fun Q F=>Pl 1<|nt<|rt<|rr (.bool (v==0))<|?_
 have hs:ii dir sub v=(v==0):=by
   unfold ii
   (try simp only[d,bs,if_true,if_false,decide_true,decide_false,n1,n3,reduceIte])
   all_goals rfl
 rw[hs]
 exact⟨rfl,(aD l F)⟩
theorem yn{dir sub v:Int}{w:World}(hv:0≤v∧v<65536) : Calls Tryz.prog 122 #[.int .i64 dir,.int .u16 sub,.int .u16 v] w (bv (.bool (ii dir sub v)) w):=by
  by_cases h1:sub=1
  · subst h1;exact zR hv
  by_cases h3:sub=3
  · subst h3;exact Az hv
  exact zc hv h1 h3
open Go.RowKit
def fV (dir:Int)(C:al) : al:=(C.wordsC 1).need (fT C.wordV&&(dir==0 || C.wordV != 4)) 8
def mf (C:al) : al:=C.need (((C.l.length:Int)%2==0&&decide (2≤(C.l.length:Int)))&&decide ((C.l.length:Int)≤250)) 5
def dx (dir c:Int)(C:al) : al × aT :=
  if C.wordV != 0 then (((fV dir C).wordsC 1).need ((((fV dir C).wordsR 1).length:Int)==1&&ii dir C.wordV (((fV dir C).wordsR 1).getD 0 0)) 6,{ aT.zero with code:=c,sub:=C.wordV,words:=(fV dir C).wordsR 1 })
  else ((mf (fV dir C)).wordsC (((fV dir C).l.length:Int)/2),{ aT.zero with code:=c,sub:=C.wordV,words:=(mf (fV dir C)).wordsR (((fV dir C).l.length:Int)/2) })
def fk (C:al)(lo hi:Int) : al:=(C.bytesC 1).need (decide (lo≤C.byteV)&&decide (C.byteV≤hi)) 5
def gl (C:al) : al:=((d8 (fk C 6 70)).wordsC 1).wordsC 1
def bD (c:Int)(C:al) : al × aT :=
  if c==7 then (C.bytesC 1,{ aT.zero with code:=c,value:=C.byteV })
  else if c==11 then ((d8 C).wordsC 1,{ aT.zero with code:=c,status:=C.wordV,events:=(d8 C).wordV })
  else if c==12 then ((gl C).bytesC (C.byteV-6),{ aT.zero with code:=c,status:=(fk C 6 70).wordV,events:=(d8 (fk C 6 70)).wordV,messages:=((d8 (fk C 6 70)).wordsC 1).wordV,data:=(gl C).bytesR (C.byteV-6) })
  else if c==17 then ((fk C 1 251).bytesC C.byteV,{ aT.zero with code:=c,data:=(fk C 1 251).bytesR C.byteV })
  else (C,{ aT.zero with code:=c })
theorem nB{g gm:Nat}{dir c:Int}{C:al}{w:World}(hcode:B8 c)(hC:ag w g C)(hm:w.heap[gm]? = some (.cells #[.int .u8 c,.int .u8 0,.int .u16 0,.int .u16 0,.int .u16 0,.int .u16 0,.int .u16 0,.int .u16 0,.int .u16 0,.int .u16 0,.int .u16 0,.int .u16 0,.slice none 0 0,.slice none 0 0,.slice none 0 0,.slice none 0 0,.int .u8 0,.int .u8 0,.int .u8 0,.int .u8 0,.int .u8 0,.slice none 0 0] 31 (0,0)))(hne:g≠gm) :
    Calls Tryz.prog 88 #[.int .i64 dir,.pointer (some ⟨g,0,none⟩),.pointer (some ⟨gm,0,none⟩)] w (bU g gm (dx dir c C).1 (dx dir c C).2 w):=by
 obtain⟨hcode1,hcode2⟩:=hcode
 have hlen:=hC.len
 refine en 84 Tryz.func88 rfl<|sg<|Pl 2<|L0<|Oc<|m3 (bI hC) fun b1 a4 t b2=>Pl 2<|?_
 have J:=aY t (Ne.symm hne) hm
 refine L0<|co J 8 (mG c 0 0 0 0 0 0 0 C.wordV 0 0 0 nS nS nS nS 0 0 0 0 0 nS) fun b3 dA L=>ng<|Pl 4<|L0<|aP dA 8<|L0<|Oc<|m1 (v4 (x:=C.wordV) (w:=_)) fun b4 r=>Pl 1<|cu 10 [18] 28 (((fT C.wordV)&&((dir==0)||(C.wordV != 4)))) (fun K M=>?_) ?_
 refine bl 18 ((fT C.wordV)) (fun u=>?_) (fun u=>?_)
 refine Pl 3<|cu 6 [21] 27 (((dir==0)||(C.wordV != 4))) (fun K N=>?_) ?_
 refine bl 21 ((dir==0)) (fun j=>?_) (fun j=>?_)
 have a5:=ax j
 exact Pl 6<|ce N true (by rw[j];rfl)
 have a5:=aA j
 refine Pl 3<|?_
 exact L1<|aP (ub r dA) 8<|Pl 2<|ce N (C.wordV != 4) (by rw[j];rfl)
 exact Pl 1<|ce M ((dir==0)||(C.wordV != 4)) (by rw[u];rfl)
 exact Pl 10<|ce M false (by rw[u];rfl)
 have O:=aD L r
 refine L0<|Oc<|m2 (aU (((fT C.wordV)&&((dir==0)||(C.wordV != 4)))) 8 (ag.upd a4 O (ae hne az) (aj (aM J (by decide)) aE))) fun b5 a6 y=>?_
 refine ab a6 fun x30 z s=>?_
 refine nt<|sq<|sg<|Pl 3<|?_
 have A:=aY (uz r y) (Ne.symm hne) dA
 refine L0<|aP A 8<|Pl 1<|nt<|?_
 have d:=ui t (us O y)
 refine cb ((C.wordV != 0)) (fun f=>?_) (fun f=>?_)
 have a7:=aB f
 refine sg<|Pl 2<|L0<|Oc<|si (dQ (n:=1) s) fun P Q b6 i b7 b9 R S=>Pl 2<|?_
 have B:=aY S (Ne.symm hne) A
 refine L0<|co B 12 (mG c 0 0 0 0 0 0 0 C.wordV 0 0 0 (.slice P ((x30.wordsR 1).length) Q) nS nS nS 0 0 0 0 0 nS) fun ba a8 a9=>nt<|sq<|Rg 22 (fun w'=>w'.cell? ⟨gm,12,none⟩=some (.slice P ((x30.wordsR 1).length) Q)∧w'.cell? ⟨gm,8,none⟩=some (.int .u16 C.wordV)) fun bb T=>?_
 have b:=ub T a8
 refine aZ ⟨(aa b rfl),(aa b rfl)⟩ fun a=>Rt 0 a<|Rt 1 a<|Rt 2 a<|Rt 3 a<|Rl 4 a (fun _ hs=>hs.1)<|Rt 5 a<|Rt 6 a<|Rt 7 a<|?_
 have k:=aD a9 T
 have U:=ut d (us S k) (ac im (ac im au))
 refine we 47 (((((x30.wordsR 1).length:Nat) : Int)==1)) (fun m=>?_) (fun m=>?_)
 have ad:=ax m
 refine Rt 8 a<|Rt 9 a<|Rt 10 a<|Rt 11 a<|Rl 12 a (fun _ hs=>hs.2)<|Rt 13 a<|Rt 14 a<|Rt 15 a<|Rl 16 a (fun _ hs=>hs.1)<|?_
 have V:=ak i k (fun x hx=>(ae (fun e=>(aC (am hm) d.size i) (e▸hx)) az)) (fun _ _ h=>h)
 refine i8 (dT.at_ (V).rd 0 (by omega)) fun af ai an ao bc=>R0 17 rfl<|pn ((x30.wordsR 1).length) 0 an (by omega)<|aZ ⟨(aa b rfl),(aa b rfl)⟩ fun bd=>R0 18 rfl<|lf (p:=⟨af,ai+0,none⟩) (v:=.int .u16 ((x30.wordsR 1).getD 0 0)) ao<|aZ ⟨(aa b rfl),(aa b rfl)⟩ fun be=>R0 19 rfl<|Oc<|m1 (yn (dir:=dir) (sub:=C.wordV) (v:=((x30.wordsR 1).getD 0 0)) (by omega)) fun bf D=>?_
 have E:=ub D b
 refine aZ ⟨(aa E rfl),(aa E rfl)⟩ fun ap=>Rt 20 ap<|?_
 refine R0 21 rfl<|Oc<|m2 (aU ((ii dir C.wordV ((x30.wordsR 1).getD 0 0))) 6 (ag.upd R (aD k D) (ae hne az) (aj (aM B (by decide)) aE))) fun bg aq W=>?_
 refine ab aq fun bh ar av=>?_
 have F:=aY W (Ne.symm hne) E
 refine aZ ⟨(aa F rfl),(aa F rfl)⟩ fun bi=>re<|tn<|rt<|tr<|rr (.tuple #[])<|?_
 subst ar z
 have X:=uz D W
 have hs:dx dir c C=(((((C.wordsC 1).need ((fT C.wordV)&&((dir==0)||(C.wordV != 4))) 8).wordsC 1).need (ii dir C.wordV ((((C.wordsC 1).need ((fT C.wordV)&&((dir==0)||(C.wordV != 4))) 8).wordsR 1).getD 0 0)) 6),(aT.mk c 0 0 0 0 0 0 0 C.wordV 0 0 0 (((C.wordsC 1).need ((fT C.wordV)&&((dir==0)||(C.wordV != 4))) 8).wordsR 1) [] [] [] 0 0 0 0 0 [])):=by
   unfold dx fV mf
   (try simp only[f,m,bs,if_true,if_false,decide_true,decide_false,reduceIte])
   all_goals rfl
 rw[hs]
 exact⟨rfl,av,⟨_,⟨F,rfl⟩,⟨_,_,_,_,_,rfl,((ak V X (fun x hx=>(ae (fun e=>(aC (ag.lt hC) d.size i) (e▸hx)) az)) (fun _ _ h=>h))).rd,aR.nil ..,aR.nil ..,aR.nil ..,aR.nil ..,⟨(b8 (x:=c) (by omega)),(b8 (x:=0) (by omega)),(aJ (x:=0) (by omega)),(aJ (x:=0) (by omega)),(aJ (x:=0) (by omega)),(aJ (x:=0) (by omega)),(aJ (x:=0) (by omega)),(aJ (x:=0) (by omega)),(aJ (x:=C.wordV) (by omega)),(aJ (x:=0) (by omega)),(aJ (x:=0) (by omega)),(aJ (x:=0) (by omega)),(b8 (x:=0) (by omega)),(b8 (x:=0) (by omega)),(b8 (x:=0) (by omega)),(b8 (x:=0) (by omega)),(b8 (x:=0) (by omega))⟩⟩⟩,(ay.mono (S':=[g,gm]) (u1 U X im) (zk (Or.inl (by simp)) (Or.inl (by simp))))⟩
 have ad:=aA m
 refine Ro 8 a<|Ro 9 a<|Ro 10 a<|Ro 11 a<|Ro 12 a<|Ro 13 a<|Ro 14 a<|Ro 15 a<|Ro 16 a<|Ro 17 a<|Ro 18 a<|Ro 19 a<|Rt 20 a<|?_
 refine R0 21 rfl<|Oc<|m2 (aU (false) 6 (ag.upd R k (ae hne az) (aj (aM B (by decide)) aE))) fun bj aw G=>?_
 have H:=aY G (Ne.symm hne) b
 refine aZ ⟨(aa H rfl),(aa H rfl)⟩ fun bk=>re<|tn<|rt<|tr<|rr (.tuple #[])<|?_
 subst z
 have hs:dx dir c C=(((((C.wordsC 1).need ((fT C.wordV)&&((dir==0)||(C.wordV != 4))) 8).wordsC 1).need false 6),(aT.mk c 0 0 0 0 0 0 0 C.wordV 0 0 0 (((C.wordsC 1).need ((fT C.wordV)&&((dir==0)||(C.wordV != 4))) 8).wordsR 1) [] [] [] 0 0 0 0 0 [])):=by
   unfold dx fV mf
   (try simp only[f,m,bs,if_true,if_false,decide_true,decide_false,reduceIte])
   all_goals rfl
 rw[hs]
 exact⟨rfl,aw,⟨_,⟨H,rfl⟩,⟨_,_,_,_,_,rfl,((ak i (us k G) (fun x hx=>(ae (fun e=>(aC (am hm) d.size i) (e▸hx)) (ae (fun e=>(aC (ag.lt hC) d.size i) (e▸hx)) az))) (fun _ _ h=>h))).rd,aR.nil ..,aR.nil ..,aR.nil ..,aR.nil ..,⟨(b8 (x:=c) (by omega)),(b8 (x:=0) (by omega)),(aJ (x:=0) (by omega)),(aJ (x:=0) (by omega)),(aJ (x:=0) (by omega)),(aJ (x:=0) (by omega)),(aJ (x:=0) (by omega)),(aJ (x:=0) (by omega)),(aJ (x:=C.wordV) (by omega)),(aJ (x:=0) (by omega)),(aJ (x:=0) (by omega)),(aJ (x:=0) (by omega)),(b8 (x:=0) (by omega)),(b8 (x:=0) (by omega)),(b8 (x:=0) (by omega)),(b8 (x:=0) (by omega)),(b8 (x:=0) (by omega))⟩⟩⟩,(ay.mono (S':=[g,gm]) (u1 U G im) (zk (Or.inl (by simp)) (Or.inl (by simp))))⟩
 have a7:=ah f
 refine bK<|sg<|Pl 1<|L0<|Oc<|mq (dH s)<|?_
 have bm:=ag.len s
 refine Pl 1<|ng<|Pl 2<|L0<|Oe (.int .i64 (Int.tmod ((x30.l.length:Nat) : Int) 2)) (.int .i64 (((x30.l.length:Nat) : Int)%2)) (congrArg (Value.int .i64) (Int.tmod_eq_emod_of_nonneg (by omega)))<|Pl 2<|cu 3 [68] 71 ((((((x30.l.length:Nat) : Int)%2)==0)&&(decide (2≤((x30.l.length:Nat) : Int))))) (fun K Y=>?_) ?_
 refine bl 68 (((((x30.l.length:Nat) : Int)%2)==0)) (fun o=>?_) (fun o=>?_)
 have aF:=ax o
 exact Pl 3<|ce Y (decide (2≤((x30.l.length:Nat) : Int))) (by rw[o];rfl)
 have aF:=aA o
 exact Pl 3<|ce Y false (by rw[o];rfl)
 refine Pl 1<|cu 3 [72] 75 (((((((x30.l.length:Nat) : Int)%2)==0)&&(decide (2≤((x30.l.length:Nat) : Int))))&&(decide (((x30.l.length:Nat) : Int)≤250)))) (fun K Z=>?_) ?_
 refine bl 72 ((((((x30.l.length:Nat) : Int)%2)==0)&&(decide (2≤((x30.l.length:Nat) : Int))))) (fun q=>?_) (fun q=>?_)
 have aG:=(bM q).1
 have aH:=(bM q).2
 have bn:=ax aG
 have bo:=of_decide_eq_true aH
 exact Pl 3<|ce Z (decide (((x30.l.length:Nat) : Int)≤250)) (by rw[q];rfl)
 exact Pl 3<|ce Z false (by rw[q];rfl)
 refine L0<|Oc<|m2 (aU (((((((x30.l.length:Nat) : Int)%2)==0)&&(decide (2≤((x30.l.length:Nat) : Int))))&&(decide (((x30.l.length:Nat) : Int)≤250)))) 5 s) fun bp aI a0=>?_
 refine ab aI fun aK aL aN=>?_
 refine nt<|go<|Pl 3<|L0<|Oe (.int .i64 (IntKind.i64.wrap (Int.tdiv ((x30.l.length:Nat) : Int) 2))) (.int .i64 (((x30.l.length:Nat) : Int)/2)) (congrArg (Value.int .i64) (s9 (by omega) (by omega)))<|L0<|Oc<|si (dQ (n:=(((x30.l.length:Nat) : Int)/2)) aN) fun aO aQ bq a1 br bt aS aV=>?_
 refine ab aS fun bu aW aX=>?_
 refine Pl 2<|?_
 have a2:=u1 a0 aV im
 have a3:=aY a2 (Ne.symm hne) A
 refine L0<|co a3 12 (mG c 0 0 0 0 0 0 0 C.wordV 0 0 0 (.slice aO ((aK.wordsR (((x30.l.length:Nat) : Int)/2)).length) aQ) nS nS nS 0 0 0 0 0 nS) fun bv b0 I=>nl<|rm (.tuple #[])<|?_
 subst aW aL z
 have hs:dx dir c C=(((((C.wordsC 1).need ((fT C.wordV)&&((dir==0)||(C.wordV != 4))) 8).need ((((((((C.wordsC 1).need ((fT C.wordV)&&((dir==0)||(C.wordV != 4))) 8).l.length:Nat) : Int)%2)==0)&&(decide (2≤((((C.wordsC 1).need ((fT C.wordV)&&((dir==0)||(C.wordV != 4))) 8).l.length:Nat) : Int))))&&(decide (((((C.wordsC 1).need ((fT C.wordV)&&((dir==0)||(C.wordV != 4))) 8).l.length:Nat) : Int)≤250))) 5).wordsC (((((C.wordsC 1).need ((fT C.wordV)&&((dir==0)||(C.wordV != 4))) 8).l.length:Nat) : Int)/2)),(aT.mk c 0 0 0 0 0 0 0 C.wordV 0 0 0 ((((C.wordsC 1).need ((fT C.wordV)&&((dir==0)||(C.wordV != 4))) 8).need ((((((((C.wordsC 1).need ((fT C.wordV)&&((dir==0)||(C.wordV != 4))) 8).l.length:Nat) : Int)%2)==0)&&(decide (2≤((((C.wordsC 1).need ((fT C.wordV)&&((dir==0)||(C.wordV != 4))) 8).l.length:Nat) : Int))))&&(decide (((((C.wordsC 1).need ((fT C.wordV)&&((dir==0)||(C.wordV != 4))) 8).l.length:Nat) : Int)≤250))) 5).wordsR (((((C.wordsC 1).need ((fT C.wordV)&&((dir==0)||(C.wordV != 4))) 8).l.length:Nat) : Int)/2)) [] [] [] 0 0 0 0 0 [])):=by
   unfold dx fV mf
   (try simp only[f,bs,if_true,if_false,decide_true,decide_false,reduceIte])
   all_goals rfl
 rw[hs]
 exact⟨rfl,(ag.upd aX I (ae hne az) (aj (aM a3 (by decide)) aE)),⟨_,⟨b0,rfl⟩,⟨_,_,_,_,_,rfl,((ak a1 I (fun x hx=>(ae (fun e=>(aC (am hm) (le (le (le (le t.size L.size) r.size) y.size) a0.size) a1) (e▸hx)) az)) (fun _ _ h=>h))).rd,aR.nil ..,aR.nil ..,aR.nil ..,aR.nil ..,⟨(b8 (x:=c) (by omega)),(b8 (x:=0) (by omega)),(aJ (x:=0) (by omega)),(aJ (x:=0) (by omega)),(aJ (x:=0) (by omega)),(aJ (x:=0) (by omega)),(aJ (x:=0) (by omega)),(aJ (x:=0) (by omega)),(aJ (x:=C.wordV) (by omega)),(aJ (x:=0) (by omega)),(aJ (x:=0) (by omega)),(aJ (x:=0) (by omega)),(b8 (x:=0) (by omega)),(b8 (x:=0) (by omega)),(b8 (x:=0) (by omega)),(b8 (x:=0) (by omega)),(b8 (x:=0) (by omega))⟩⟩⟩,(ay.mono (S':=[g,gm]) (ut d (us a2 I) (ac im (ac im au))) (zk (Or.inl (by simp)) (Or.inl (by simp))))⟩
theorem fX{g gm:Nat}{c:Int}{C:al}{w:World}(hcode:B8 c)(hC:ag w g C)(hm:w.heap[gm]? = some (.cells #[.int .u8 c,.int .u8 0,.int .u16 0,.int .u16 0,.int .u16 0,.int .u16 0,.int .u16 0,.int .u16 0,.int .u16 0,.int .u16 0,.int .u16 0,.int .u16 0,.slice none 0 0,.slice none 0 0,.slice none 0 0,.slice none 0 0,.int .u8 0,.int .u8 0,.int .u8 0,.int .u8 0,.int .u8 0,.slice none 0 0] 31 (0,0)))(hne:g≠gm) :
    Calls Tryz.prog 89 #[.pointer (some ⟨g,0,none⟩),.pointer (some ⟨gm,0,none⟩)] w (bU g gm (bD c C).1 (bD c C).2 w):=by
 obtain⟨hcode1,hcode2⟩:=hcode
 have hlen:=hC.len
 refine en 84 Tryz.func89 rfl<|sg<|Pl 3<|L0<|aP hm 0<|nt<|bk<|sg<|Pl 2<|nt<|cb ((c==7)) (fun a=>?_) (fun a=>?_)
 have N:=ax a
 refine go<|Pl 2<|L0<|Oc<|m3 (bJ hC) fun aN O m aO=>L0<|Cn C.byteV<|Pl 2<|?_
 have o:=aY m (Ne.symm hne) hm
 refine L0<|co o 4 (mG c 0 0 0 C.byteV 0 0 0 0 0 0 0 nS nS nS nS 0 0 0 0 0 nS) fun aQ P p=>nl<|bn<|rm (.tuple #[])<|?_
 have hs:bD c C=((C.bytesC 1),(aT.mk c 0 0 0 C.byteV 0 0 0 0 0 0 0 [] [] [] [] 0 0 0 0 0 [])):=by
   unfold bD gl fk
   (try simp only[a,bs,if_true,if_false,decide_true,decide_false,reduceIte])
   all_goals rfl
 rw[hs]
 exact⟨rfl,(ag.upd O p (ae hne az) (aj (aM o (by decide)) aE)),⟨_,⟨P,rfl⟩,⟨_,_,_,_,_,rfl,aR.nil ..,aR.nil ..,aR.nil ..,aR.nil ..,aR.nil ..,⟨(b8 (x:=c) (by omega)),(b8 (x:=0) (by omega)),(aJ (x:=0) (by omega)),(aJ (x:=0) (by omega)),(aJ (x:=C.byteV) (by omega)),(aJ (x:=0) (by omega)),(aJ (x:=0) (by omega)),(aJ (x:=0) (by omega)),(aJ (x:=0) (by omega)),(aJ (x:=0) (by omega)),(aJ (x:=0) (by omega)),(aJ (x:=0) (by omega)),(b8 (x:=0) (by omega)),(b8 (x:=0) (by omega)),(b8 (x:=0) (by omega)),(b8 (x:=0) (by omega)),(b8 (x:=0) (by omega))⟩⟩⟩,(us m p)⟩
 have N:=aA a
 refine sg<|Pl 2<|nt<|cb ((c==11)) (fun b=>?_) (fun b=>?_)
 have Q:=ax b
 refine sg<|Pl 2<|L0<|Oc<|m3 (oc hC) fun aV R q aW=>Pl 2<|?_
 have r:=aY q (Ne.symm hne) hm
 refine L0<|co r 9 (mG c 0 0 0 0 0 0 0 0 C.wordV 0 0 nS nS nS nS 0 0 0 0 0 nS) fun aX S s=>nt<|go<|Pl 2<|?_
 refine L0<|Oc<|m3 (bI (ag.upd R s (ae hne az) (aj (aM r (by decide)) aE))) fun aZ T t b0=>Pl 2<|?_
 have u:=aY t (Ne.symm hne) S
 refine L0<|co u 10 (mG c 0 0 0 0 0 0 0 0 C.wordV ((d8 C).wordV) 0 nS nS nS nS 0 0 0 0 0 nS) fun b1 U v=>nl<|bn<|rm (.tuple #[])<|?_
 have hs:bD c C=(((d8 C).wordsC 1),(aT.mk c 0 0 0 0 0 0 0 0 C.wordV ((d8 C).wordV) 0 [] [] [] [] 0 0 0 0 0 [])):=by
   unfold bD gl fk
   (try simp only[a,b,bs,if_true,if_false,decide_true,decide_false,reduceIte])
   all_goals rfl
 rw[hs]
 exact⟨rfl,(ag.upd T v (ae hne az) (aj (aM u (by decide)) aE)),⟨_,⟨U,rfl⟩,⟨_,_,_,_,_,rfl,aR.nil ..,aR.nil ..,aR.nil ..,aR.nil ..,aR.nil ..,⟨(b8 (x:=c) (by omega)),(b8 (x:=0) (by omega)),(aJ (x:=0) (by omega)),(aJ (x:=0) (by omega)),(aJ (x:=0) (by omega)),(aJ (x:=0) (by omega)),(aJ (x:=0) (by omega)),(aJ (x:=0) (by omega)),(aJ (x:=0) (by omega)),(aJ (x:=C.wordV) (by omega)),(aJ (x:=(d8 C).wordV) (by omega)),(aJ (x:=0) (by omega)),(b8 (x:=0) (by omega)),(b8 (x:=0) (by omega)),(b8 (x:=0) (by omega)),(b8 (x:=0) (by omega)),(b8 (x:=0) (by omega))⟩⟩⟩,(ui q (ui s (us t v)))⟩
 have Q:=aA b
 refine sg<|Pl 2<|nt<|cb ((c==12)) (fun d=>?_) (fun d=>?_)
 have V:=ax d
 refine sg<|Pl 1<|L0<|Oc<|m3 (bJ hC) fun b2 W X b3=>L0<|Oi C.byteV<|Pl 1<|ng<|Pl 4<|cu 3 [38] 41 (((decide (6≤C.byteV))&&(decide (C.byteV≤70)))) (fun K y=>?_) ?_
 refine bl 38 ((decide (6≤C.byteV))) (fun e=>?_) (fun e=>?_)
 have Y:=of_decide_eq_true e
 exact Pl 3<|ce y (decide (C.byteV≤70)) (by rw[e];rfl)
 have Y:=of_decide_eq_false e
 exact Pl 3<|ce y false (by rw[e];rfl)
 refine L0<|Oc<|m2 (aU (((decide (6≤C.byteV))&&(decide (C.byteV≤70)))) 5 W) fun b4 Z a0=>?_
 refine ab Z fun x53 a1 a2=>?_
 refine ng<|Pl 2<|L0<|Oc<|m3 (oc a2) fun b5 a3 a4 b6=>Pl 2<|?_
 have z:=u1 X (u1 a0 a4 im) im
 have A:=aY z (Ne.symm hne) hm
 refine L0<|co A 9 (mG c 0 0 0 0 0 0 0 0 x53.wordV 0 0 nS nS nS nS 0 0 0 0 0 nS) fun b7 a5 B=>ng<|Pl 3<|?_
 refine L0<|Oc<|m3 (bI (ag.upd a3 B (ae hne az) (aj (aM A (by decide)) aE))) fun b9 a6 a7 ba=>Pl 1<|L0<|Oc<|m3 (bI a6) fun bb a8 a9 bc=>?_
 refine ab a8 fun se aa ac=>?_
 refine Pl 2<|?_
 have D:=u1 a7 a9 im
 have E:=aY D (Ne.symm hne) a5
 refine L0<|co E 10 (mG c 0 0 0 0 0 0 0 0 x53.wordV ((d8 x53).wordV) 0 nS nS nS nS 0 0 0 0 0 nS) fun bd ad af=>Pl 2<|L0<|co ad 11 (mG c 0 0 0 0 0 0 0 0 x53.wordV ((d8 x53).wordV) (((d8 x53).wordsC 1).wordV) nS nS nS nS 0 0 0 0 0 nS) fun be ah ai=>nt<|go<|Pl 3<|L0<|Oi (C.byteV-6)<|?_
 have F:=u1 af ai im
 have G:=ag.upd ac F (ae hne az) (aj (aM E (by decide)) aE)
 refine L0<|Oc<|uo (bT (n:=(C.byteV-6)) G) fun ak am bf an bg bh ao H=>?_
 have bi:=Nat.le_trans (al.bytesR_le se (C.byteV-6)) (ag.len G)
 refine Pl 2<|?_
 have i:=aY H (Ne.symm hne) ah
 refine L0<|co i 14 (mG c 0 0 0 0 0 0 0 0 x53.wordV ((d8 x53).wordV) (((d8 x53).wordsC 1).wordV) nS nS (.slice ak ((se.bytesR (C.byteV-6)).length) am) nS 0 0 0 0 0 nS) fun bj ap j=>nl<|bn<|rm (.tuple #[])<|?_
 subst aa a1
 have hs:bD c C=(((((d8 ((C.bytesC 1).need ((decide (6≤C.byteV))&&(decide (C.byteV≤70))) 5)).wordsC 1).wordsC 1).bytesC (C.byteV-6)),(aT.mk c 0 0 0 0 0 0 0 0 (((C.bytesC 1).need ((decide (6≤C.byteV))&&(decide (C.byteV≤70))) 5).wordV) ((d8 ((C.bytesC 1).need ((decide (6≤C.byteV))&&(decide (C.byteV≤70))) 5)).wordV) (((d8 ((C.bytesC 1).need ((decide (6≤C.byteV))&&(decide (C.byteV≤70))) 5)).wordsC 1).wordV) [] [] ((((d8 ((C.bytesC 1).need ((decide (6≤C.byteV))&&(decide (C.byteV≤70))) 5)).wordsC 1).wordsC 1).bytesR (C.byteV-6)) [] 0 0 0 0 0 [])):=by
   unfold bD gl fk
   (try simp only[a,b,d,bs,if_true,if_false,decide_true,decide_false,reduceIte])
   all_goals rfl
 rw[hs]
 exact⟨rfl,(ag.upd ao j (ae hne az) (aj (aM i (by decide)) aE)),⟨_,⟨ap,rfl⟩,⟨_,_,_,_,_,rfl,aR.nil ..,aR.nil ..,(aS.upd' an j (aj (aM i (by decide)) aE)),aR.nil ..,aR.nil ..,⟨(b8 (x:=c) (by omega)),(b8 (x:=0) (by omega)),(aJ (x:=0) (by omega)),(aJ (x:=0) (by omega)),(aJ (x:=0) (by omega)),(aJ (x:=0) (by omega)),(aJ (x:=0) (by omega)),(aJ (x:=0) (by omega)),(aJ (x:=0) (by omega)),(aJ (x:=((C.bytesC 1).need ((decide (6≤C.byteV))&&(decide (C.byteV≤70))) 5).wordV) (by omega)),(aJ (x:=(d8 ((C.bytesC 1).need ((decide (6≤C.byteV))&&(decide (C.byteV≤70))) 5)).wordV) (by omega)),(aJ (x:=((d8 ((C.bytesC 1).need ((decide (6≤C.byteV))&&(decide (C.byteV≤70))) 5)).wordsC 1).wordV) (by omega)),(b8 (x:=0) (by omega)),(b8 (x:=0) (by omega)),(b8 (x:=0) (by omega)),(b8 (x:=0) (by omega)),(b8 (x:=0) (by omega))⟩⟩⟩,(ui z (ui B (ui D (ui F (us H j)))))⟩
 have V:=aA d
 refine sg<|Pl 2<|nt<|cb ((c==17)) (fun f=>?_) (fun f=>?_)
 have aq:=ax f
 refine sg<|Pl 1<|L0<|Oc<|m3 (bJ hC) fun bm ar av bo=>L0<|Oi C.byteV<|Pl 1<|ng<|Pl 4<|cu 3 [73] 76 (((decide (1≤C.byteV))&&(decide (C.byteV≤251)))) (fun K I=>?_) ?_
 refine bl 73 ((decide (1≤C.byteV))) (fun h=>?_) (fun h=>?_)
 have aw:=of_decide_eq_true h
 exact Pl 3<|ce I (decide (C.byteV≤251)) (by rw[h];rfl)
 have aw:=of_decide_eq_false h
 exact Pl 3<|ce I false (by rw[h];rfl)
 refine L0<|Oc<|m2 (aU (((decide (1≤C.byteV))&&(decide (C.byteV≤251)))) 5 ar) fun bp aB aC=>?_
 refine ab aB fun J aD L=>?_
 refine nt<|go<|Pl 3<|L0<|Oc<|uo (bT (n:=C.byteV) L) fun aF aG bq aH br bt aI aK=>?_
 have bu:=Nat.le_trans (al.bytesR_le J C.byteV) (ag.len L)
 refine Pl 2<|?_
 have M:=u1 av (u1 aC aK im) im
 have k:=aY M (Ne.symm hne) hm
 refine L0<|co k 14 (mG c 0 0 0 0 0 0 0 0 0 0 0 nS nS (.slice aF ((J.bytesR C.byteV).length) aG) nS 0 0 0 0 0 nS) fun bv aL l=>nl<|bn<|rm (.tuple #[])<|?_
 subst aD
 have hs:bD c C=((((C.bytesC 1).need ((decide (1≤C.byteV))&&(decide (C.byteV≤251))) 5).bytesC C.byteV),(aT.mk c 0 0 0 0 0 0 0 0 0 0 0 [] [] (((C.bytesC 1).need ((decide (1≤C.byteV))&&(decide (C.byteV≤251))) 5).bytesR C.byteV) [] 0 0 0 0 0 [])):=by
   unfold bD gl fk
   (try simp only[a,b,d,f,bs,if_true,if_false,decide_true,decide_false,reduceIte])
   all_goals rfl
 rw[hs]
 exact⟨rfl,(ag.upd aI l (ae hne az) (aj (aM k (by decide)) aE)),⟨_,⟨aL,rfl⟩,⟨_,_,_,_,_,rfl,aR.nil ..,aR.nil ..,(aS.upd' aH l (aj (aM k (by decide)) aE)),aR.nil ..,aR.nil ..,⟨(b8 (x:=c) (by omega)),(b8 (x:=0) (by omega)),(aJ (x:=0) (by omega)),(aJ (x:=0) (by omega)),(aJ (x:=0) (by omega)),(aJ (x:=0) (by omega)),(aJ (x:=0) (by omega)),(aJ (x:=0) (by omega)),(aJ (x:=0) (by omega)),(aJ (x:=0) (by omega)),(aJ (x:=0) (by omega)),(aJ (x:=0) (by omega)),(b8 (x:=0) (by omega)),(b8 (x:=0) (by omega)),(b8 (x:=0) (by omega)),(b8 (x:=0) (by omega)),(b8 (x:=0) (by omega))⟩⟩⟩,(us M l)⟩
 have aq:=aA f
 refine sk<|bn<|rm (.tuple #[])<|?_
 have hs:bD c C=(C,(aT.mk c 0 0 0 0 0 0 0 0 0 0 0 [] [] [] [] 0 0 0 0 0 [])):=by
   unfold bD gl fk
   (try simp only[a,b,d,f,bs,if_true,if_false,decide_true,decide_false,reduceIte])
   all_goals rfl
 rw[hs]
 exact⟨rfl,hC,⟨_,⟨hm,rfl⟩,⟨_,_,_,_,_,rfl,aR.nil ..,aR.nil ..,aR.nil ..,aR.nil ..,aR.nil ..,⟨(b8 (x:=c) (by omega)),(b8 (x:=0) (by omega)),(aJ (x:=0) (by omega)),(aJ (x:=0) (by omega)),(aJ (x:=0) (by omega)),(aJ (x:=0) (by omega)),(aJ (x:=0) (by omega)),(aJ (x:=0) (by omega)),(aJ (x:=0) (by omega)),(aJ (x:=0) (by omega)),(aJ (x:=0) (by omega)),(aJ (x:=0) (by omega)),(b8 (x:=0) (by omega)),(b8 (x:=0) (by omega)),(b8 (x:=0) (by omega)),(b8 (x:=0) (by omega)),(b8 (x:=0) (by omega))⟩⟩⟩,(ay.mono (S':=[g,gm]) (ay.refl [] _) au)⟩
end Go.Proofs.YtpglhicfhppaiaaGreat
