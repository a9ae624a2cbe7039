/- Contracts of functions, part CAduParses2. -/
import Derived.Test.YtogbnemojakcpaaGreatCAduParses1
import Derived.Laws.BytesArg
import Derived.Stop.BytesEq
import Derived.Laws.BitsAllLaws
set_option linter.unusedVariables false
set_option linter.unusedSimpArgs false
set_option maxRecDepth 100000
set_option maxHeartbeats 4000000
namespace Go.Proofs.YtogbnemojakcpaaGreat
open Go.RowKit
def bT (dir:Int)(M:aQ) : List Int :=
  if M.code==5 then b9 [M.addr,M.value]
  else if M.code==15&&dir==0 then ((b9 [M.addr,M.count]++[((cM M.bits).length:Int)%256])++cM M.bits)
  else if dir==1&&M.code != 15 then [(M.data.length:Int)%256]++M.data
  else b9 [M.addr,M.count]
theorem nD{m:Md}{cs:Array Value}{M:aQ}{w:World}{dir:Int}(h:aL m w cs.toList M)(hf:cO M)(hd0:(dir==0)=true) : Calls Tryz.prog 203 #[.int .i64 dir,.agg cs] w (ip (bT dir M) w):=by
 obtain⟨vw,vb,vd,vr,vo,h0,hw,hbt,hd,hr,ho,hR⟩:=h
 obtain rfl:cs=(bM M vw vb vd vr vo).toArray:=by apply Array.toList_inj.1;simpa using h0
 clear h0
 obtain⟨Aw,kw,rfl,_,_⟩:=hw.shape
 obtain⟨Ab,kb,rfl,_,_⟩:=hbt.shape
 obtain⟨Ad,kd,rfl,_,_⟩:=hd.shape
 obtain⟨Ar,kr,rfl,_,_⟩:=hr.shape
 obtain⟨Ao,ko,rfl,_,_⟩:=ho.shape
 obtain⟨q0,q1,q2,q3,q4,q5,q6,q7,q8,q9,H,I,J,L,N,O,P⟩:=hR
 simp only[B8,dx] at q0 q1 q2 q3 q4 q5 q6 q7 q8 q9 H I J L N O P
 have hf1:=hf.words
 have hf2:=hf.bits
 have hf3:=hf.data
 have hf4:=hf.recs
 have hf5:=hf.objects
 refine en 62 Tryz.func203 rfl<|sg<|L0<|dq (mG M.code M.fail M.addr M.count M.value M.and_ M.or_ M.addr2 M.sub M.status M.events M.messages (.slice Aw M.words.length kw) (.slice Ab M.bits.length kb) (.slice Ad M.data.length kd) (.slice Ar M.recs.length kr) M.mei M.kind M.level M.more M.next (.slice Ao M.objects.length ko)) fun aB aE aG a b=>Pl 1<|nt<|sq<|bk<|sg<|Pl 1<|L0<|aU a 0<|Pl 2<|nl<|?_
 refine tn<|cb ((M.code==5)) (fun c=>?_) (fun c=>?_)
 have Q:=al c
 refine sg<|Pl 1<|L0<|aU a 2<|Pl 1<|L0<|aU a 4<|L0<|dD (m:=2) (e:=24) #[.int .u16 M.addr,.int .u16 M.value] fun aH aI R S q=>?_
 have T:=ek R (xs:=[M.addr,M.value]) (by as_aux_lemma=>kernel_rfl) (az (by omega) (az (by omega) aZ)) (by(try simp only[List.length_cons,List.length_nil]);omega) S
 refine L0<|Oc<|ej (bC (xs:=[M.addr,M.value]) (T).rd (by(try simp only[List.length_cons,List.length_nil]);omega)) fun U V aJ W aK aM X=>Pl 1<|nt<|rt<|br<|tr<|rr (.slice U ((b9 ([M.addr,M.value])).length) V)<|?_
 have hs:bT dir M=(b9 ([M.addr,M.value])):=by
   unfold bT
   (try simp only[hd0,c,bs,if_true,if_false,decide_true,decide_false,reduceIte])
   all_goals rfl
 rw[hs]
 exact⟨_,rfl,(be.weaken W (le b.size q.size)),(aF b (aF q X))⟩
 have Q:=ap c
 refine sg<|Pl 1<|L0<|aU a 0<|Pl 2<|cu 3 [20] 23 (((M.code==15)&&(dir==0))) (fun K r=>?_) ?_
 refine bl 20 ((M.code==15)) (fun g=>?_) (fun g=>?_)
 have Y:=al g
 exact Pl 3<|ce r (dir==0) (by rw[g];rfl)
 have Y:=ap g
 exact Pl 3<|ce r false (by rw[g];rfl)
 refine Pl 1<|nt<|cb (((M.code==15)&&(dir==0))) (fun d=>?_) (fun d=>?_)
 have f:=(aR d).1
 have s:=(aR d).2
 have Z:=al f
 have aN:=al s
 refine sg<|Pl 1<|L0<|aU a 13<|?_
 refine L0<|Oc<|ej (uG (l:=M.bits) (gI.old hbt b) (by omega)) fun aO aP aS a0 aW aX k=>?_
 have aY:=t9 M.bits
 refine Pl 1<|ng<|Pl 1<|?_
 have t:=ub k a
 refine L0<|aU t 2<|Pl 1<|L0<|aU t 3<|L0<|dD (m:=2) (e:=24) #[.int .u16 M.addr,.int .u16 M.count] fun b0 b1 a1 a2 n=>?_
 have a3:=ek a1 (xs:=[M.addr,M.count]) (by as_aux_lemma=>kernel_rfl) (az (by omega) (az (by omega) aZ)) (by(try simp only[List.length_cons,List.length_nil]);omega) a2
 refine L0<|Oc<|ej (bC (xs:=[M.addr,M.count]) (a3).rd (by(try simp only[List.length_cons,List.length_nil]);omega)) fun a4 b2 b3 u b4 b5 v=>Pl 3<|L0<|dD (m:=1) (e:=5) #[.int .u8 ((((cM M.bits).length:Nat) : Int)%256)] fun b6 b7 a5 a6 o=>?_
 have a7:=dR a5 (xs:=[((((cM M.bits).length:Nat) : Int)%256)]) (by as_aux_lemma=>kernel_rfl) (az (by omega) aZ) (by(try simp only[List.length_cons,List.length_nil]);omega) a6
 refine L0<|cR bt (xs:=(b9 ([M.addr,M.count]))) (ys:=([((((cM M.bits).length:Nat) : Int)%256)])) (.int .u8 0) 1 (ax u o (fun x hx=>ay) (fun _ _ h=>h)) (a7).rd (by(try simp only[List.length_append,List.length_cons,List.length_nil,aC]);omega) (le v.size o.size) fun b8 ba bb y a8=>Pl 1<|?_
 have z:=ut v (ut (aD.mono (S':=(ob a4++[])) o au) a8 (av il au)) (av (aV u lr) au)
 have A:=aF n z
 refine L0<|cR bt (xs:=((b9 ([M.addr,M.count]))++[((((cM M.bits).length:Nat) : Int)%256)])) (ys:=(cM M.bits)) (.int .u8 0) 1 y ((ax a0 A (fun x hx=>ay) (fun _ _ h=>h))).rd (by(try simp only[List.length_append,List.length_cons,List.length_nil,aC]);omega) z.size fun a9 aa bc ab ac=>Pl 1<|nt<|rt<|br<|tr<|rr (.slice a9 ((((b9 ([M.addr,M.count]))++[((((cM M.bits).length:Nat) : Int)%256)])++(cM M.bits)).length) aa)<|?_
 have hs:bT dir M=(((b9 ([M.addr,M.count]))++[((((cM M.bits).length:Nat) : Int)%256)])++(cM M.bits)):=by
   unfold bT
   (try simp only[s,c,d,f,bs,if_true,if_false,decide_true,decide_false,reduceIte])
   all_goals rfl
 rw[hs]
 exact⟨_,rfl,(be.weaken ab (le (le b.size k.size) n.size)),(aF b (aF k (ut A ac (av (aV y n.size) au))))⟩
 have f:(M.code==15)=false:=by simpa only[hd0,bs] using d
 have Z:=ap f
 refine sg<|Pl 3<|cu 4 [43] 47 (((dir==1)&&(M.code != 15))) (fun K B=>?_) ?_
 refine bl 43 ((dir==1)) (fun i=>?_) (fun i=>?_)
 have ad:=al i
 exact Pl 1<|L1<|aU a 0<|Pl 2<|ce B (M.code != 15) (by rw[i];rfl)
 have ad:=ap i
 exact Pl 4<|ce B false (by rw[i];rfl)
 refine Pl 1<|nt<|cb (((dir==1)&&(M.code != 15))) (fun j=>?_) (fun j=>?_)
 have C:=(aR j).1
 have D:=(aR j).2
 have bd:=al C
 have bf:=aq D
 refine sg<|Pl 1<|L0<|aU a 14<|Pl 2<|L0<|dD (m:=1) (e:=5) #[.int .u8 (((M.data.length:Nat) : Int)%256)] fun bg bh ae af p=>?_
 have E:=dR ae (xs:=[(((M.data.length:Nat) : Int)%256)]) (by as_aux_lemma=>kernel_rfl) (az (by omega) aZ) (by(try simp only[List.length_cons,List.length_nil]);omega) af
 refine Pl 1<|?_
 refine L0<|aU (ub p a) 14<|?_
 have F:=aF b p
 refine L0<|cR bt (xs:=([(((M.data.length:Nat) : Int)%256)])) (ys:=M.data) (.int .u8 0) 1 E (aT.old hd F) (by(try simp only[List.length_append,List.length_cons,List.length_nil,aC]);omega) p.size fun ag ah bi ai aj=>Pl 1<|nt<|rt<|br<|tr<|rr (.slice ag (([(((M.data.length:Nat) : Int)%256)]++M.data).length) ah)<|?_
 have hs:bT dir M=([(((M.data.length:Nat) : Int)%256)]++M.data):=by
   unfold bT
   (try simp only[hd0,c,d,f,j,C,D,bs,if_true,if_false,decide_true,decide_false,reduceIte])
   all_goals rfl
 rw[hs]
 exact⟨_,rfl,(be.weaken ai b.size),(ut F aj (av (aV E b.size) au))⟩
 refine sk<|bn<|tn<|sg<|Pl 1<|L0<|aU a 2<|Pl 1<|L0<|aU a 3<|L0<|dD (m:=2) (e:=24) #[.int .u16 M.addr,.int .u16 M.count] fun bj bm ak am G=>?_
 have an:=ek ak (xs:=[M.addr,M.count]) (by as_aux_lemma=>kernel_rfl) (az (by omega) (az (by omega) aZ)) (by(try simp only[List.length_cons,List.length_nil]);omega) am
 refine L0<|Oc<|ej (bC (xs:=[M.addr,M.count]) (an).rd (by(try simp only[List.length_cons,List.length_nil]);omega)) fun ao ar bo aw bp bq aA=>Pl 1<|nt<|rt<|rr (.slice ao ((b9 ([M.addr,M.count])).length) ar)<|?_
 have hs:bT dir M=(b9 ([M.addr,M.count])):=by
   unfold bT
   (try simp only[hd0,c,d,f,j,bs,if_true,if_false,decide_true,decide_false,reduceIte])
   all_goals rfl
 rw[hs]
 exact⟨_,rfl,(be.weaken aw (le b.size G.size)),(aF b (aF G aA))⟩
theorem nM{m:Md}{cs:Array Value}{M:aQ}{w:World}{dir:Int}(h:aL m w cs.toList M)(hf:cO M)(hd0:(dir==0)=false) : Calls Tryz.prog 203 #[.int .i64 dir,.agg cs] w (ip (bT dir M) w):=by
 obtain⟨vw,vb,vd,vr,vo,h0,hw,hbt,hd,hr,ho,hR⟩:=h
 obtain rfl:cs=(bM M vw vb vd vr vo).toArray:=by apply Array.toList_inj.1;simpa using h0
 clear h0
 obtain⟨Aw,kw,rfl,_,_⟩:=hw.shape
 obtain⟨Ab,kb,rfl,_,_⟩:=hbt.shape
 obtain⟨Ad,kd,rfl,_,_⟩:=hd.shape
 obtain⟨Ar,kr,rfl,_,_⟩:=hr.shape
 obtain⟨Ao,ko,rfl,_,_⟩:=ho.shape
 obtain⟨q0,q1,q2,q3,q4,q5,q6,q7,q8,q9,t,u,v,x,y,z,A⟩:=hR
 simp only[B8,dx] at q0 q1 q2 q3 q4 q5 q6 q7 q8 q9 t u v x y z A
 have hf1:=hf.words
 have hf2:=hf.bits
 have hf3:=hf.data
 have hf4:=hf.recs
 have hf5:=hf.objects
 refine en 62 Tryz.func203 rfl<|sg<|L0<|dq (mG M.code M.fail M.addr M.count M.value M.and_ M.or_ M.addr2 M.sub M.status M.events M.messages (.slice Aw M.words.length kw) (.slice Ab M.bits.length kb) (.slice Ad M.data.length kd) (.slice Ar M.recs.length kr) M.mei M.kind M.level M.more M.next (.slice Ao M.objects.length ko)) fun a0 a1 a2 a b=>Pl 1<|nt<|sq<|bk<|sg<|Pl 1<|L0<|aU a 0<|Pl 2<|nl<|?_
 refine tn<|cb ((M.code==5)) (fun c=>?_) (fun c=>?_)
 have B:=al c
 refine sg<|Pl 1<|L0<|aU a 2<|Pl 1<|L0<|aU a 4<|L0<|dD (m:=2) (e:=24) #[.int .u16 M.addr,.int .u16 M.value] fun a3 a4 C D k=>?_
 have E:=ek C (xs:=[M.addr,M.value]) (by as_aux_lemma=>kernel_rfl) (az (by omega) (az (by omega) aZ)) (by(try simp only[List.length_cons,List.length_nil]);omega) D
 refine L0<|Oc<|ej (bC (xs:=[M.addr,M.value]) (E).rd (by(try simp only[List.length_cons,List.length_nil]);omega)) fun F G a5 H a6 a7 I=>Pl 1<|nt<|rt<|br<|tr<|rr (.slice F ((b9 ([M.addr,M.value])).length) G)<|?_
 have hs:bT dir M=(b9 ([M.addr,M.value])):=by
   unfold bT
   (try simp only[hd0,c,bs,if_true,if_false,decide_true,decide_false,reduceIte])
   all_goals rfl
 rw[hs]
 exact⟨_,rfl,(be.weaken H (le b.size k.size)),(aF b (aF k I))⟩
 have B:=ap c
 refine sg<|Pl 1<|L0<|aU a 0<|Pl 2<|cu 3 [20] 23 (((M.code==15)&&(dir==0))) (fun K l=>?_) ?_
 refine bl 20 ((M.code==15)) (fun d=>?_) (fun d=>?_)
 have J:=al d
 exact Pl 3<|ce l (dir==0) (by rw[d];rfl)
 have J:=ap d
 exact Pl 3<|ce l false (by rw[d];rfl)
 refine Pl 1<|nt<|?_
 have i:((M.code==15)&&(dir==0))=false:=by simp only[hd0,bs]
 refine cf i<|sg<|Pl 3<|cu 4 [43] 47 (((dir==1)&&(M.code != 15))) (fun K n=>?_) ?_
 refine bl 43 ((dir==1)) (fun f=>?_) (fun f=>?_)
 have L:=al f
 exact Pl 1<|L1<|aU a 0<|Pl 2<|ce n (M.code != 15) (by rw[f];rfl)
 have L:=ap f
 exact Pl 4<|ce n false (by rw[f];rfl)
 refine Pl 1<|nt<|cb (((dir==1)&&(M.code != 15))) (fun g=>?_) (fun g=>?_)
 have o:=(aR g).1
 have p:=(aR g).2
 have a8:=al o
 have a9:=aq p
 refine sg<|Pl 1<|L0<|aU a 14<|Pl 2<|L0<|dD (m:=1) (e:=5) #[.int .u8 (((M.data.length:Nat) : Int)%256)] fun aa ab N O j=>?_
 have q:=dR N (xs:=[(((M.data.length:Nat) : Int)%256)]) (by as_aux_lemma=>kernel_rfl) (az (by omega) aZ) (by(try simp only[List.length_cons,List.length_nil]);omega) O
 refine Pl 1<|?_
 refine L0<|aU (ub j a) 14<|?_
 have r:=aF b j
 refine L0<|cR bt (xs:=([(((M.data.length:Nat) : Int)%256)])) (ys:=M.data) (.int .u8 0) 1 q (aT.old hd r) (by(try simp only[List.length_append,List.length_cons,List.length_nil,aC]);omega) j.size fun P Q ac R S=>Pl 1<|nt<|rt<|br<|tr<|rr (.slice P (([(((M.data.length:Nat) : Int)%256)]++M.data).length) Q)<|?_
 have hs:bT dir M=([(((M.data.length:Nat) : Int)%256)]++M.data):=by
   unfold bT
   (try simp only[hd0,c,i,g,o,p,bs,if_true,if_false,decide_true,decide_false,reduceIte])
   all_goals rfl
 rw[hs]
 exact⟨_,rfl,(be.weaken R b.size),(ut r S (av (aV q b.size) au))⟩
 refine sk<|bn<|tn<|sg<|Pl 1<|L0<|aU a 2<|Pl 1<|L0<|aU a 3<|L0<|dD (m:=2) (e:=24) #[.int .u16 M.addr,.int .u16 M.count] fun ad ae T U s=>?_
 have V:=ek T (xs:=[M.addr,M.count]) (by as_aux_lemma=>kernel_rfl) (az (by omega) (az (by omega) aZ)) (by(try simp only[List.length_cons,List.length_nil]);omega) U
 refine L0<|Oc<|ej (bC (xs:=[M.addr,M.count]) (V).rd (by(try simp only[List.length_cons,List.length_nil]);omega)) fun W X af Y ag ah Z=>Pl 1<|nt<|rt<|rr (.slice W ((b9 ([M.addr,M.count])).length) X)<|?_
 have hs:bT dir M=(b9 ([M.addr,M.count])):=by
   unfold bT
   (try simp only[hd0,c,i,g,bs,if_true,if_false,decide_true,decide_false,reduceIte])
   all_goals rfl
 rw[hs]
 exact⟨_,rfl,(be.weaken Y (le b.size s.size)),(aF b (aF s Z))⟩
theorem rK{m:Md}{cs:Array Value}{M:aQ}{w:World}{dir:Int}(h:aL m w cs.toList M)(hf:cO M) : Calls Tryz.prog 203 #[.int .i64 dir,.agg cs] w (ip (bT dir M) w):=by
  rcases dO (dir==0) with h0|h0
  · exact nD h hf h0
  · exact nM h hf h0
open Go.RowKit
def dA (x:Bool)(w:World)(e:Ending)(w':World) : Prop:=e = .returned (.bool x)∧aD [] w w'
theorem lM{α:Type} [DecidableEq α]{xs ys:List α}{d:α}(h:xs.length=ys.length){k:Nat}(hk:k<xs.length)(hp:xs.take k=ys.take k)(hx:xs.getD k d=ys.getD k d) : xs.take (k+1)=ys.take (k+1):=by
  rw[List.take_add_one,List.take_add_one,hp]
  simp only[List.getD_eq_getElem?_getD,List.getElem?_eq_getElem hk,List.getElem?_eq_getElem (h▸hk),Option.getD_some] at hx
  simp[List.getElem?_eq_getElem hk,List.getElem?_eq_getElem (h▸hk),hx]
theorem rT{α:Type} [DecidableEq α]{xs ys:List α}{d:α}(k:Nat)(hx:xs.getD k d≠ys.getD k d) : xs≠ys:=fun h=>hx (by rw[h])
theorem qv{m m':Md}{u v:Value}{xs ys:List Int}{w:World}(hx:e8 m w u xs)(hy:e8 m' w v ys) : Calls Tryz.prog 220 #[u,v] w (dA (decide (xs=ys)) w):=by
  have hhx:=hx
  have hhy:=hy
  obtain⟨A,c,rfl,hc1,hc2⟩:=hx.shape
  obtain⟨B,c',rfl,iw,iy⟩:=hy.shape
  have hn:xs.length≤9223372036854775807:=by have:=hc2;unfold maxLen at this;omega
  by_cases hl:xs.length=ys.length
  case neg =>
    have hno:∀ W,aD [] w W→dA (decide (xs=ys)) w (.returned (.bool false)) W:=by
      intro W hW
      rw[decide_eq_false (fun h=>hl (by rw[h]))]
      exact⟨rfl,hW⟩
    have hli:((xs.length:Int)!=(ys.length:Int))=true:=by simp;omega
    clear hx hy hhx hhy hl
    go_enter Tryz.func220,Tryz.ntmps220
    go_wp2
    go_ret
    exact hno _ (aD.refl _ _)
  have hno:∀ W k,xs.getD k 0≠ys.getD k 0→aD [] w W→dA (decide (xs=ys)) w (.returned (.bool false)) W:=by
    intro W k hk hW
    rw[decide_eq_false (rT k hk)]
    exact⟨rfl,hW⟩
  have hyes:∀ W,xs.take xs.length=ys.take xs.length→aD [] w W→dA (decide (xs=ys)) w (.returned (.bool true)) W:=by
    intro W hk hW
    rw[List.take_length,hl,List.take_length] at hk
    rw[decide_eq_true hk]
    exact⟨rfl,hW⟩
  revert hno hyes
  generalize dA (decide (xs=ys)) w=P
  intro hno hyes
  have hli:((xs.length:Int)!=(ys.length:Int))=false:=by simp;omega
  have hL:=Lib.hid hl
  clear hx hy hl
  go_enter Tryz.func220,Tryz.ntmps220
  go_wp2
  go_loopw [13] (fun i wr=>∃ k:Nat,k≤xs.length∧i = .int .i64 (k:Int)∧xs.take k=ys.take k∧aD [] w wr) (fun i _=>xs.length-(intOf i).toNat)
  case atStart=>exact⟨0,by omega,rfl,by simp,aD.refl _ _⟩
  case round =>
    obtain⟨k,hk,rfl,hpre,hu⟩:=hrel
    by_cases hlt:k<xs.length
    · obtain⟨b,off,rfl,cw0,hr0⟩:=e8.at_ hhx k hlt
      obtain⟨b',off',rfl,cw1,hr1⟩:=e8.at_ hhy k (by have:=hL.out;omega)
      have hlt':k<ys.length:=by have:=hL.out;omega
      have hstep:=fun h=>lM (d:=0) hL.out hlt hpre h
      have hno':=fun W h=>hno W k h
      revert cw0 cw1 hstep hno' hr0 hr1
      generalize xs.getD k 0=x0
      generalize ys.getD k 0=y0
      intro cw0 hr0 cw1 hr1 hstep hno'
      have hc0:=hu.cell (by simp) cw0
      have hc1:=hu.cell (by simp) cw1
      have hstep:=Lib.hid hstep
      have hno':=Lib.hid hno'
      clear cw0 cw1 hhx hhy hpre hno hyes
      have hc0:wr.drew.cell? ⟨b,off+k,none⟩=some (.int .u16 x0):=hc0
      have hc1:wr.drew.cell? ⟨b',off'+k,none⟩=some (.int .u16 y0):=hc1
      go_wp2
      refine ow (S:=fun w'=>w'.cell? ⟨b,off+k,none⟩=some (.int .u16 x0)∧w'.cell? ⟨b',off'+k,none⟩=some (.int .u16 y0)) (n:=9) #[false,false,false,false,false,false,false,false,false] (by kernel_rfl) rfl rfl ⟨hc0,hc1⟩ (fun hHeld=>?_)
      refine dm (i:=0) (N:=some 16) (v:=?_) (a':=?_) #[true,false,false,false,false,false,false,false,false] rfl rfl (by kernel_rfl) (fun _ _ _ h=>h) (Or.inl ⟨by rfl,?_⟩) hHeld ?_ ?_
      rotate_left
      · rintro w' ⟨hs0,hs1⟩
        go_simp
        with_reducible rfl
      rotate_left
      · simp only[Act.put,List.setIfInBounds_toArray,List.set_cons_zero,List.set_cons_succ]
        rfl
      refine dm (i:=1) (N:=some 17) (v:=?_) (a':=?_) #[true,true,false,false,false,false,false,false,false] rfl rfl (by kernel_rfl) (fun _ _ _ h=>h) (Or.inl ⟨by rfl,?_⟩) hHeld ?_ ?_
      rotate_left
      · rintro w' ⟨hs0,hs1⟩
        go_simp
        with_reducible rfl
      rotate_left
      · simp only[Act.put,List.setIfInBounds_toArray,List.set_cons_zero,List.set_cons_succ]
        rfl
      refine dm (i:=2) (N:=some 18) (v:=?_) (a':=?_) #[true,true,true,false,false,false,false,false,false] rfl rfl (by kernel_rfl) (fun _ _ _ h=>h) (Or.inl ⟨by rfl,?_⟩) hHeld ?_ ?_
      rotate_left
      · rintro w' ⟨hs0,hs1⟩
        go_simp
        with_reducible rfl
      rotate_left
      · simp only[Act.put,List.setIfInBounds_toArray,List.set_cons_zero,List.set_cons_succ]
        rfl
      refine dm (i:=3) (N:=some 19) (v:=?_) (a':=?_) #[true,true,true,true,false,false,false,false,false] rfl rfl (by kernel_rfl) (fun _ _ _ h=>h) (Or.inl ⟨by rfl,?_⟩) hHeld ?_ ?_
      rotate_left
      · rintro w' ⟨hs0,hs1⟩
        go_simp
        with_reducible rfl
      rotate_left
      · simp only[Act.put,List.setIfInBounds_toArray,List.set_cons_zero,List.set_cons_succ]
        rfl
      refine dm (i:=4) (N:=some 20) (v:=?_) (a':=?_) #[true,true,true,true,true,false,false,false,false] rfl rfl (by kernel_rfl) (fun _ _ _ h=>h) (Or.inl ⟨by rfl,?_⟩) hHeld ?_ ?_
      rotate_left
      · rintro w' ⟨hs0,hs1⟩
        go_simp
        with_reducible rfl
      rotate_left
      · simp only[Act.put,List.setIfInBounds_toArray,List.set_cons_zero,List.set_cons_succ]
        rfl
      refine dm (i:=5) (N:=some 21) (v:=?_) (a':=?_) #[true,true,true,true,true,true,false,false,false] rfl rfl (by kernel_rfl) (fun _ _ _ h=>h) (Or.inl ⟨by rfl,?_⟩) hHeld ?_ ?_
      rotate_left
      · rintro w' ⟨hs0,hs1⟩
        go_simp
        with_reducible rfl
      rotate_left
      · simp only[Act.put,List.setIfInBounds_toArray,List.set_cons_zero,List.set_cons_succ]
        rfl
      refine dm (i:=6) (N:=some 22) (v:=?_) (a':=?_) #[true,true,true,true,true,true,true,false,false] rfl rfl (by kernel_rfl) (fun _ _ _ h=>h) (Or.inl ⟨by rfl,?_⟩) hHeld ?_ ?_
      rotate_left
      · rintro w' ⟨hs0,hs1⟩
        go_simp
        with_reducible rfl
      rotate_left
      · simp only[Act.put,List.setIfInBounds_toArray,List.set_cons_zero,List.set_cons_succ]
        rfl
      refine dm (i:=7) (N:=some 23) (v:=?_) (a':=?_) #[true,true,true,true,true,true,true,true,false] rfl rfl (by kernel_rfl) (fun _ _ _ h=>h) (Or.inl ⟨by rfl,?_⟩) hHeld ?_ ?_
      rotate_left
      · rintro w' ⟨hs0,hs1⟩
        go_simp
        with_reducible rfl
      rotate_left
      · simp only[Act.put,List.setIfInBounds_toArray,List.set_cons_zero,List.set_cons_succ]
        rfl
      refine dm (i:=8) (N:=some 24) (v:=?_) (a':=?_) #[true,true,true,true,true,true,true,true,true] rfl rfl (by kernel_rfl) (fun _ _ _ h=>h) (Or.inl ⟨by rfl,?_⟩) hHeld ?_ ?_
      rotate_left
      · rintro w' ⟨hs0,hs1⟩
        go_simp
        with_reducible rfl
      rotate_left
      · simp only[Act.put,List.setIfInBounds_toArray,List.set_cons_zero,List.set_cons_succ]
        rfl
      refine qE (by kernel_rfl) ?_
      clear hc0 hc1 hHeld
      go_wp2
      · exact hno'.out _ (by simpa using (show(x0 != y0)=true by assumption)) (hu.drew)
      · go_roundw
        case rel=>exact⟨k+1,by omega,by go_num,hstep.out (by simpa using (show(x0 != y0)=false by assumption)),hu.drew⟩
        case measure=>simp[intOf];omega
    · have hj3:k=xs.length:=by omega
      have H3:=Lib.hid hj3
      rw[hj3] at hpre
      clear hj3 hhx hhy
      go_wp2
      exact hyes _ hpre hu
theorem vD{m m':Md}{u v:Value}{xs ys:List Bool}{w:World}(hx:gI m w u xs)(hy:gI m' w v ys) : Calls Tryz.prog 221 #[u,v] w (dA (decide (xs=ys)) w):=by
  have hhx:=hx
  have hhy:=hy
  obtain⟨A,c,rfl,hc1,hc2⟩:=hx.shape
  obtain⟨B,c',rfl,iw,iy⟩:=hy.shape
  have hn:xs.length≤9223372036854775807:=by have:=hc2;unfold maxLen at this;omega
  by_cases hl:xs.length=ys.length
  case neg =>
    have hno:∀ W,aD [] w W→dA (decide (xs=ys)) w (.returned (.bool false)) W:=by
      intro W hW
      rw[decide_eq_false (fun h=>hl (by rw[h]))]
      exact⟨rfl,hW⟩
    have hli:((xs.length:Int)!=(ys.length:Int))=true:=by simp;omega
    clear hx hy hhx hhy hl
    go_enter Tryz.func221,Tryz.ntmps221
    go_wp2
    go_ret
    exact hno _ (aD.refl _ _)
  have hno:∀ W k,xs.getD k false≠ys.getD k false→aD [] w W→dA (decide (xs=ys)) w (.returned (.bool false)) W:=by
    intro W k hk hW
    rw[decide_eq_false (rT k hk)]
    exact⟨rfl,hW⟩
  have hyes:∀ W,xs.take xs.length=ys.take xs.length→aD [] w W→dA (decide (xs=ys)) w (.returned (.bool true)) W:=by
    intro W hk hW
    rw[List.take_length,hl,List.take_length] at hk
    rw[decide_eq_true hk]
    exact⟨rfl,hW⟩
  revert hno hyes
  generalize dA (decide (xs=ys)) w=P
  intro hno hyes
  have hli:((xs.length:Int)!=(ys.length:Int))=false:=by simp;omega
  have hL:=Lib.hid hl
  clear hx hy hl
  go_enter Tryz.func221,Tryz.ntmps221
  go_wp2
  go_loopw [13] (fun i wr=>∃ k:Nat,k≤xs.length∧i = .int .i64 (k:Int)∧xs.take k=ys.take k∧aD [] w wr) (fun i _=>xs.length-(intOf i).toNat)
  case atStart=>exact⟨0,by omega,rfl,by simp,aD.refl _ _⟩
  case round =>
    obtain⟨k,hk,rfl,hpre,hu⟩:=hrel
    by_cases hlt:k<xs.length
    · obtain⟨b,off,rfl,cw0⟩:=gI.at_ hhx k hlt
      obtain⟨b',off',rfl,cw1⟩:=gI.at_ hhy k (by have:=hL.out;omega)
      have hlt':k<ys.length:=by have:=hL.out;omega
      have hstep:=fun h=>lM (d:=false) hL.out hlt hpre h
      have hno':=fun W h=>hno W k h
      revert cw0 cw1 hstep hno'
      generalize xs.getD k false=x0
      generalize ys.getD k false=y0
      intro cw0 cw1 hstep hno'
      have hc0:=hu.cell (by simp) cw0
      have hc1:=hu.cell (by simp) cw1
      have hstep:=Lib.hid hstep
      have hno':=Lib.hid hno'
      clear cw0 cw1 hhx hhy hpre hno hyes
      have hc0:wr.drew.cell? ⟨b,off+k,none⟩=some (.bool x0):=hc0
      have hc1:wr.drew.cell? ⟨b',off'+k,none⟩=some (.bool y0):=hc1
      go_wp2
      refine ow (S:=fun w'=>w'.cell? ⟨b,off+k,none⟩=some (.bool x0)∧w'.cell? ⟨b',off'+k,none⟩=some (.bool y0)) (n:=9) #[false,false,false,false,false,false,false,false,false] (by kernel_rfl) rfl rfl ⟨hc0,hc1⟩ (fun hHeld=>?_)
      refine dm (i:=0) (N:=some 16) (v:=?_) (a':=?_) #[true,false,false,false,false,false,false,false,false] rfl rfl (by kernel_rfl) (fun _ _ _ h=>h) (Or.inl ⟨by rfl,?_⟩) hHeld ?_ ?_
      rotate_left
      · rintro w' ⟨hs0,hs1⟩
        go_simp
        with_reducible rfl
      rotate_left
      · simp only[Act.put,List.setIfInBounds_toArray,List.set_cons_zero,List.set_cons_succ]
        rfl
      refine dm (i:=1) (N:=some 17) (v:=?_) (a':=?_) #[true,true,false,false,false,false,false,false,false] rfl rfl (by kernel_rfl) (fun _ _ _ h=>h) (Or.inl ⟨by rfl,?_⟩) hHeld ?_ ?_
      rotate_left
      · rintro w' ⟨hs0,hs1⟩
        go_simp
        with_reducible rfl
      rotate_left
      · simp only[Act.put,List.setIfInBounds_toArray,List.set_cons_zero,List.set_cons_succ]
        rfl
      refine dm (i:=2) (N:=some 18) (v:=?_) (a':=?_) #[true,true,true,false,false,false,false,false,false] rfl rfl (by kernel_rfl) (fun _ _ _ h=>h) (Or.inl ⟨by rfl,?_⟩) hHeld ?_ ?_
      rotate_left
      · rintro w' ⟨hs0,hs1⟩
        go_simp
        with_reducible rfl
      rotate_left
      · simp only[Act.put,List.setIfInBounds_toArray,List.set_cons_zero,List.set_cons_succ]
        rfl
      refine dm (i:=3) (N:=some 19) (v:=?_) (a':=?_) #[true,true,true,true,false,false,false,false,false] rfl rfl (by kernel_rfl) (fun _ _ _ h=>h) (Or.inl ⟨by rfl,?_⟩) hHeld ?_ ?_
      rotate_left
      · rintro w' ⟨hs0,hs1⟩
        go_simp
        with_reducible rfl
      rotate_left
      · simp only[Act.put,List.setIfInBounds_toArray,List.set_cons_zero,List.set_cons_succ]
        rfl
      refine dm (i:=4) (N:=some 20) (v:=?_) (a':=?_) #[true,true,true,true,true,false,false,false,false] rfl rfl (by kernel_rfl) (fun _ _ _ h=>h) (Or.inl ⟨by rfl,?_⟩) hHeld ?_ ?_
      rotate_left
      · rintro w' ⟨hs0,hs1⟩
        go_simp
        with_reducible rfl
      rotate_left
      · simp only[Act.put,List.setIfInBounds_toArray,List.set_cons_zero,List.set_cons_succ]
        rfl
      refine dm (i:=5) (N:=some 21) (v:=?_) (a':=?_) #[true,true,true,true,true,true,false,false,false] rfl rfl (by kernel_rfl) (fun _ _ _ h=>h) (Or.inl ⟨by rfl,?_⟩) hHeld ?_ ?_
      rotate_left
      · rintro w' ⟨hs0,hs1⟩
        go_simp
        with_reducible rfl
      rotate_left
      · simp only[Act.put,List.setIfInBounds_toArray,List.set_cons_zero,List.set_cons_succ]
        rfl
      refine dm (i:=6) (N:=some 22) (v:=?_) (a':=?_) #[true,true,true,true,true,true,true,false,false] rfl rfl (by kernel_rfl) (fun _ _ _ h=>h) (Or.inl ⟨by rfl,?_⟩) hHeld ?_ ?_
      rotate_left
      · rintro w' ⟨hs0,hs1⟩
        go_simp
        with_reducible rfl
      rotate_left
      · simp only[Act.put,List.setIfInBounds_toArray,List.set_cons_zero,List.set_cons_succ]
        rfl
      refine dm (i:=7) (N:=some 23) (v:=?_) (a':=?_) #[true,true,true,true,true,true,true,true,false] rfl rfl (by kernel_rfl) (fun _ _ _ h=>h) (Or.inl ⟨by rfl,?_⟩) hHeld ?_ ?_
      rotate_left
      · rintro w' ⟨hs0,hs1⟩
        go_simp
        with_reducible rfl
      rotate_left
      · simp only[Act.put,List.setIfInBounds_toArray,List.set_cons_zero,List.set_cons_succ]
        rfl
      refine dm (i:=8) (N:=some 24) (v:=?_) (a':=?_) #[true,true,true,true,true,true,true,true,true] rfl rfl (by kernel_rfl) (fun _ _ _ h=>h) (Or.inl ⟨by rfl,?_⟩) hHeld ?_ ?_
      rotate_left
      · rintro w' ⟨hs0,hs1⟩
        go_simp
        with_reducible rfl
      rotate_left
      · simp only[Act.put,List.setIfInBounds_toArray,List.set_cons_zero,List.set_cons_succ]
        rfl
      refine qE (by kernel_rfl) ?_
      clear hc0 hc1 hHeld
      go_wp2
      · exact hno'.out _ (by simpa using (show(x0 != y0)=true by assumption)) (hu.drew)
      · go_roundw
        case rel=>exact⟨k+1,by omega,by go_num,hstep.out (by simpa using (show(x0 != y0)=false by assumption)),hu.drew⟩
        case measure=>simp[intOf];omega
    · have hj3:k=xs.length:=by omega
      have H3:=Lib.hid hj3
      rw[hj3] at hpre
      clear hj3 hhx hhy
      go_wp2
      exact hyes _ hpre hu
open Go.RowKit
theorem aT.cells{m:Md}{w:World}{A:Option Addr}{n c:Nat}{xs:List Int}(h:aT m w (.slice A n c) xs) : (A=none∧xs=[])∨xs=[]∨∃ b off,A=some ⟨b,off,none⟩∧∀ i,i<xs.length→w.cell? ⟨b,off+i,none⟩=some (.int .u8 (xs.getD i 0)):=by
  by_cases h0:xs=[]
  · exact .inr (.inl h0)
  · have hl:0<xs.length:=List.length_pos_iff.2 h0
    obtain⟨b,off,rfl,_⟩:=aT.at_ h 0 hl
    refine .inr (.inr ⟨b,off,rfl,fun i hi=>?_⟩)
    obtain⟨b',off',hA,hc,_⟩:=aT.at_ h i hi
    injection hA with hA
    injection hA with h1 h2
    subst h1 h2
    exact hc
theorem qp{m:Md}{w:World}{v:Value}{xs:List Int}(h:aT m w v xs) : (convert 22 9 v).run Tryz.prog w = .ok (.string (strOfNums xs)) w:=by
  have hh:=h
  obtain⟨A,c,rfl,h1,h2,h0,h3⟩:=hh
  rcases Nat.eq_zero_or_pos xs.length with hz|hz
  · obtain rfl:xs=[]:=List.eq_nil_of_length_eq_zero hz
    cases A with
    | none=>exact run_convert_bytes_nil w _ _ Tryz.underlying22 Tryz.underlying5 _ _ _ Tryz.underlying9
    | some a =>
      rw[run_convert_bytes_string w _ _ _ _ _ _ Tryz.underlying22 Tryz.underlying5 Tryz.underlying9]
      rw[run_bytesToString w a _ c [] (by simp[loadCells,loadCellsFrom,Sem.run_pure])]
      rfl
  · obtain⟨b,off,cells,t,fr,rfl,hb,ht,hx⟩:=h3 hz
    exact run_convert_bytes_arg w _ _ Tryz.underlying22 Tryz.underlying5 b off _ c xs rfl (fun i hi=>by
      obtain⟨b',off',hA,hc,_⟩:=aT.at_ h i hi
      injection hA with hA
      injection hA with h1 h2
      subst h1 h2
      exact hc) _ Tryz.underlying9
theorem qS:∀ {xs ys:List Int},(∀ x,x∈xs→0≤x∧x<256)→(∀ x,x∈ys→0≤x∧x<256)→(xs.map fun n=>UInt8.ofNat n.toNat)=(ys.map fun n=>UInt8.ofNat n.toNat)→xs=ys
  | [],[],_,_,_=>rfl
  | [],_ :: _,_,_,h=>by simp at h
  | _ :: _,[],_,_,h=>by simp at h
  | x :: xs,y :: ys,hx,hy,h=>by
    simp only[List.map_cons,List.cons.injEq] at h
    have h1:=hx x (by simp)
    have h2:=hy y (by simp)
    have h3:x=y:=by
      have:=congrArg UInt8.toNat h.1
      simp at this
      omega
    rw[h3,qS (fun z hz=>hx z (by simp[hz])) (fun z hz=>hy z (by simp[hz])) h.2]
theorem s0{m m':Md}{w w' W:World}{u v:Value}{xs ys:List Int}(hx:aT m w u xs)(hy:aT m' w' v ys) : (binOp .eql 9 (.string (strOfNums xs)) (.string (strOfNums ys))).run Tryz.prog W = .ok (.bool (decide (xs=ys))) W:=by
  have e:((strOfNums xs).toList==(strOfNums ys).toList)=decide (xs=ys):=by
    by_cases h:xs=ys
    · subst h;simp
    · rw[decide_eq_false h,beq_eq_false_iff_ne]
      intro h2
      rw[ByteArray.toList_eq,ByteArray.toList_eq] at h2
      exact h (qS hx.rng hy.rng h2)
  rw[binOp_string_eql,e]
  rfl
theorem vm{A B:dt}:decide (A=B)=(decide (A.file=B.file)&&(decide (A.record=B.record)&&(decide (A.count=B.count)&&decide (A.words=B.words)))):=by
  rw[Bool.eq_iff_iff]
  cases A;cases B
  simp
theorem vN{m m':Md}{ca cb:List Value}{A B:dt}{w:World}(ha:bq m w A ca)(hb:bq m' w B cb) : Calls Tryz.prog 223 #[.agg ca.toArray,.agg cb.toArray] w (dA (decide (A=B)) w):=by
  obtain⟨va,rfl,hwa,hra⟩:=ha
  obtain⟨vb,rfl,hwb,hrb⟩:=hb
  rw[vm]
  generalize A.file=f1 at *
  generalize A.record=f2 at *
  generalize A.count=f3 at *
  generalize A.words=f4 at *
  generalize B.file=g1 at *
  generalize B.record=g2 at *
  generalize B.count=g3 at *
  generalize B.words=g4 at *
  clear hra hrb
  have hpost:∀ W,aD [] w W→dA (decide (f1=g1)&&(decide (f2=g2)&&(decide (f3=g3)&&decide (f4=g4)))) w (.returned (.bool (decide (f1=g1)&&(decide (f2=g2)&&(decide (f3=g3)&&decide (f4=g4)))))) W:=fun W h=>⟨rfl,h⟩
  revert hpost
  generalize dA (decide (f1=g1)&&(decide (f2=g2)&&(decide (f3=g3)&&decide (f4=g4)))) w=P
  intro hpost
  by_cases h1:f1=g1
  case neg =>
    have e:(decide (f1=g1)&&(decide (f2=g2)&&(decide (f3=g3)&&decide (f4=g4))))=false:=by simp[h1]
    rw[e] at hpost
    have e1:(f1==g1)=false:=by simpa using h1
    clear h1 e hwa hwb
    replace hpost:=Lib.hid hpost
    go_enter Tryz.func223,Tryz.ntmps223
    go_wp2
    exact hpost.out _ (((aD.refl [] w).alloc _).alloc _)
  subst h1
  by_cases h1:f2=g2
  case neg =>
    have e:(decide (f1=f1)&&(decide (f2=g2)&&(decide (f3=g3)&&decide (f4=g4))))=false:=by simp[h1]
    rw[e] at hpost
    have e1:(f2==g2)=false:=by simpa using h1
    clear h1 e hwa hwb
    replace hpost:=Lib.hid hpost
    go_enter Tryz.func223,Tryz.ntmps223
    go_wp2
    exact hpost.out _ (((aD.refl [] w).alloc _).alloc _)
  subst h1
  by_cases h1:f3=g3
  case neg =>
    have e:(decide (f1=f1)&&(decide (f2=f2)&&(decide (f3=g3)&&decide (f4=g4))))=false:=by simp[h1]
    rw[e] at hpost
    have e1:(f3==g3)=false:=by simpa using h1
    clear h1 e hwa hwb
    replace hpost:=Lib.hid hpost
    go_enter Tryz.func223,Tryz.ntmps223
    go_wp2
    exact hpost.out _ (((aD.refl [] w).alloc _).alloc _)
  subst h1
  have e:(decide (f1=f1)&&(decide (f2=f2)&&(decide (f3=f3)&&decide (f4=g4))))=decide (f4=g4):=by simp
  rw[e] at hpost
  clear e
  have hcall:=fun(W:World) (h:aD [] w W)=>qv (hwa.old h) (hwb.old h)
  replace hpost:=Lib.hid hpost
  go_enter Tryz.func223,Tryz.ntmps223
  go_wp2_with (go_at_call 220;refine(hcall _ (((aD.refl [] w).alloc _).alloc _)).mono ?_;rintro e w1 ⟨rfl,hu1⟩)
  exact hpost.out _ ((((aD.refl [] w).alloc _).alloc _).step hu1)
theorem ww{A B:Obj}:decide (A=B)=(decide (A.id=B.id)&&decide (A.value=B.value)):=by
  rw[Bool.eq_iff_iff]
  cases A;cases B
  simp
theorem oU{m m':Md}{ca cb:List Value}{A B:Obj}{w:World}(ha:dg m w A ca)(hb:dg m' w B cb) : Calls Tryz.prog 225 #[.agg ca.toArray,.agg cb.toArray] w (dA (decide (A=B)) w):=by
  obtain⟨va,rfl,hwa,hra⟩:=ha
  obtain⟨vb,rfl,hwb,hrb⟩:=hb
  rw[ww]
  generalize A.id=f1 at *
  generalize A.value=f4 at *
  generalize B.id=g1 at *
  generalize B.value=g4 at *
  clear hra hrb
  have hpost:∀ W,aD [] w W→dA (decide (f1=g1)&&decide (f4=g4)) w (.returned (.bool (decide (f1=g1)&&decide (f4=g4)))) W:=fun W h=>⟨rfl,h⟩
  revert hpost
  generalize dA (decide (f1=g1)&&decide (f4=g4)) w=P
  intro hpost
  by_cases h1:f1=g1
  case neg =>
    have e:(decide (f1=g1)&&decide (f4=g4))=false:=by simp[h1]
    rw[e] at hpost
    have e1:(f1==g1)=false:=by simpa using h1
    clear h1 e hwa hwb
    replace hpost:=Lib.hid hpost
    go_enter Tryz.func225,Tryz.ntmps225
    go_wp2
    exact hpost.out _ (((aD.refl [] w).alloc _).alloc _)
  subst h1
  have e:(decide (f1=f1)&&decide (f4=g4))=decide (f4=g4):=by simp
  rw[e] at hpost
  have hu0:aD [] w ((w.alloc (.cells #[.int .u8 f1,va] 111)).alloc (.cells #[.int .u8 f1,vb] 111)):=((aD.refl [] w).alloc _).alloc _
  have c1:=qp (hwa.old hu0)
  have c2:=qp (hwb.old hu0)
  have c3:=s0 (hwa.old hu0) (hwb.old hu0) (W:=(w.alloc (.cells #[.int .u8 f1,va] 111)).alloc (.cells #[.int .u8 f1,vb] 111))
  replace hpost:=hpost _ hu0
  generalize strOfNums f4=s1 at *
  generalize strOfNums g4=s2 at *
  generalize decide (f4=g4)=D at *
  clear hu0 hwa hwb e
  rw[binOp_string_eql] at c3
  have c4:(s1.toList==s2.toList)=D:=by simpa [Sem.run_pure] using c3
  clear c3
  replace hpost:=Lib.hid hpost
  go_enter Tryz.func225,Tryz.ntmps225
  go_wp2
  exact hpost.out
open Go.RowKit
theorem aK.at_{α:Type}{m:Md}{e:TypeId}{sz:Nat}{R:World→α→List Value→Prop}{w:World}{A:Option Addr}{n c:Nat}{xs:List α}(h:aK m e sz R w (.slice A n c) xs)(d:α)(j:Nat)(hj:j<xs.length) :
    ∃ b off cs,A=some ⟨b,off,none⟩∧w.rangeAt b (off+j*sz) cs∧R w (xs.getD j d) cs∧cs.length=sz:=by
  obtain⟨A',c',hv,h1,h2,h0,h3⟩:=h
  injection hv with e1 e2 e3
  subst e1 e3
  obtain⟨b,off,cells,t,fr,rfl,hb,ht,hx⟩:=h3 (by omega)
  obtain⟨cs,h4,h5,h6⟩:=hx j (xs.getD j d) (by simp[List.getD_eq_getElem?_getD,List.getElem?_eq_getElem hj])
  exact⟨b,off,cs,rfl,fun i u hi=>by rw[bv hb];exact h6 i u hi,h5,h4⟩
theorem bq.upd0{m:Md}{w w':World}(hu:aD [] w w'){r:dt}{cs:List Value}(h:bq m w r cs) : bq m w' r cs:=bq.upd hu (db.nil _ _ _) r cs h
theorem dg.upd0{m:Md}{w w':World}(hu:aD [] w w'){r:Obj}{cs:List Value}(h:dg m w r cs) : dg m w' r cs:=dg.upd hu (db.nil _ _ _) r cs h
theorem fj{w w':World}{b o:Nat}{cs:List Value}(h:w.rangeAt b o cs){S:List Nat}(hu:aD S w w')(hb:b∉S) : w'.rangeAt b o cs:=fun j v hj=>hu.cell hb (h j v hj)
theorem o5:(Tryz.prog.info? 109).map (·.zero)=some (some (.agg #[.int .u16 0,.int .u16 0,.int .u16 0,.slice none 0 0])):=by kernel_rfl
theorem fQ:(Tryz.prog.info? 109).map (·.size)=some 4:=by kernel_rfl
theorem oJ:(Tryz.prog.info? 111).map (·.zero)=some (some (.agg #[.int .u8 0,.slice none 0 0])):=by kernel_rfl
theorem fZ:(Tryz.prog.info? 111).map (·.size)=some 2:=by kernel_rfl
theorem bq.one{m:Md}{w:World}{r:dt}{cs:List Value}(h:bq m w r cs) : cs.toArray.all (·.oneCell')=true∧cs.length=4:=by
  obtain⟨v,rfl,h1,_⟩:=h
  obtain⟨A,c,rfl,_⟩:=h1
  exact⟨by simp[Value.oneCell'],rfl⟩
theorem dg.one{m:Md}{w:World}{r:Obj}{cs:List Value}(h:dg m w r cs) : cs.toArray.all (·.oneCell')=true∧cs.length=2:=by
  obtain⟨v,rfl,h1,_⟩:=h
  obtain⟨A,c,rfl,_⟩:=h1
  exact⟨by simp[Value.oneCell'],rfl⟩
theorem vx{m m':Md}{u v:Value}{xs ys:List dt}{w:World}(hx:mr m w u xs)(hy:mr m' w v ys) :
    Calls Tryz.prog 222 #[u,v,.func (.func 223) #[] #[]] w (dA (decide (xs=ys)) w):=by
  have hhx:=hx
  have hhy:=hy
  obtain⟨A,c,rfl,hc1,hc2⟩:=hx.shape
  obtain⟨B,c',rfl,iw,iy⟩:=hy.shape
  have hn:xs.length≤9223372036854775807:=by have:=hc2;unfold maxLen at this;omega
  by_cases hl:xs.length=ys.length
  case neg =>
    have hno:∀ W,aD [] w W→dA (decide (xs=ys)) w (.returned (.bool false)) W:=by
      intro W hW
      rw[decide_eq_false (fun h=>hl (by rw[h]))]
      exact⟨rfl,hW⟩
    have hli:((xs.length:Int)!=(ys.length:Int))=true:=by simp;omega
    clear hx hy hhx hhy hl
    go_enter Tryz.func222,Tryz.ntmps222
    go_wp2
    go_ret
    exact hno _ (aD.refl _ _)
  have hno:∀ W k,xs.getD k ⟨0,0,0,[]⟩≠ys.getD k ⟨0,0,0,[]⟩→aD [] w W→dA (decide (xs=ys)) w (.returned (.bool false)) W:=by
    intro W k hk hW
    rw[decide_eq_false (rT k hk)]
    exact⟨rfl,hW⟩
  have hyes:∀ W,xs.take xs.length=ys.take xs.length→aD [] w W→dA (decide (xs=ys)) w (.returned (.bool true)) W:=by
    intro W hk hW
    rw[List.take_length,hl,List.take_length] at hk
    rw[decide_eq_true hk]
    exact⟨rfl,hW⟩
  revert hno hyes
  generalize dA (decide (xs=ys)) w=P
  intro hno hyes
  have hli:((xs.length:Int)!=(ys.length:Int))=false:=by simp;omega
  have hL:=Lib.hid hl
  clear hx hy hl
  go_enter Tryz.func222,Tryz.ntmps222
  go_wp2
  go_loopw [17] (fun i wr=>∃ k:Nat,k≤xs.length∧i = .int .i64 (k:Int)∧xs.take k=ys.take k∧aD [] w wr) (fun i _=>xs.length-(intOf i).toNat)
  case atStart=>exact⟨0,by omega,rfl,by simp,aD.refl _ _⟩
  case round =>
    obtain⟨k,hk,rfl,hpre,hu⟩:=hrel
    by_cases hlt:k<xs.length
    · obtain⟨b,off,ca,rfl,cw0,hr0,hl0⟩:=aK.at_ hhx ⟨0,0,0,[]⟩ k hlt
      obtain⟨b',off',cb,rfl,cw1,hr1,hl1⟩:=aK.at_ hhy ⟨0,0,0,[]⟩ k (by have:=hL.out;omega)
      have hlt':k<ys.length:=by have:=hL.out;omega
      have hstep:=fun h=>lM (d:=⟨0,0,0,[]⟩) hL.out hlt hpre h
      have hno':=fun W h=>hno W k h
      revert hstep hno' hr0 hr1
      generalize xs.getD k ⟨0,0,0,[]⟩=x0
      generalize ys.getD k ⟨0,0,0,[]⟩=y0
      intro hr0 hr1 hstep hno'
      have hc0:=Lib.hid (fj cw0 hu (by simp))
      have hc1:=Lib.hid (fj cw1 hu (by simp))
      replace hstep:=Lib.hid hstep
      replace hno':=Lib.hid hno'
      have ha:=Lib.hid hr0
      have hb:=Lib.hid hr1
      clear cw0 cw1 hhx hhy hpre hno hyes hr0 hr1
      have tok1_0:True:=trivial
      have tok1_1:True:=trivial
      have tok1_2:True:=trivial
      have tok1_3:True:=trivial
      have tok1_4:True:=trivial
      have tok1_5:True:=trivial
      have tok1_6:True:=trivial
      have tok1_7:True:=trivial
      have tok1_8:True:=trivial
      go_wp2_with (first | (have _t:=tok1_0;refine wpList_load_mid rfl 109 _ rfl b (off+k*4) rfl ca _ hc0.out Tryz.underlying109 rfl (by rw[hl0];exact fQ) ?_;clear _t tok1_0) | (have _t:=tok1_1;refine fT rfl 109 rfl _ o5 ?_;intro g1 w1 hg1 hB1 hu1;clear _t tok1_1) | (have _t:=tok1_2;refine g7 rfl 109 _ _ rfl g1 rfl ca.toArray rfl _ _ hB1 (by simp only[List.size_toArray,hl0];exact fQ) (by simp only[List.size_toArray,hl0];rfl) (bq.one ha.out).1 ?_;intro w2 hB2 hu2;have U2:=hu1.fresh1 hu2 hg1;clear _t tok1_2) | (have _t:=tok1_3;refine wpList_load_mid rfl 109 _ rfl b' (off'+k*4) rfl cb _ (fj hc1.out U2 (by simp)) Tryz.underlying109 rfl (by rw[hl1];exact fQ) ?_;clear _t tok1_3) | (have _t:=tok1_4;refine fT rfl 109 rfl _ o5 ?_;intro g3 w3 hg3 hB3 hu3;clear _t tok1_4) | (have _t:=tok1_5;refine g7 rfl 109 _ _ rfl g3 rfl cb.toArray rfl _ _ hB3 (by simp only[List.size_toArray,hl1];exact fQ) (by simp only[List.size_toArray,hl1];rfl) (bq.one hb.out).1 ?_;intro w4 hB4 hu4;have U4:=hu3.fresh1 hu4 hg3;have a:=U4.blk (by simp) hB2;have V4:=hu.step (U2.step U4);clear _t tok1_5) | (have _t:=tok1_6;refine wpList_load_row rfl 109 _ rfl g1 rfl _ _ _ _ a Tryz.underlying109 rfl (by simp only[List.size_toArray,hl0];exact fQ) ?_;clear _t tok1_6) | (have _t:=tok1_7;refine wpList_load_row rfl 109 _ rfl g3 rfl _ _ _ _ hB4 Tryz.underlying109 rfl (by simp only[List.size_toArray,hl1];exact fQ) ?_;clear _t tok1_7) | (have _t:=tok1_8;go_at_call 223;refine(vN (bq.upd0 V4 ha.out) (bq.upd0 V4 hb.out)).mono ?_;rintro e w5 ⟨rfl,hu5⟩;generalize hD:decide (x0=y0)=D;have HD:=Lib.hid hD;clear hD a hB4;clear _t tok1_8))
      · have hD0:(!D)=true:=by assumption
        exact hno'.out _ (by have:=HD.out;intro h;rw[← this,h] at hD0;simp at hD0) (V4.step hu5)
      · have hD0:(!D)=false:=by assumption
        have hxy:x0=y0:=by have:=HD.out;rw[← this] at hD0;simpa using hD0
        go_roundw
        case rel=>exact⟨k+1,by omega,by go_num,hstep.out hxy,V4.step hu5⟩
        case measure=>simp[intOf];omega
    · have hj3:k=xs.length:=by omega
      have H3:=Lib.hid hj3
      rw[hj3] at hpre
      clear hj3 hhx hhy
      go_wp2
      exact hyes _ hpre hu
theorem uP{m m':Md}{u v:Value}{xs ys:List Obj}{w:World}(hx:nW m w u xs)(hy:nW m' w v ys) :
    Calls Tryz.prog 224 #[u,v,.func (.func 225) #[] #[]] w (dA (decide (xs=ys)) w):=by
  have hhx:=hx
  have hhy:=hy
  obtain⟨A,c,rfl,hc1,hc2⟩:=hx.shape
  obtain⟨B,c',rfl,iw,iy⟩:=hy.shape
  have hn:xs.length≤9223372036854775807:=by have:=hc2;unfold maxLen at this;omega
  by_cases hl:xs.length=ys.length
  case neg =>
    have hno:∀ W,aD [] w W→dA (decide (xs=ys)) w (.returned (.bool false)) W:=by
      intro W hW
      rw[decide_eq_false (fun h=>hl (by rw[h]))]
      exact⟨rfl,hW⟩
    have hli:((xs.length:Int)!=(ys.length:Int))=true:=by simp;omega
    clear hx hy hhx hhy hl
    go_enter Tryz.func224,Tryz.ntmps224
    go_wp2
    go_ret
    exact hno _ (aD.refl _ _)
  have hno:∀ W k,xs.getD k ⟨0,[]⟩≠ys.getD k ⟨0,[]⟩→aD [] w W→dA (decide (xs=ys)) w (.returned (.bool false)) W:=by
    intro W k hk hW
    rw[decide_eq_false (rT k hk)]
    exact⟨rfl,hW⟩
  have hyes:∀ W,xs.take xs.length=ys.take xs.length→aD [] w W→dA (decide (xs=ys)) w (.returned (.bool true)) W:=by
    intro W hk hW
    rw[List.take_length,hl,List.take_length] at hk
    rw[decide_eq_true hk]
    exact⟨rfl,hW⟩
  revert hno hyes
  generalize dA (decide (xs=ys)) w=P
  intro hno hyes
  have hli:((xs.length:Int)!=(ys.length:Int))=false:=by simp;omega
  have hL:=Lib.hid hl
  clear hx hy hl
  go_enter Tryz.func224,Tryz.ntmps224
  go_wp2
  go_loopw [17] (fun i wr=>∃ k:Nat,k≤xs.length∧i = .int .i64 (k:Int)∧xs.take k=ys.take k∧aD [] w wr) (fun i _=>xs.length-(intOf i).toNat)
  case atStart=>exact⟨0,by omega,rfl,by simp,aD.refl _ _⟩
  case round =>
    obtain⟨k,hk,rfl,hpre,hu⟩:=hrel
    by_cases hlt:k<xs.length
    · obtain⟨b,off,ca,rfl,cw0,hr0,hl0⟩:=aK.at_ hhx ⟨0,[]⟩ k hlt
      obtain⟨b',off',cb,rfl,cw1,hr1,hl1⟩:=aK.at_ hhy ⟨0,[]⟩ k (by have:=hL.out;omega)
      have hlt':k<ys.length:=by have:=hL.out;omega
      have hstep:=fun h=>lM (d:=⟨0,[]⟩) hL.out hlt hpre h
      have hno':=fun W h=>hno W k h
      revert hstep hno' hr0 hr1
      generalize xs.getD k ⟨0,[]⟩=x0
      generalize ys.getD k ⟨0,[]⟩=y0
      intro hr0 hr1 hstep hno'
      have hc0:=Lib.hid (fj cw0 hu (by simp))
      have hc1:=Lib.hid (fj cw1 hu (by simp))
      replace hstep:=Lib.hid hstep
      replace hno':=Lib.hid hno'
      have ha:=Lib.hid hr0
      have hb:=Lib.hid hr1
      clear cw0 cw1 hhx hhy hpre hno hyes hr0 hr1
      have tok2_0:True:=trivial
      have tok2_1:True:=trivial
      have tok2_2:True:=trivial
      have tok2_3:True:=trivial
      have tok2_4:True:=trivial
      have tok2_5:True:=trivial
      have tok2_6:True:=trivial
      have tok2_7:True:=trivial
      have tok2_8:True:=trivial
      go_wp2_with (first | (have _t:=tok2_0;refine wpList_load_mid rfl 111 _ rfl b (off+k*2) rfl ca _ hc0.out Tryz.underlying111 rfl (by rw[hl0];exact fZ) ?_;clear _t tok2_0) | (have _t:=tok2_1;refine fT rfl 111 rfl _ oJ ?_;intro g1 w1 hg1 hB1 hu1;clear _t tok2_1) | (have _t:=tok2_2;refine g7 rfl 111 _ _ rfl g1 rfl ca.toArray rfl _ _ hB1 (by simp only[List.size_toArray,hl0];exact fZ) (by simp only[List.size_toArray,hl0];rfl) (dg.one ha.out).1 ?_;intro w2 hB2 hu2;have U2:=hu1.fresh1 hu2 hg1;clear _t tok2_2) | (have _t:=tok2_3;refine wpList_load_mid rfl 111 _ rfl b' (off'+k*2) rfl cb _ (fj hc1.out U2 (by simp)) Tryz.underlying111 rfl (by rw[hl1];exact fZ) ?_;clear _t tok2_3) | (have _t:=tok2_4;refine fT rfl 111 rfl _ oJ ?_;intro g3 w3 hg3 hB3 hu3;clear _t tok2_4) | (have _t:=tok2_5;refine g7 rfl 111 _ _ rfl g3 rfl cb.toArray rfl _ _ hB3 (by simp only[List.size_toArray,hl1];exact fZ) (by simp only[List.size_toArray,hl1];rfl) (dg.one hb.out).1 ?_;intro w4 hB4 hu4;have U4:=hu3.fresh1 hu4 hg3;have a:=U4.blk (by simp) hB2;have V4:=hu.step (U2.step U4);clear _t tok2_5) | (have _t:=tok2_6;refine wpList_load_row rfl 111 _ rfl g1 rfl _ _ _ _ a Tryz.underlying111 rfl (by simp only[List.size_toArray,hl0];exact fZ) ?_;clear _t tok2_6) | (have _t:=tok2_7;refine wpList_load_row rfl 111 _ rfl g3 rfl _ _ _ _ hB4 Tryz.underlying111 rfl (by simp only[List.size_toArray,hl1];exact fZ) ?_;clear _t tok2_7) | (have _t:=tok2_8;go_at_call 225;refine(oU (dg.upd0 V4 ha.out) (dg.upd0 V4 hb.out)).mono ?_;rintro e w5 ⟨rfl,hu5⟩;generalize hD:decide (x0=y0)=D;have HD:=Lib.hid hD;clear hD a hB4;clear _t tok2_8))
      · have hD0:(!D)=true:=by assumption
        exact hno'.out _ (by have:=HD.out;intro h;rw[← this,h] at hD0;simp at hD0) (V4.step hu5)
      · have hD0:(!D)=false:=by assumption
        have hxy:x0=y0:=by have:=HD.out;rw[← this] at hD0;simpa using hD0
        go_roundw
        case rel=>exact⟨k+1,by omega,by go_num,hstep.out hxy,V4.step hu5⟩
        case measure=>simp[intOf];omega
    · have hj3:k=xs.length:=by omega
      have H3:=Lib.hid hj3
      rw[hj3] at hpre
      clear hj3 hhx hhy
      go_wp2
      exact hyes _ hpre hu
open Go.RowKit
def dQ (M:aQ) : List Int:=[M.code,M.fail,M.addr,M.count,M.value,M.and_,M.or_,M.addr2,M.sub,M.status,M.events,M.messages,M.mei*256+M.kind,M.level*256+M.more,M.next]
def gc (M:aQ) : Array Value:=((dQ M).map (Value.int .u16)).toArray
theorem p3:(Tryz.prog.info? 225).map (·.zero)=some (some (.agg ((List.replicate 15 (Value.int .u16 0)).toArray))):=by kernel_rfl
theorem jT:(Tryz.prog.info? 225).map (·.size)=some 15:=by kernel_rfl
theorem nw(a0 a1 a2 a3 a4 a5 a6 a7 a8 a9 a b c d e:Int)(w:World) : (Instr.build 225 #[(0,.int .u16 a0),(1,.int .u16 a1),(2,.int .u16 a2),(3,.int .u16 a3),(4,.int .u16 a4),(5,.int .u16 a5),(6,.int .u16 a6),(7,.int .u16 a7),(8,.int .u16 a8),(9,.int .u16 a9),(10,.int .u16 a),(11,.int .u16 b),(12,.int .u16 c),(13,.int .u16 d),(14,.int .u16 e)]).run Tryz.prog w
    = .ok (.agg #[.int .u16 a0,.int .u16 a1,.int .u16 a2,.int .u16 a3,.int .u16 a4,.int .u16 a5,.int .u16 a6,.int .u16 a7,.int .u16 a8,.int .u16 a9,.int .u16 a,.int .u16 b,.int .u16 c,.int .u16 d,.int .u16 e]) w:=by kernel_rfl
theorem tV{P:Program}{fn:Func}{p:Tmp}{ty:TypeId}(h:fn.results = #[.cell p ty]){R:Ending→World→Prop}{a:Act}{w:World}(hd0:a.defers=[])(g:Nat)(t:TypeId)(cs:Array Value)(fr:Nat × Nat)(d:TypeDesc)
    (hp:a.tmps.getD p undef = .pointer (some ⟨g,0,none⟩)) (hg:w.heap[g]? = some (.cells cs t fr))
    (hu:P.underlying ty=some d) (hd:(match d with | .struct _ | .array _ _=>true | _=>false)=true) (hi:(P.info? ty).map (·.size)=some cs.size)
    (hR:R (.returned (.agg cs)) w) : bodyPost P fn R .ret a w:=by
  have hp':a.tmps[p]?.getD undef = .pointer (some ⟨g,0,none⟩):=by simpa using hp
  exact bodyPost_ret (by simp[results,h,hp',asAddr,run_loadVar_row w g t ty cs fr d hg hu hd hi]) hd0 hR
theorem lS{m:Md}{cs:Array Value}{M:aQ}{w:World}(h:aL m w cs.toList M) : Calls Tryz.prog 219 #[.agg cs] w (bP (.agg (gc M)) w):=by
  obtain⟨vw,vb,vd,vr,vo,h0,_,_,_,_,_,hR⟩:=h
  obtain⟨c0,c1,c2,c3,c4,c5,c6,c7,c8,c9,f,i,l1,l2,l3,l4,a,c,b,d,e,l5⟩:=M
  obtain⟨r0,r1,r2,r3,r4,r5,r6,r7,r8,r9,o,p,j,k,l,n,q⟩:=hR
  simp only[B8,dx] at r0 r1 r2 r3 r4 r5 r6 r7 r8 r9 o p j k l n q
  have hpost:∀ W,aD [] w W→bP (.agg (gc ⟨c0,c1,c2,c3,c4,c5,c6,c7,c8,c9,f,i,l1,l2,l3,l4,a,c,b,d,e,l5⟩)) w (.returned (.agg #[.int .u16 c0,.int .u16 c1,.int .u16 c2,.int .u16 c3,.int .u16 c4,.int .u16 c5,.int .u16 c6,.int .u16 c7,.int .u16 c8,.int .u16 c9,.int .u16 f,.int .u16 i,.int .u16 (a*256+c),.int .u16 (b*256+d),.int .u16 e])) W:=fun W hW=>⟨rfl,hW⟩
  revert hpost
  generalize bP (.agg (gc ⟨c0,c1,c2,c3,c4,c5,c6,c7,c8,c9,f,i,l1,l2,l3,l4,a,c,b,d,e,l5⟩)) w=P
  intro hpost
  replace hpost:=Lib.hid hpost
  have w0:IntKind.u16.wrap c0=c0:=by show c0%65536=c0;omega
  have w1:IntKind.u16.wrap c1=c1:=by show c1%65536=c1;omega
  have r:IntKind.u16.wrap a=a:=by show a%65536=a;omega
  have s:IntKind.u16.wrap c=c:=by show c%65536=c;omega
  have t:IntKind.u16.wrap b=b:=by show b%65536=b;omega
  have u:IntKind.u16.wrap d=d:=by show d%65536=d;omega
  have v:IntKind.u16.wrap e=e:=by show e%65536=e;omega
  have x1:IntKind.u16.wrap (a*256)=a*256:=by show(a*256)%65536=a*256;omega
  have x2:IntKind.u16.wrap (b*256)=b*256:=by show(b*256)%65536=b*256;omega
  have o1:=na j k
  have o2:=na l n
  have hcs:cs = #[.int .u8 c0,.int .u8 c1,.int .u16 c2,.int .u16 c3,.int .u16 c4,.int .u16 c5,.int .u16 c6,.int .u16 c7,.int .u16 c8,.int .u16 c9,.int .u16 f,.int .u16 i,vw,vb,vd,vr,.int .u8 a,.int .u8 c,.int .u8 b,.int .u8 d,.int .u8 e,vo]:=by
    apply Array.toList_inj.1
    exact h0
  subst hcs
  have hbp:=nw
  clear h0 r0 r1 r2 r3 r4 r5 r6 r7 r8 r9 o p j k l n q
  go_enter Tryz.func219,Tryz.ntmps219
  have tok1_0:True:=trivial
  have tok1_1:True:=trivial
  have tok1_2:True:=trivial
  go_wp2_with (first | (have _t:=tok1_0;refine vp rfl 30 _ rfl (.agg #[.int .u8 c0,.int .u8 c1,.int .u16 c2,.int .u16 c3,.int .u16 c4,.int .u16 c5,.int .u16 c6,.int .u16 c7,.int .u16 c8,.int .u16 c9,.int .u16 f,.int .u16 i,vw,vb,vd,vr,.int .u8 a,.int .u8 c,.int .u8 b,.int .u8 d,.int .u8 e,vo]) rfl ?_;intro g w1 hg hB hu1;clear _t tok1_0) | (have _t:=tok1_1;refine fT rfl 225 rfl _ p3 ?_;intro gp w2 hgp hBp hu2;replace hB:=hu2.blk (by simp) hB;have k0:w2.cell? ⟨g,0,none⟩=some (.int .u8 c0):=(bv hB 0).trans rfl;have k1:w2.cell? ⟨g,1,none⟩=some (.int .u8 c1):=(bv hB 1).trans rfl;have k2:w2.cell? ⟨g,2,none⟩=some (.int .u16 c2):=(bv hB 2).trans rfl;have k3:w2.cell? ⟨g,3,none⟩=some (.int .u16 c3):=(bv hB 3).trans rfl;have k4:w2.cell? ⟨g,4,none⟩=some (.int .u16 c4):=(bv hB 4).trans rfl;have k5:w2.cell? ⟨g,5,none⟩=some (.int .u16 c5):=(bv hB 5).trans rfl;have k6:w2.cell? ⟨g,6,none⟩=some (.int .u16 c6):=(bv hB 6).trans rfl;have k7:w2.cell? ⟨g,7,none⟩=some (.int .u16 c7):=(bv hB 7).trans rfl;have k8:w2.cell? ⟨g,8,none⟩=some (.int .u16 c8):=(bv hB 8).trans rfl;have k9:w2.cell? ⟨g,9,none⟩=some (.int .u16 c9):=(bv hB 9).trans rfl;have x:w2.cell? ⟨g,10,none⟩=some (.int .u16 f):=(bv hB 10).trans rfl;have y:w2.cell? ⟨g,11,none⟩=some (.int .u16 i):=(bv hB 11).trans rfl;have z:w2.cell? ⟨g,16,none⟩=some (.int .u8 a):=(bv hB 16).trans rfl;have A:w2.cell? ⟨g,17,none⟩=some (.int .u8 c):=(bv hB 17).trans rfl;have B:w2.cell? ⟨g,18,none⟩=some (.int .u8 b):=(bv hB 18).trans rfl;have C:w2.cell? ⟨g,19,none⟩=some (.int .u8 d):=(bv hB 19).trans rfl;have D:w2.cell? ⟨g,20,none⟩=some (.int .u8 e):=(bv hB 20).trans rfl;clear hB;clear _t tok1_1) | (have _t:=tok1_2;refine g7 rfl 225 _ _ rfl gp rfl _ rfl _ _ hBp jT rfl (by simp[Value.oneCell']) ?_;intro w3 hB3 hu3;clear _t tok1_2))
  refine tV rfl rfl gp _ _ _ _ rfl hB3 Tryz.underlying225 rfl jT ?_
  exact hpost.out _ (hu1.step (hu2.fresh1 hu3 hgp))
open Go.RowKit
theorem i8:∀ (xs ys:List Int),xs.length=ys.length→((List.range xs.length).all fun i=>xs.getD i 0==ys.getD i 0)=(xs==ys)
  | [],[],_=>rfl
  | x :: xs,y :: ys,h=>by
    have ih:=i8 xs ys (by simpa using h)
    rw[List.length_cons,List.range_succ_eq_map,List.all_cons,List.all_map]
    simp only[List.getD_cons_zero,Function.comp_def,List.getD_cons_succ,ih]
    simp[List.cons_beq_cons]
  | [],_ :: _,h=>by simp at h
  | _ :: _,[],h=>by simp at h
theorem mW{P:Program}(w:World)(t e:TypeId)(k:IntKind)(n:Nat)(ht:P.underlying t=some (.array n e))(he:P.underlying e=some (.int k))(hsz:∀ w,(sizeOf e).run P w = .ok 1 w)
    (xs ys:List Int) (hx:xs.length=n) (hy:ys.length=n) :
    (binOp .eql t (.agg (xs.map (Value.int k)).toArray) (.agg (ys.map (Value.int k)).toArray)).run P w = .ok (.bool (xs==ys)) w:=by
  rw[run_eql_struct]
  suffices h:(Op.equalIn 10000 t (.agg (xs.map (Value.int k)).toArray) (.agg (ys.map (Value.int k)).toArray)).run P w = .ok (xs==ys) w by
    rw[h]
    rfl
  rw[show(10000:Nat)=9998+2 from rfl]
  rw[← i8 xs ys (hx.trans hy.symm),hx,List.range_eq_range',Op.equalIn]
  simp only[Sem.run_bind,run_underlying ht,Result.andThen_ok,hsz,Std.Legacy.Range.forIn_eq_forIn_range',Std.Legacy.Range.size,Nat.sub_zero,Nat.add_sub_cancel,Nat.div_one]
  have hl:∀ i∈List.range' 0 n 1,i<n:=fun i hi=>by simpa using (List.mem_range'_1.1 hi).2
  generalize List.range' 0 n 1=l at hl ⊢
  induction l with
  | nil=>simp
  | cons i l ih =>
    have hi:i<n:=hl i (by simp)
    have px:(part e (xs.map (Value.int k)).toArray (i*1)).run P w = .ok (Value.int k (xs.getD i 0)) w:=by
      simp[part,isAgg,run_underlying he,List.getD,List.getElem?_eq_getElem (show i<xs.length by omega)]
    have py:(part e (ys.map (Value.int k)).toArray (i*1)).run P w = .ok (Value.int k (ys.getD i 0)) w:=by
      simp[part,isAgg,run_underlying he,List.getD,List.getElem?_eq_getElem (show i<ys.length by omega)]
    have pe:(Op.equalIn (9998+1) e (Value.int k (xs.getD i 0)) (Value.int k (ys.getD i 0))).run P w = .ok (xs.getD i 0==ys.getD i 0) w:=run_equalIn_int w 9998 e k k _ _ he
    simp only[List.forIn_cons,Sem.run_bind,px,py,pe,Result.andThen_ok,List.all_cons]
    cases hb:(xs.getD i 0==ys.getD i 0)
    · simp
    · simp only[Bool.not_true,Bool.false_eq_true,if_false,Sem.run_pure,Result.andThen_ok,Bool.true_and]
      exact ih fun j hj=>hl j (by simp[hj])
theorem uD{A B:aQ}(ha:fq A)(hb:fq B) : dQ A=dQ B↔A = { B with words:=A.words,bits:=A.bits,data:=A.data,recs:=A.recs,objects:=A.objects }:=by
  obtain⟨_,_,_,_,_,_,_,_,_,_,_,_,a1,a2,a3,a4,_⟩:=ha
  obtain⟨_,_,_,_,_,_,_,_,_,_,_,_,b1,b2,b3,b4,_⟩:=hb
  cases A;cases B
  simp only[B8] at a1 a2 a3 a4 b1 b2 b3 b4
  simp only[dQ,List.cons.injEq,and_true,aQ.mk.injEq,true_and]
  constructor
  · rintro⟨h1,h2,h3,h4,h5,h6,h7,h8,h9,a,b,c,e,f,d⟩
    refine⟨h1,h2,h3,h4,h5,h6,h7,h8,h9,a,b,c,?_,?_,?_,?_,d⟩<;>omega
  · rintro⟨h1,h2,h3,h4,h5,h6,h7,h8,h9,a,b,c,e,f,d,h,g⟩
    refine⟨h1,h2,h3,h4,h5,h6,h7,h8,h9,a,b,c,?_,?_,g⟩<;>omega
theorem x8{A B:aQ}(ha:fq A)(hb:fq B) : A=B↔dQ A=dQ B∧A.words=B.words∧A.bits=B.bits∧A.data=B.data∧A.recs=B.recs∧A.objects=B.objects:=by
  rw[uD ha hb]
  constructor
  · rintro rfl
    exact⟨rfl,rfl,rfl,rfl,rfl,rfl⟩
  · rintro⟨h1,h2,h3,h4,h5,h6⟩
    rw[h1,h2,h3,h4,h5,h6]
open Go.RowKit
theorem nH{ev:Operand→Value}{o:Oper}{x y:Operand}{t:TypeId}{A B:aQ}{w:World}(ho:o.op = .binOp .eql 225 x y t)(hx:ev x = .agg (gc A))(hy:ev y = .agg (gc B)) :
    (execOp ev o).run Tryz.prog w = .ok (.value (.bool (dQ A==dQ B))) w:=by
  have hg:(eqGuard .eql 225 x y (.agg (gc A)) (.agg (gc B))).run Tryz.prog w = .ok () w:=run_eqGuard_agg w .eql _ x y _ _ (by kernel_rfl)
  have he:(binOp .eql 225 (.agg (gc A)) (.agg (gc B))).run Tryz.prog w = .ok (.bool (dQ A==dQ B)) w:=mW (P:=Tryz.prog) w 225 24 .u16 15 Tryz.underlying225 Tryz.underlying24 (fun w=>by kernel_rfl) (dQ A) (dQ B) rfl rfl
  unfold execOp
  simp only[ho,hx,hy,Sem.run_bind,hg,he,Sem.run_pure,Result.andThen]
theorem fV{A B:aQ}(ha:fq A)(hb:fq B) : decide (A=B)=(dQ A==dQ B&&(decide (A.words=B.words)&&(decide (A.bits=B.bits)&&(decide (A.data=B.data)&&(decide (A.recs=B.recs)&&decide (A.objects=B.objects)))))):=by
  rw[Bool.eq_iff_iff]
  simp only[Bool.and_eq_true,decide_eq_true_eq,beq_iff_eq]
  exact x8 ha hb
theorem fY{m m':Md}{pc qc:Array Value}{A B:aQ}{w:World}(ha:aL m w pc.toList A)(hb:aL m' w qc.toList B) :
    Calls Tryz.prog 165 #[.agg pc,.agg qc] w (dA (decide (A=B)) w):=by
 have pM:=ha
 obtain⟨pvw,pvb,pvd,pvr,pvo,ph0,phw,phb,phd,phr,pho,pR⟩:=ha
 obtain rfl:pc=(bM A pvw pvb pvd pvr pvo).toArray:=by apply Array.toList_inj.1;simpa using ph0
 clear ph0
 obtain⟨pw,pkw,rfl,_,_⟩:=phw.shape
 obtain⟨pb,pkb,rfl,_,_⟩:=phb.shape
 obtain⟨pd,pkd,rfl,_,_⟩:=phd.shape
 obtain⟨pr,pkr,rfl,_,_⟩:=phr.shape
 obtain⟨po,pko,rfl,_,_⟩:=pho.shape
 have qM:=hb
 obtain⟨qvw,qvb,qvd,qvr,qvo,qh0,qhw,qhb,qhd,qhr,qho,qR⟩:=hb
 obtain rfl:qc=(bM B qvw qvb qvd qvr qvo).toArray:=by apply Array.toList_inj.1;simpa using qh0
 clear qh0
 obtain⟨qw,qkw,rfl,_,_⟩:=qhw.shape
 obtain⟨qb,qkb,rfl,_,_⟩:=qhb.shape
 obtain⟨qd,qkd,rfl,_,_⟩:=qhd.shape
 obtain⟨qr,qkr,rfl,_,_⟩:=qhr.shape
 obtain⟨qo,qko,rfl,_,_⟩:=qho.shape
 refine en 47 Tryz.func165 rfl<|sg<|L0<|dq (mG A.code A.fail A.addr A.count A.value A.and_ A.or_ A.addr2 A.sub A.status A.events A.messages (.slice pw A.words.length pkw) (.slice pb A.bits.length pkb) (.slice pd A.data.length pkd) (.slice pr A.recs.length pkr) A.mei A.kind A.level A.more A.next (.slice po A.objects.length pko)) fun k aj ak ab ac=>L0<|dq (mG B.code B.fail B.addr B.count B.value B.and_ B.or_ B.addr2 B.sub B.status B.events B.messages (.slice qw B.words.length qkw) (.slice qb B.bits.length qkb) (.slice qd B.data.length qkd) (.slice qr B.recs.length qkr) B.mei B.kind B.level B.more B.next (.slice qo B.objects.length qko)) fun l al am ad X=>Pl 1<|nt<|sq<|Rg 43 (fun w'=>w'.heap[k]? = some (.cells (mG A.code A.fail A.addr A.count A.value A.and_ A.or_ A.addr2 A.sub A.status A.events A.messages (.slice pw A.words.length pkw) (.slice pb A.bits.length pkb) (.slice pd A.data.length pkd) (.slice pr A.recs.length pkr) A.mei A.kind A.level A.more A.next (.slice po A.objects.length pko)) 30 (0,0))∧w'.heap[l]? = some (.cells (mG B.code B.fail B.addr B.count B.value B.and_ B.or_ B.addr2 B.sub B.status B.events B.messages (.slice qw B.words.length qkw) (.slice qb B.bits.length qkb) (.slice qd B.data.length qkd) (.slice qr B.recs.length qkr) B.mei B.kind B.level B.more B.next (.slice qo B.objects.length qko)) 30 (0,0))∧w'.cell? ⟨k,12,none⟩=some (.slice pw A.words.length pkw)∧w'.cell? ⟨l,12,none⟩=some (.slice qw B.words.length qkw)∧w'.cell? ⟨k,13,none⟩=some (.slice pb A.bits.length pkb)∧w'.cell? ⟨l,13,none⟩=some (.slice qb B.bits.length qkb)∧w'.cell? ⟨k,14,none⟩=some (.slice pd A.data.length pkd)∧aT false w' (.slice pd A.data.length pkd) A.data∧w'.cell? ⟨l,14,none⟩=some (.slice qd B.data.length qkd)∧aT false w' (.slice qd B.data.length qkd) B.data∧w'.cell? ⟨k,15,none⟩=some (.slice pr A.recs.length pkr)∧w'.cell? ⟨l,15,none⟩=some (.slice qr B.recs.length qkr)∧w'.cell? ⟨k,21,none⟩=some (.slice po A.objects.length pko)∧w'.cell? ⟨l,21,none⟩=some (.slice qo B.objects.length qko)) fun an U=>?_
 have o:=ub (aF X U) ab
 have p:=ub U ad
 have Q:=aF (aF ac X) U
 have Y:=aT.old phd Q
 have Z:=aT.old qhd Q
 refine bg ⟨o,p,(ag o rfl),(ag p rfl),(ag o rfl),(ag p rfl),(ag o rfl),(aK.any Y (fun _ _ h=>h)),(ag p rfl),(aK.any Z (fun _ _ h=>h)),(ag o rfl),(ag p rfl),(ag o rfl),(ag p rfl)⟩ fun a0=>Rr 0 a0 (.agg (mG A.code A.fail A.addr A.count A.value A.and_ A.or_ A.addr2 A.sub A.status A.events A.messages (.slice pw A.words.length pkw) (.slice pb A.bits.length pkb) (.slice pd A.data.length pkd) (.slice pr A.recs.length pkr) A.mei A.kind A.level A.more A.next (.slice po A.objects.length pko))) (fun w' hs=>gM (g:=k) (off:=0) [.int .u8 A.code,.int .u8 A.fail,.int .u16 A.addr,.int .u16 A.count,.int .u16 A.value,.int .u16 A.and_,.int .u16 A.or_,.int .u16 A.addr2,.int .u16 A.sub,.int .u16 A.status,.int .u16 A.events,.int .u16 A.messages,.slice pw A.words.length pkw,.slice pb A.bits.length pkb,.slice pd A.data.length pkd,.slice pr A.recs.length pkr,.int .u8 A.mei,.int .u8 A.kind,.int .u8 A.level,.int .u8 A.more,.int .u8 A.next,.slice po A.objects.length pko] rfl (by kernel_rfl) hs.1 (by kernel_rfl) (by kernel_rfl) rfl)<|Rr 2 a0 (.agg (mG B.code B.fail B.addr B.count B.value B.and_ B.or_ B.addr2 B.sub B.status B.events B.messages (.slice qw B.words.length qkw) (.slice qb B.bits.length qkb) (.slice qd B.data.length qkd) (.slice qr B.recs.length qkr) B.mei B.kind B.level B.more B.next (.slice qo B.objects.length qko))) (fun w' hs=>gM (g:=l) (off:=0) [.int .u8 B.code,.int .u8 B.fail,.int .u16 B.addr,.int .u16 B.count,.int .u16 B.value,.int .u16 B.and_,.int .u16 B.or_,.int .u16 B.addr2,.int .u16 B.sub,.int .u16 B.status,.int .u16 B.events,.int .u16 B.messages,.slice qw B.words.length qkw,.slice qb B.bits.length qkb,.slice qd B.data.length qkd,.slice qr B.recs.length qkr,.int .u8 B.mei,.int .u8 B.kind,.int .u8 B.level,.int .u8 B.more,.int .u8 B.next,.slice qo B.objects.length qko] rfl (by kernel_rfl) hs.2.1 (by kernel_rfl) (by kernel_rfl) rfl)<|?_
 refine R0 1 rfl<|Oc<|m1 (lS (aL.old pM Q)) fun ao I=>?_
 have q:=ub I o
 have r:=ub I p
 have a1:=aT.old Y I
 have a2:=aT.old Z I
 refine bg ⟨q,r,(ag q rfl),(ag r rfl),(ag q rfl),(ag r rfl),(ag q rfl),(aK.any a1 (fun _ _ h=>h)),(ag r rfl),(aK.any a2 (fun _ _ h=>h)),(ag q rfl),(ag r rfl),(ag q rfl),(ag r rfl)⟩ fun ap=>?_
 have a3:=aF Q I
 refine R0 3 rfl<|Oc<|m1 (lS (aL.old qM a3)) fun aq J=>?_
 have s:=ub J q
 have t:=ub J r
 have a4:=aT.old a1 J
 have a5:=aT.old a2 J
 refine bg ⟨s,t,(ag s rfl),(ag t rfl),(ag s rfl),(ag t rfl),(ag s rfl),(aK.any a4 (fun _ _ h=>h)),(ag t rfl),(aK.any a5 (fun _ _ h=>h)),(ag s rfl),(ag t rfl),(ag s rfl),(ag t rfl)⟩ fun e=>Rr 4 e (.bool (dQ A==dQ B)) (fun _ _=>nH rfl (by kernel_rfl) (by kernel_rfl))<|Rt 5 e<|?_
 have R:=aF a3 J
 refine rN 10 ((dQ A==dQ B)) (fun u=>?_) (fun u=>?_)
 refine Rt 6 e<|Rl 7 e (fun _ hs=>hs.2.2.1)<|Rt 8 e<|Rl 9 e (fun _ hs=>hs.2.2.2.1)<|?_
 refine R0 10 rfl<|Oc<|m1 (qv (e8.old phw R) (e8.old qhw R)) fun ar K=>?_
 have v:=ub K s
 have x:=ub K t
 have a6:=aT.old a4 K
 have a7:=aT.old a5 K
 refine bg ⟨v,x,(ag v rfl),(ag x rfl),(ag v rfl),(ag x rfl),(ag v rfl),(aK.any a6 (fun _ _ h=>h)),(ag x rfl),(aK.any a7 (fun _ _ h=>h)),(ag v rfl),(ag x rfl),(ag v rfl),(ag x rfl)⟩ fun f=>Rt 11 f<|Rt 12 f<|?_
 have S:=aF R K
 refine rN 17 ((decide (A.words=B.words))) (fun j=>?_) (fun j=>?_)
 have ae:=of_decide_eq_true j
 refine Rt 13 f<|Rl 14 f (fun _ hs=>hs.2.2.2.2.1)<|Rt 15 f<|Rl 16 f (fun _ hs=>hs.2.2.2.2.2.1)<|?_
 refine R0 17 rfl<|Oc<|m1 (vD (gI.old phb S) (gI.old qhb S)) fun au L=>?_
 have y:=ub L v
 have z:=ub L x
 have V:=aT.old a6 L
 have W:=aT.old a7 L
 refine bg ⟨y,z,(ag y rfl),(ag z rfl),(ag y rfl),(ag z rfl),(ag y rfl),(aK.any V (fun _ _ h=>h)),(ag z rfl),(aK.any W (fun _ _ h=>h)),(ag y rfl),(ag z rfl),(ag y rfl),(ag z rfl)⟩ fun d=>Rt 18 d<|Rt 19 d<|?_
 have M:=aF S L
 refine rN 24 ((decide (A.bits=B.bits))) (fun C=>?_) (fun C=>?_)
 have af:=of_decide_eq_true C
 refine Rt 20 d<|Rl 21 d (fun _ hs=>hs.2.2.2.2.2.2.1)<|Rr 22 d (.string (strOfNums A.data)) (fun _ hs=>cL (A:=pd) (n:=A.data.length) (c:=pkd) rfl (by kernel_rfl) Tryz.underlying22 Tryz.underlying5 Tryz.underlying9 hs.2.2.2.2.2.2.2.1)<|Rt 23 d<|Rl 24 d (fun _ hs=>hs.2.2.2.2.2.2.2.2.1)<|Rr 25 d (.string (strOfNums B.data)) (fun _ hs=>cL (A:=qd) (n:=B.data.length) (c:=qkd) rfl (by kernel_rfl) Tryz.underlying22 Tryz.underlying5 Tryz.underlying9 hs.2.2.2.2.2.2.2.2.2.1)<|Rr 26 d (.bool (decide (A.data=B.data))) (fun _ _=>eY (a:=(strOfNums A.data)) (b:=(strOfNums B.data)) rfl (by kernel_rfl) (by kernel_rfl) (iv V W))<|Rt 27 d<|Rt 28 d<|rN 33 ((decide (A.data=B.data))) (fun F=>?_) (fun F=>?_)
 have ah:=of_decide_eq_true F
 refine Rt 29 d<|Rl 30 d (fun _ hs=>hs.2.2.2.2.2.2.2.2.2.2.1)<|Rt 31 d<|Rl 32 d (fun _ hs=>hs.2.2.2.2.2.2.2.2.2.2.2.1)<|?_
 refine R0 33 rfl<|Oc<|m1 (vx (mr.old phr M) (mr.old qhr M)) fun av N=>?_
 have D:=ub N y
 have E:=ub N z
 have a8:=aT.old V N
 have a9:=aT.old W N
 refine bg ⟨D,E,(ag D rfl),(ag E rfl),(ag D rfl),(ag E rfl),(ag D rfl),(aK.any a8 (fun _ _ h=>h)),(ag E rfl),(aK.any a9 (fun _ _ h=>h)),(ag D rfl),(ag E rfl),(ag D rfl),(ag E rfl)⟩ fun i=>Rt 34 i<|Rt 35 i<|?_
 have T:=aF M N
 refine rN 40 ((decide (A.recs=B.recs))) (fun O=>?_) (fun O=>?_)
 have ai:=of_decide_eq_true O
 refine Rt 36 i<|Rl 37 i (fun _ hs=>hs.2.2.2.2.2.2.2.2.2.2.2.2.1)<|Rt 38 i<|Rl 39 i (fun _ hs=>hs.2.2.2.2.2.2.2.2.2.2.2.2.2)<|?_
 refine R0 40 rfl<|Oc<|m1 (uP (nW.old pho T) (nW.old qho T)) fun aw P=>?_
 have G:=ub P D
 have H:=ub P E
 refine bg ⟨G,H,(ag G rfl),(ag H rfl),(ag G rfl),(ag H rfl),(ag G rfl),(aK.any (aT.old a8 P) (fun _ _ h=>h)),(ag H rfl),(aK.any (aT.old a9 P) (fun _ _ h=>h)),(ag G rfl),(ag H rfl),(ag G rfl),(ag H rfl)⟩ fun aa=>Rt 41 aa<|Rt 42 aa<|re<|tn<|rt<|rr (.bool (decide (A.objects=B.objects)))<|?_
 have hs:decide (A=B)=(decide (A.objects=B.objects)):=by
   rw[fV pR qR]
   (try simp only[u,j,C,F,O,bs,if_true,if_false,decide_true,decide_false])
 rw[hs]
 exact⟨rfl,(aF T P)⟩
 have ai:=of_decide_eq_false O
 refine Ro 36 i<|Ro 37 i<|Ro 38 i<|Ro 39 i<|Ro 40 i<|Rt 41 i<|Rt 42 i<|re<|tn<|rt<|rr (.bool false)<|?_
 have hs:decide (A=B)=false:=by
   rw[fV pR qR]
   (try simp only[u,j,C,F,O,bs,if_true,if_false,decide_true,decide_false])
 rw[hs]
 exact⟨rfl,T⟩
 have ah:=of_decide_eq_false F
 refine Ro 29 d<|Ro 30 d<|Ro 31 d<|Ro 32 d<|Ro 33 d<|Rt 34 d<|Rt 35 d<|Ro 36 d<|Ro 37 d<|Ro 38 d<|Ro 39 d<|Ro 40 d<|Rt 41 d<|Rt 42 d<|?_
 refine re<|tn<|rt<|rr (.bool false)<|?_
 have hs:decide (A=B)=false:=by
   rw[fV pR qR]
   (try simp only[u,j,C,F,bs,if_true,if_false,decide_true,decide_false])
 rw[hs]
 exact⟨rfl,M⟩
 have af:=of_decide_eq_false C
 refine Ro 20 d<|Ro 21 d<|Ro 22 d<|Ro 23 d<|Ro 24 d<|Ro 25 d<|Ro 26 d<|Rt 27 d<|Rt 28 d<|Ro 29 d<|Ro 30 d<|Ro 31 d<|Ro 32 d<|Ro 33 d<|?_
 refine Rt 34 d<|Rt 35 d<|Ro 36 d<|Ro 37 d<|Ro 38 d<|Ro 39 d<|Ro 40 d<|Rt 41 d<|Rt 42 d<|re<|tn<|rt<|rr (.bool false)<|?_
 have hs:decide (A=B)=false:=by
   rw[fV pR qR]
   (try simp only[u,j,C,bs,if_true,if_false,decide_true,decide_false])
 rw[hs]
 exact⟨rfl,M⟩
 have ae:=of_decide_eq_false j
 refine Ro 13 f<|Ro 14 f<|Ro 15 f<|Ro 16 f<|Ro 17 f<|Rt 18 f<|Rt 19 f<|Ro 20 f<|Ro 21 f<|Ro 22 f<|Ro 23 f<|Ro 24 f<|Ro 25 f<|Ro 26 f<|?_
 refine Rt 27 f<|Rt 28 f<|Ro 29 f<|Ro 30 f<|Ro 31 f<|Ro 32 f<|Ro 33 f<|Rt 34 f<|Rt 35 f<|Ro 36 f<|Ro 37 f<|Ro 38 f<|Ro 39 f<|Ro 40 f<|?_
 refine Rt 41 f<|Rt 42 f<|re<|tn<|rt<|rr (.bool false)<|?_
 have hs:decide (A=B)=false:=by
   rw[fV pR qR]
   (try simp only[u,j,bs,if_true,if_false,decide_true,decide_false])
 rw[hs]
 exact⟨rfl,S⟩
 refine Ro 6 e<|Ro 7 e<|Ro 8 e<|Ro 9 e<|Ro 10 e<|Rt 11 e<|Rt 12 e<|Ro 13 e<|Ro 14 e<|Ro 15 e<|Ro 16 e<|Ro 17 e<|Rt 18 e<|Rt 19 e<|?_
 refine Ro 20 e<|Ro 21 e<|Ro 22 e<|Ro 23 e<|Ro 24 e<|Ro 25 e<|Ro 26 e<|Rt 27 e<|Rt 28 e<|Ro 29 e<|Ro 30 e<|Ro 31 e<|Ro 32 e<|Ro 33 e<|?_
 refine Rt 34 e<|Rt 35 e<|Ro 36 e<|Ro 37 e<|Ro 38 e<|Ro 39 e<|Ro 40 e<|Rt 41 e<|Rt 42 e<|re<|tn<|rt<|rr (.bool false)<|?_
 have hs:decide (A=B)=false:=by
   rw[fV pR qR]
   (try simp only[u,bs,if_true,if_false,decide_true,decide_false])
 rw[hs]
 exact⟨rfl,R⟩
open Go.RowKit
def ig (Q:World→Ending→World→Prop)(w:World)(e:Ending)(w':World) : Prop:=∃ F free,e = .returned (.func (.func F) #[] free)∧xI Tryz.prog F=some (false,true)∧aD [] w w'∧Calls Tryz.prog F free w' (Q w')
theorem mh{g:Nat}{C:ah}{w:World}{a most:Int}(hC:aj w g C)(ha:0≤a∧a<65536) :
    Calls Tryz.prog 237 #[.pointer (some ⟨g,0,none⟩),.int .u16 a,.int .i64 most] w (lU g .i64 65536 C.wordV (bK C a most) w):=by
 have hlen:=hC.len
 have hrr:=hC.wordV
 refine en 26 Tryz.func237 rfl<|sg<|Pl 1<|ng<|Pl 1<|L0<|Oc<|m3 (bR hC) fun l d e m=>L0<|Oi C.wordV<|Pl 1<|nt<|?_
 refine sg<|Pl 4<|cu 4 [14] 18 (((decide (1≤C.wordV))&&(decide (C.wordV≤most)))) (fun K c=>?_) ?_
 refine bl 14 ((decide (1≤C.wordV))) (fun b=>?_) (fun b=>?_)
 have f:=of_decide_eq_true b
 exact Pl 4<|ce c (decide (C.wordV≤most)) (by rw[b];rfl)
 have f:=of_decide_eq_false b
 exact Pl 4<|ce c false (by rw[b];rfl)
 refine L0<|Oc<|m2 (bf (((decide (1≤C.wordV))&&(decide (C.wordV≤most)))) 5 d) fun o h i=>ng<|Pl 3<|L0<|Oc<|mq (ie (a:=a) (n:=C.wordV) (by omega))<|L0<|Oc<|m2 (bf ((dp a C.wordV)) 7 h) fun p j k=>ng<|Pl 2<|nl<|?_
 refine tn<|rt<|rr (.int .i64 C.wordV)<|?_
 have hs:bK C a most=(((C.wordsC 1).need ((decide (1≤C.wordV))&&(decide (C.wordV≤most))) 5).need (dp a C.wordV) 7):=by
   unfold bK
   (try simp only[bs,if_true,if_false,decide_true,decide_false,reduceIte])
   all_goals rfl
 rw[hs]
 exact⟨rfl,j,(u1 e (u1 i k im) im),hrr⟩
theorem jt{g:Nat}{C:ah}{w:World}{n:Int}(hC:aj w g C)(hn:0≤n∧n<65536) :
    Calls Tryz.prog 242 #[.pointer (some ⟨g,0,none⟩),.int .i64 n] w (fun e w'=>∃ v,e = .returned v∧jy w.heap.size w' v ((de C n).wordsR n)∧aj w' g ((de C n).wordsC n)∧aD [g] w w'):=by
 have hlen:=hC.len
 refine en 16 Tryz.func242 rfl<|sg<|Pl 1<|ng<|Pl 2<|L0<|Oc<|m3 (bS hC) fun l c a m=>L0<|Oi C.byteV<|Pl 1<|L0<|Oi (2*n)<|Pl 1<|L0<|Oc<|m2 (bf ((C.byteV==(2*n))) 5 c) fun o d b=>?_
 refine ng<|Pl 2<|L0<|Oc<|mF (eb (n:=n) d) fun f h p i q r j k=>Pl 1<|nt<|rt<|rr (.slice f ((((C.bytesC 1).need (C.byteV==(2*n)) 5).wordsR n).length) h)<|?_
 have hs:de C n=((C.bytesC 1).need (C.byteV==(2*n)) 5):=by
   unfold de
   (try simp only[bs,if_true,if_false,decide_true,decide_false,reduceIte])
   all_goals rfl
 rw[hs]
 exact⟨_,rfl,(be.weaken i (le a.size b.size)),j,(u1 a (u1 b k im) im)⟩
theorem gY{most:Int}{g gm:Nat}{c:Int}{C:ah}{w:World}(hcode:B8 c)(hC:aj w g C)(hm:w.heap[gm]? = some (.cells (mC c) 30 (0,0)))(hne:g≠gm){bc:Nat}{bm:Nat}(hbc:w.heap[bc]? = some (.cells #[.pointer (some ⟨g,0,none⟩)] 113 (0,0)))(n_bc_g:bc≠g)(n_bc_gm:bc≠gm)(hbm:w.heap[bm]? = some (.cells #[.pointer (some ⟨gm,0,none⟩)] 161 (0,0)))(n_bm_g:bm≠g)(n_bm_gm:bm≠gm) :
    Calls Tryz.prog 236 #[.int .i64 most,.pointer (some ⟨bc,0,none⟩),.pointer (some ⟨bm,0,none⟩)] w (pk g gm (bK (C.wordsC 1) C.wordV most) (mG c 0 C.wordV (C.wordsC 1).wordV 0 0 0 0 0 0 0 0 nS nS nS nS 0 0 0 0 0 nS) w):=by
 obtain⟨hcode1,hcode2⟩:=hcode
 have hlen:=hC.len
 refine en 20 Tryz.func236 rfl<|sq<|Rg 6 (fun w'=>w'.cell? ⟨bm,0,none⟩=some (.pointer (some ⟨gm,0,none⟩))∧w'.cell? ⟨bc,0,none⟩=some (.pointer (some ⟨g,0,none⟩))) fun I d=>?_
 have m:=ub d hbm
 have n:=ub d hbc
 refine bg ⟨(ag m rfl),(ag n rfl)⟩ fun o=>Rl 0 o (fun _ hs=>hs.1)<|Rl 1 o (fun _ hs=>hs.2)<|?_
 refine R0 2 rfl<|Oc<|m3 (bR (aj.old hC d)) fun J F i K=>?_
 have p:=aX i n_bm_g m
 have q:=aX i n_bc_g n
 refine bg ⟨(ag p rfl),(ag q rfl)⟩ fun r=>Rt 3 r<|Rt 4 r<|?_
 have s:=uz d i
 have t:=aX s (Ne.symm hne) hm
 refine R0 5 rfl<|bX t 2 (mG c 0 C.wordV 0 0 0 0 0 0 0 0 0 nS nS nS nS 0 0 0 0 0 nS) fun L G j=>?_
 have u:=aX j n_bm_gm p
 have v:=aX j n_bc_gm q
 refine bg ⟨(ag u rfl),(ag v rfl)⟩ fun M=>re<|tn<|Rg 12 (fun w'=>w'.cell? ⟨bm,0,none⟩=some (.pointer (some ⟨gm,0,none⟩))∧w'.cell? ⟨bc,0,none⟩=some (.pointer (some ⟨g,0,none⟩))∧w'.cell? ⟨gm,2,none⟩=some (.int .u16 C.wordV)) fun N e=>?_
 have x:=ub e u
 have y:=ub e v
 have z:=ub e G
 refine bg ⟨(ag x rfl),(ag y rfl),(ag z rfl)⟩ fun b=>Rl 0 b (fun _ hs=>hs.1)<|Rl 1 b (fun _ hs=>hs.2.1)<|Rl 2 b (fun _ hs=>hs.1)<|Rt 3 b<|Rt 4 b<|Rl 5 b (fun _ hs=>hs.2.2)<|Rt 6 b<|?_
 have A:=aF j e
 refine R0 7 rfl<|Oc<|m3 (mh (a:=C.wordV) (most:=most) (aj.upd F A (aa hne ay) (ak (aM t (by decide)) aG)) (by omega)) fun O H f P=>?_
 have B:=aX f n_bm_g x
 have D:=aX f n_bc_g y
 have k:=aX f (Ne.symm hne) z
 refine bg ⟨(ag B rfl),(ag D rfl),(ag k rfl)⟩ fun l=>Rr 8 l (.int .u16 ((C.wordsC 1).wordV)) (fun _ _=>cg (.int .u16 (IntKind.u16.wrap ((C.wordsC 1).wordV))) (by kernel_rfl) (congrArg (Value.int .u16) (gN (by omega))))<|Rt 9 l<|Rt 10 l<|R0 11 rfl<|bX k 3 (mG c 0 C.wordV ((C.wordsC 1).wordV) 0 0 0 0 0 0 0 0 nS nS nS nS 0 0 0 0 0 nS) fun Q E h=>?_
 refine bg ⟨(ag (aX h n_bm_gm B) rfl),(ag (aX h n_bc_gm D) rfl),(ag E rfl)⟩ fun R=>re<|rm (.tuple #[])<|?_
 exact⟨rfl,(aj.upd H h (aa hne ay) (ak (aM k (by decide)) aG)),E,(ui s (ui A (us f h)))⟩
theorem zv{g gm:Nat}{c:Int}{C:ah}{w:World}(hcode:B8 c)(hC:aj w g C)(hm:w.heap[gm]? = some (.cells (mC c) 30 (0,0)))(hne:g≠gm){bc:Nat}{bm:Nat}{bw:Nat}(hbc:w.heap[bc]? = some (.cells #[.pointer (some ⟨g,0,none⟩)] 113 (0,0)))(n_bc_g:bc≠g)(n_bc_gm:bc≠gm)(hbm:w.heap[bm]? = some (.cells #[.pointer (some ⟨gm,0,none⟩)] 161 (0,0)))(n_bm_g:bm≠g)(n_bm_gm:bm≠gm)(hbw:w.heap[bw]? = some (.cells #[.func (.func 236) #[] #[.pointer (some ⟨bc,0,none⟩),.pointer (some ⟨bm,0,none⟩)]] 239 (0,0)))(n_bw_g:bw≠g)(n_bw_gm:bw≠gm) :
    Calls Tryz.prog 238 #[.pointer (some ⟨bw,0,none⟩)] w (cE g gm (bJ 125 c C).1 (bJ 125 c C).2 w):=by
 obtain⟨hcode1,hcode2⟩:=hcode
 have hlen:=hC.len
 refine en 3 Tryz.func238 rfl<|go<|L0<|aU hbw 0<|L0<|fN #[] #[.pointer (some ⟨bc,0,none⟩),.pointer (some ⟨bm,0,none⟩)] (args:=#[.int .i64 125,.pointer (some ⟨bc,0,none⟩),.pointer (some ⟨bm,0,none⟩)])<|m3 (gY (most:=125) ⟨hcode1,hcode2⟩ hC hm hne hbc n_bc_g n_bc_gm hbm n_bm_g n_bm_gm) fun e a b d=>?_
 have f:=(hC).wordV
 have h:=bU (cN (hC).rng 1)
 refine nl<|rm (.tuple #[])<|?_
 have hs:bJ 125 c C=((bK (C.wordsC 1) C.wordV 125),(aQ.mk c 0 C.wordV ((C.wordsC 1).wordV) 0 0 0 0 0 0 0 0 [] [] [] [] 0 0 0 0 0 [])):=by
   unfold bJ
   (try simp only[bs,if_true,if_false,decide_true,decide_false,reduceIte])
   all_goals rfl
 rw[hs]
 exact⟨rfl,a,⟨_,⟨b,rfl⟩,⟨_,_,_,_,_,rfl,aK.nil ..,aK.nil ..,aK.nil ..,aK.nil ..,aK.nil ..,⟨(b8 (x:=c) (by omega)),(b8 (x:=0) (by omega)),(aB (x:=C.wordV) (by omega)),(aB (x:=(C.wordsC 1).wordV) (by omega)),(aB (x:=0) (by omega)),(aB (x:=0) (by omega)),(aB (x:=0) (by omega)),(aB (x:=0) (by omega)),(aB (x:=0) (by omega)),(aB (x:=0) (by omega)),(aB (x:=0) (by omega)),(aB (x:=0) (by omega)),(b8 (x:=0) (by omega)),(b8 (x:=0) (by omega)),(b8 (x:=0) (by omega)),(b8 (x:=0) (by omega)),(b8 (x:=0) (by omega))⟩⟩⟩,d⟩
theorem zi{g gm:Nat}{c:Int}{C:ah}{w:World}(hcode:B8 c)(hC:aj w g C)(hm:w.heap[gm]? = some (.cells (mC c) 30 (0,0)))(hne:g≠gm){bc:Nat}{bm:Nat}(hbc:w.heap[bc]? = some (.cells #[.pointer (some ⟨g,0,none⟩)] 113 (0,0)))(n_bc_g:bc≠g)(n_bc_gm:bc≠gm)(hbm:w.heap[bm]? = some (.cells #[.pointer (some ⟨gm,0,none⟩)] 161 (0,0)))(n_bm_g:bm≠g)(n_bm_gm:bm≠gm) :
    Calls Tryz.prog 239 #[.pointer (some ⟨bc,0,none⟩),.pointer (some ⟨bm,0,none⟩)] w (cE g gm (bQ c C).1 (bQ c C).2 w):=by
 obtain⟨hcode1,hcode2⟩:=hcode
 have hlen:=hC.len
 refine en 26 Tryz.func239 rfl<|sg<|L0<|aU hbc 0<|L0<|Oc<|m3 (bS hC) fun N B k O=>L0<|Oi C.byteV<|Pl 1<|ng<|?_
 have l:=aX k n_bc_g hbc
 refine L0<|aU l 0<|Pl 1<|L0<|Oe (.int .i64 (Int.tmod C.byteV 2)) (.int .i64 (C.byteV%2)) (congrArg (Value.int .i64) (Int.tmod_eq_emod_of_nonneg (by omega)))<|Pl 2<|cu 3 [10] 13 ((((C.byteV%2)==0)&&(decide (2≤C.byteV)))) (fun K m=>?_) ?_
 refine bl 10 (((C.byteV%2)==0)) (fun a=>?_) (fun a=>?_)
 have D:=al a
 exact Pl 3<|ce m (decide (2≤C.byteV)) (by rw[a];rfl)
 have D:=ap a
 exact Pl 3<|ce m false (by rw[a];rfl)
 refine Pl 1<|cu 3 [14] 17 (((((C.byteV%2)==0)&&(decide (2≤C.byteV)))&&(decide (C.byteV≤250)))) (fun K o=>?_) ?_
 refine bl 14 ((((C.byteV%2)==0)&&(decide (2≤C.byteV)))) (fun b=>?_) (fun b=>?_)
 have E:=(aR b).1
 have F:=(aR b).2
 have P:=al E
 have Q:=of_decide_eq_true F
 exact Pl 3<|ce o (decide (C.byteV≤250)) (by rw[b];rfl)
 exact Pl 3<|ce o false (by rw[b];rfl)
 refine L0<|Oc<|m2 (bf (((((C.byteV%2)==0)&&(decide (2≤C.byteV)))&&(decide (C.byteV≤250)))) 5 B) fun R G H=>nt<|Rg 8 (fun w'=>w'.cell? ⟨bm,0,none⟩=some (.pointer (some ⟨gm,0,none⟩))∧w'.cell? ⟨bc,0,none⟩=some (.pointer (some ⟨g,0,none⟩))) fun S p=>?_
 have q:=aF H p
 have i:=u1 k q im
 have r:=aX i n_bm_g hbm
 have s:=aX q n_bc_g l
 refine bg ⟨(ag r rfl),(ag s rfl)⟩ fun f=>Rl 0 f (fun _ hs=>hs.1)<|Rl 1 f (fun _ hs=>hs.2)<|Rt 2 f<|Rr 3 f (.int .i64 (C.byteV/2)) (fun _ _=>cg (.int .i64 (IntKind.i64.wrap (Int.tdiv C.byteV 2))) (by kernel_rfl) (congrArg (Value.int .i64) (fA (by omega) (by omega))))<|?_
 refine R0 4 rfl<|Oc<|mF (eb (n:=(C.byteV/2)) (aj.old G p)) fun I J T t U V L j=>?_
 have u:=aX j n_bm_g r
 have v:=aX j n_bc_g s
 refine bg ⟨(ag u rfl),(ag v rfl)⟩ fun y=>Rt 5 y<|Rt 6 y<|?_
 have z:=u1 i j im
 have A:=aX z (Ne.symm hne) hm
 refine R0 7 rfl<|bX A 12 (mG c 0 0 0 0 0 0 0 0 0 0 0 (.slice I ((((C.bytesC 1).need ((((C.byteV%2)==0)&&(decide (2≤C.byteV)))&&(decide (C.byteV≤250))) 5).wordsR (C.byteV/2)).length) J) nS nS nS 0 0 0 0 0 nS) fun W M d=>?_
 refine bg ⟨(ag (aX d n_bm_gm u) rfl),(ag (aX d n_bc_gm v) rfl)⟩ fun X=>re<|rm (.tuple #[])<|?_
 have hs:bQ c C=((((C.bytesC 1).need ((((C.byteV%2)==0)&&(decide (2≤C.byteV)))&&(decide (C.byteV≤250))) 5).wordsC (C.byteV/2)),(aQ.mk c 0 0 0 0 0 0 0 0 0 0 0 (((C.bytesC 1).need ((((C.byteV%2)==0)&&(decide (2≤C.byteV)))&&(decide (C.byteV≤250))) 5).wordsR (C.byteV/2)) [] [] [] 0 0 0 0 0 [])):=by
   unfold bQ qK j7
   (try simp only[bs,if_true,if_false,decide_true,decide_false,reduceIte])
   all_goals rfl
 rw[hs]
 exact⟨rfl,(aj.upd L d (aa hne ay) (ak (aM A (by decide)) aG)),⟨_,⟨M,rfl⟩,⟨_,_,_,_,_,rfl,((ax t d (fun x hx=>(aa (fun e=>(aA (am hm) i.size t) (e▸hx)) ay)) (fun _ _ h=>h))).rd,aK.nil ..,aK.nil ..,aK.nil ..,aK.nil ..,⟨(b8 (x:=c) (by omega)),(b8 (x:=0) (by omega)),(aB (x:=0) (by omega)),(aB (x:=0) (by omega)),(aB (x:=0) (by omega)),(aB (x:=0) (by omega)),(aB (x:=0) (by omega)),(aB (x:=0) (by omega)),(aB (x:=0) (by omega)),(aB (x:=0) (by omega)),(aB (x:=0) (by omega)),(aB (x:=0) (by omega)),(b8 (x:=0) (by omega)),(b8 (x:=0) (by omega)),(b8 (x:=0) (by omega)),(b8 (x:=0) (by omega)),(b8 (x:=0) (by omega))⟩⟩⟩,(us z d)⟩
theorem zu{g gm:Nat}{c:Int}{C:ah}{w:World}(hcode:B8 c)(hC:aj w g C)(hm:w.heap[gm]? = some (.cells (mC c) 30 (0,0)))(hne:g≠gm){bc:Nat}{bm:Nat}(hbc:w.heap[bc]? = some (.cells #[.pointer (some ⟨g,0,none⟩)] 113 (0,0)))(n_bc_g:bc≠g)(n_bc_gm:bc≠gm)(hbm:w.heap[bm]? = some (.cells #[.pointer (some ⟨gm,0,none⟩)] 161 (0,0)))(n_bm_g:bm≠g)(n_bm_gm:bm≠gm) :
    Calls Tryz.prog 240 #[.pointer (some ⟨bc,0,none⟩),.pointer (some ⟨bm,0,none⟩)] w (cE g gm (d6 c C).1 (d6 c C).2 w):=by
 obtain⟨hcode1,hcode2⟩:=hcode
 have hlen:=hC.len
 refine en 12 Tryz.func240 rfl<|Rg 12 (fun w'=>w'.cell? ⟨bm,0,none⟩=some (.pointer (some ⟨gm,0,none⟩))∧w'.cell? ⟨bc,0,none⟩=some (.pointer (some ⟨g,0,none⟩))) fun B a=>?_
 have i:=ub a hbm
 have j:=ub a hbc
 refine bg ⟨(ag i rfl),(ag j rfl)⟩ fun b=>Rl 0 b (fun _ hs=>hs.1)<|Rl 1 b (fun _ hs=>hs.1)<|Rl 2 b (fun _ hs=>hs.2)<|Rl 4 b (fun _ hs=>hs.2)<|?_
 refine R0 3 rfl<|Oc<|m3 (bR (aj.old hC a)) fun D v d E=>?_
 have k:=aX d n_bm_g i
 have l:=aX d n_bc_g j
 refine bg ⟨(ag k rfl),(ag l rfl)⟩ fun F=>R0 5 rfl<|Oc<|m3 (bR v) fun G y e H=>?_
 have m:=aX e n_bm_g k
 have n:=aX e n_bc_g l
 refine bg ⟨(ag m rfl),(ag n rfl)⟩ fun o=>Rt 6 o<|Rt 7 o<|?_
 have p:=uz a (u1 d e im)
 have q:=aX p (Ne.symm hne) hm
 refine R0 8 rfl<|bX q 2 (mG c 0 C.wordV 0 0 0 0 0 0 0 0 0 nS nS nS nS 0 0 0 0 0 nS) fun I z f=>?_
 have r:=aX f n_bm_gm m
 have s:=aX f n_bc_gm n
 refine bg ⟨(ag r rfl),(ag s rfl)⟩ fun t=>Rt 9 t<|Rt 10 t<|R0 11 rfl<|bX z 4 (mG c 0 C.wordV 0 ((C.wordsC 1).wordV) 0 0 0 0 0 0 0 nS nS nS nS 0 0 0 0 0 nS) fun J A h=>?_
 refine bg ⟨(ag (aX h n_bm_gm r) rfl),(ag (aX h n_bc_gm s) rfl)⟩ fun K=>re<|rm (.tuple #[])<|?_
 have hs:d6 c C=(((C.wordsC 1).wordsC 1),(aQ.mk c 0 C.wordV 0 ((C.wordsC 1).wordV) 0 0 0 0 0 0 0 [] [] [] [] 0 0 0 0 0 [])):=by
   unfold d6
   (try simp only[bs,if_true,if_false,decide_true,decide_false,reduceIte])
   all_goals rfl
 rw[hs]
 have u:=u1 f h im
 exact⟨rfl,(aj.upd y u (aa hne ay) (ak (aM q (by decide)) aG)),⟨_,⟨A,rfl⟩,⟨_,_,_,_,_,rfl,aK.nil ..,aK.nil ..,aK.nil ..,aK.nil ..,aK.nil ..,⟨(b8 (x:=c) (by omega)),(b8 (x:=0) (by omega)),(aB (x:=C.wordV) (by omega)),(aB (x:=0) (by omega)),(aB (x:=(C.wordsC 1).wordV) (by omega)),(aB (x:=0) (by omega)),(aB (x:=0) (by omega)),(aB (x:=0) (by omega)),(aB (x:=0) (by omega)),(aB (x:=0) (by omega)),(aB (x:=0) (by omega)),(aB (x:=0) (by omega)),(b8 (x:=0) (by omega)),(b8 (x:=0) (by omega)),(b8 (x:=0) (by omega)),(b8 (x:=0) (by omega)),(b8 (x:=0) (by omega))⟩⟩⟩,(us p u)⟩
theorem yz{ask:Bool}{g gm:Nat}{c:Int}{C:ah}{w:World}(hcode:B8 c)(hC:aj w g C)(hm:w.heap[gm]? = some (.cells (mC c) 30 (0,0)))(hne:g≠gm){bc:Nat}{bm:Nat}{bw:Nat}{ba:Nat}(hbc:w.heap[bc]? = some (.cells #[.pointer (some ⟨g,0,none⟩)] 113 (0,0)))(n_bc_g:bc≠g)(n_bc_gm:bc≠gm)(hbm:w.heap[bm]? = some (.cells #[.pointer (some ⟨gm,0,none⟩)] 161 (0,0)))(n_bm_g:bm≠g)(n_bm_gm:bm≠gm)(hbw:w.heap[bw]? = some (.cells #[.func (.func 236) #[] #[.pointer (some ⟨bc,0,none⟩),.pointer (some ⟨bm,0,none⟩)]] 239 (0,0)))(n_bw_g:bw≠g)(n_bw_gm:bw≠gm)(hba:w.heap[ba]? = some (.cells #[.bool ask] 4 (0,0)))(n_ba_g:ba≠g)(n_ba_gm:ba≠gm)(hask:ask=true) :
    Calls Tryz.prog 241 #[.pointer (some ⟨bw,0,none⟩),.pointer (some ⟨ba,0,none⟩),.pointer (some ⟨bc,0,none⟩),.pointer (some ⟨bm,0,none⟩)] w (cE g gm (cI c C).1 (cI c C).2 w):=by
 obtain⟨hcode1,hcode2⟩:=hcode
 have hlen:=hC.len
 refine en 17 Tryz.func241 rfl<|sg<|L0<|aU hbw 0<|L0<|fN #[] #[.pointer (some ⟨bc,0,none⟩),.pointer (some ⟨bm,0,none⟩)] (args:=#[.int .i64 123,.pointer (some ⟨bc,0,none⟩),.pointer (some ⟨bm,0,none⟩)])<|m3 (gY (most:=123) ⟨hcode1,hcode2⟩ hC hm hne hbc n_bc_g n_bc_gm hbm n_bm_g n_bm_gm) fun B u v k=>?_
 have D:=(hC).wordV
 have E:=bU (cN (hC).rng 1)
 refine ng<|?_
 refine L0<|aU (aD.blk k (aa n_ba_g (aa n_ba_gm ay)) hba) 0<|nt<|ct hask<|Rg 11 (fun w'=>w'.cell? ⟨bm,0,none⟩=some (.pointer (some ⟨gm,0,none⟩))∧w'.cell? ⟨bc,0,none⟩=some (.pointer (some ⟨g,0,none⟩))∧w'.cell? ⟨gm,3,none⟩=some (.int .u16 ((C.wordsC 1).wordV))) fun F i=>?_
 have d:=aF k i
 have l:=aD.blk d (aa n_bm_g (aa n_bm_gm ay)) hbm
 have m:=aD.blk d (aa n_bc_g (aa n_bc_gm ay)) hbc
 have o:=ub i v
 refine bg ⟨(ag l rfl),(ag m rfl),(ag o rfl)⟩ fun a=>Rl 0 a (fun _ hs=>hs.1)<|Rl 1 a (fun _ hs=>hs.2.1)<|Rl 2 a (fun _ hs=>hs.1)<|Rt 3 a<|Rt 4 a<|Rl 5 a (fun _ hs=>hs.2.2)<|Rr 6 a (.int .i64 ((C.wordsC 1).wordV)) (fun _ _=>cg (.int .i64 (IntKind.i64.wrap ((C.wordsC 1).wordV))) (by kernel_rfl) (congrArg (Value.int .i64) (i64_in (by omega))))<|?_
 refine R0 7 rfl<|Oc<|mF (jt (n:=(C.wordsC 1).wordV) (aj.old u i) (by omega)) fun y z G p H I A f=>?_
 have q:=aX f n_bm_g l
 have r:=aX f n_bc_g m
 have j:=aX f (Ne.symm hne) o
 refine bg ⟨(ag q rfl),(ag r rfl),(ag j rfl)⟩ fun s=>Rt 8 s<|Rt 9 s<|R0 10 rfl<|bX j 12 (mG c 0 C.wordV ((C.wordsC 1).wordV) 0 0 0 0 0 0 0 0 (.slice y (((de (bK (C.wordsC 1) C.wordV 123) ((C.wordsC 1).wordV)).wordsR ((C.wordsC 1).wordV)).length) z) nS nS nS 0 0 0 0 0 nS) fun J t b=>?_
 refine bg ⟨(ag (aX b n_bm_gm q) rfl),(ag (aX b n_bc_gm r) rfl),(ag t rfl)⟩ fun K=>re<|rm (.tuple #[])<|?_
 have hs:cI c C=(((de (bK (C.wordsC 1) C.wordV 123) ((C.wordsC 1).wordV)).wordsC ((C.wordsC 1).wordV)),(aQ.mk c 0 C.wordV ((C.wordsC 1).wordV) 0 0 0 0 0 0 0 0 ((de (bK (C.wordsC 1) C.wordV 123) ((C.wordsC 1).wordV)).wordsR ((C.wordsC 1).wordV)) [] [] [] 0 0 0 0 0 [])):=by
   unfold cI my
   (try simp only[hask,bs,if_true,if_false,decide_true,decide_false,reduceIte])
   all_goals rfl
 rw[hs]
 exact⟨rfl,(aj.upd A b (aa hne ay) (ak (aM j (by decide)) aG)),⟨_,⟨t,rfl⟩,⟨_,_,_,_,_,rfl,((ax p b (fun x hx=>(aa (fun e=>(aA (am hm) d.size p) (e▸hx)) ay)) (fun _ _ h=>h))).rd,aK.nil ..,aK.nil ..,aK.nil ..,aK.nil ..,⟨(b8 (x:=c) (by omega)),(b8 (x:=0) (by omega)),(aB (x:=C.wordV) (by omega)),(aB (x:=(C.wordsC 1).wordV) (by omega)),(aB (x:=0) (by omega)),(aB (x:=0) (by omega)),(aB (x:=0) (by omega)),(aB (x:=0) (by omega)),(aB (x:=0) (by omega)),(aB (x:=0) (by omega)),(aB (x:=0) (by omega)),(aB (x:=0) (by omega)),(b8 (x:=0) (by omega)),(b8 (x:=0) (by omega)),(b8 (x:=0) (by omega)),(b8 (x:=0) (by omega)),(b8 (x:=0) (by omega))⟩⟩⟩,(ut d (us f b) (ac im (ac im au)))⟩
theorem yL{ask:Bool}{g gm:Nat}{c:Int}{C:ah}{w:World}(hcode:B8 c)(hC:aj w g C)(hm:w.heap[gm]? = some (.cells (mC c) 30 (0,0)))(hne:g≠gm){bc:Nat}{bm:Nat}{bw:Nat}{ba:Nat}(hbc:w.heap[bc]? = some (.cells #[.pointer (some ⟨g,0,none⟩)] 113 (0,0)))(n_bc_g:bc≠g)(n_bc_gm:bc≠gm)(hbm:w.heap[bm]? = some (.cells #[.pointer (some ⟨gm,0,none⟩)] 161 (0,0)))(n_bm_g:bm≠g)(n_bm_gm:bm≠gm)(hbw:w.heap[bw]? = some (.cells #[.func (.func 236) #[] #[.pointer (some ⟨bc,0,none⟩),.pointer (some ⟨bm,0,none⟩)]] 239 (0,0)))(n_bw_g:bw≠g)(n_bw_gm:bw≠gm)(hba:w.heap[ba]? = some (.cells #[.bool ask] 4 (0,0)))(n_ba_g:ba≠g)(n_ba_gm:ba≠gm)(hask:ask=false) :
    Calls Tryz.prog 241 #[.pointer (some ⟨bw,0,none⟩),.pointer (some ⟨ba,0,none⟩),.pointer (some ⟨bc,0,none⟩),.pointer (some ⟨bm,0,none⟩)] w (cE g gm (bJ 123 c C).1 (bJ 123 c C).2 w):=by
 obtain⟨hcode1,hcode2⟩:=hcode
 have hlen:=hC.len
 refine en 17 Tryz.func241 rfl<|sg<|L0<|aU hbw 0<|L0<|fN #[] #[.pointer (some ⟨bc,0,none⟩),.pointer (some ⟨bm,0,none⟩)] (args:=#[.int .i64 123,.pointer (some ⟨bc,0,none⟩),.pointer (some ⟨bm,0,none⟩)])<|m3 (gY (most:=123) ⟨hcode1,hcode2⟩ hC hm hne hbc n_bc_g n_bc_gm hbm n_bm_g n_bm_gm) fun e b d a=>?_
 have f:=(hC).wordV
 have h:=bU (cN (hC).rng 1)
 refine ng<|?_
 refine L0<|aU (aD.blk a (aa n_ba_g (aa n_ba_gm ay)) hba) 0<|nt<|cf hask<|sk<|rm (.tuple #[])<|?_
 have hs:bJ 123 c C=((bK (C.wordsC 1) C.wordV 123),(aQ.mk c 0 C.wordV ((C.wordsC 1).wordV) 0 0 0 0 0 0 0 0 [] [] [] [] 0 0 0 0 0 [])):=by
   unfold bJ
   (try simp only[hask,bs,if_true,if_false,decide_true,decide_false,reduceIte])
   all_goals rfl
 rw[hs]
 exact⟨rfl,b,⟨_,⟨d,rfl⟩,⟨_,_,_,_,_,rfl,aK.nil ..,aK.nil ..,aK.nil ..,aK.nil ..,aK.nil ..,⟨(b8 (x:=c) (by omega)),(b8 (x:=0) (by omega)),(aB (x:=C.wordV) (by omega)),(aB (x:=(C.wordsC 1).wordV) (by omega)),(aB (x:=0) (by omega)),(aB (x:=0) (by omega)),(aB (x:=0) (by omega)),(aB (x:=0) (by omega)),(aB (x:=0) (by omega)),(aB (x:=0) (by omega)),(aB (x:=0) (by omega)),(aB (x:=0) (by omega)),(b8 (x:=0) (by omega)),(b8 (x:=0) (by omega)),(b8 (x:=0) (by omega)),(b8 (x:=0) (by omega)),(b8 (x:=0) (by omega))⟩⟩⟩,a⟩
theorem zo{g gm:Nat}{c:Int}{C:ah}{w:World}(hcode:B8 c)(hC:aj w g C)(hm:w.heap[gm]? = some (.cells (mC c) 30 (0,0)))(hne:g≠gm){bc:Nat}{bm:Nat}(hbc:w.heap[bc]? = some (.cells #[.pointer (some ⟨g,0,none⟩)] 113 (0,0)))(n_bc_g:bc≠g)(n_bc_gm:bc≠gm)(hbm:w.heap[bm]? = some (.cells #[.pointer (some ⟨gm,0,none⟩)] 161 (0,0)))(n_bm_g:bm≠g)(n_bm_gm:bm≠gm) :
    Calls Tryz.prog 243 #[.pointer (some ⟨bc,0,none⟩),.pointer (some ⟨bm,0,none⟩)] w (cE g gm (co c C).1 (co c C).2 w):=by
 obtain⟨hcode1,hcode2⟩:=hcode
 have hlen:=hC.len
 refine en 17 Tryz.func243 rfl<|Rg 18 (fun w'=>w'.cell? ⟨bm,0,none⟩=some (.pointer (some ⟨gm,0,none⟩))∧w'.cell? ⟨bc,0,none⟩=some (.pointer (some ⟨g,0,none⟩))) fun L b=>?_
 have k:=ub b hbm
 have l:=ub b hbc
 refine bg ⟨(ag k rfl),(ag l rfl)⟩ fun a=>Rl 0 a (fun _ hs=>hs.1)<|Rl 1 a (fun _ hs=>hs.1)<|Rl 2 a (fun _ hs=>hs.1)<|Rl 3 a (fun _ hs=>hs.2)<|Rl 5 a (fun _ hs=>hs.2)<|Rl 7 a (fun _ hs=>hs.2)<|?_
 refine R0 4 rfl<|Oc<|m3 (bR (aj.old hC b)) fun M F d N=>?_
 have m:=aX d n_bm_g k
 have n:=aX d n_bc_g l
 refine bg ⟨(ag m rfl),(ag n rfl)⟩ fun O=>R0 6 rfl<|Oc<|m3 (bR F) fun P G e Q=>?_
 have o:=aX e n_bm_g m
 have p:=aX e n_bc_g n
 refine bg ⟨(ag o rfl),(ag p rfl)⟩ fun R=>R0 8 rfl<|Oc<|m3 (bR G) fun S H f T=>?_
 have q:=aX f n_bm_g o
 have r:=aX f n_bc_g p
 refine bg ⟨(ag q rfl),(ag r rfl)⟩ fun s=>Rt 9 s<|Rt 10 s<|?_
 have t:=uz b (u1 d (u1 e f im) im)
 have u:=aX t (Ne.symm hne) hm
 refine R0 11 rfl<|bX u 2 (mG c 0 C.wordV 0 0 0 0 0 0 0 0 0 nS nS nS nS 0 0 0 0 0 nS) fun U I h=>?_
 have v:=aX h n_bm_gm q
 have y:=aX h n_bc_gm r
 refine bg ⟨(ag v rfl),(ag y rfl)⟩ fun z=>Rt 12 z<|Rt 13 z<|R0 14 rfl<|bX I 5 (mG c 0 C.wordV 0 0 ((C.wordsC 1).wordV) 0 0 0 0 0 0 nS nS nS nS 0 0 0 0 0 nS) fun V J i=>?_
 have A:=aX i n_bm_gm v
 have B:=aX i n_bc_gm y
 refine bg ⟨(ag A rfl),(ag B rfl)⟩ fun D=>Rt 15 D<|Rt 16 D<|R0 17 rfl<|bX J 6 (mG c 0 C.wordV 0 0 ((C.wordsC 1).wordV) (((C.wordsC 1).wordsC 1).wordV) 0 0 0 0 0 nS nS nS nS 0 0 0 0 0 nS) fun W K j=>?_
 refine bg ⟨(ag (aX j n_bm_gm A) rfl),(ag (aX j n_bc_gm B) rfl)⟩ fun X=>re<|rm (.tuple #[])<|?_
 have hs:co c C=((((C.wordsC 1).wordsC 1).wordsC 1),(aQ.mk c 0 C.wordV 0 0 ((C.wordsC 1).wordV) (((C.wordsC 1).wordsC 1).wordV) 0 0 0 0 0 [] [] [] [] 0 0 0 0 0 [])):=by
   unfold co
   (try simp only[bs,if_true,if_false,decide_true,decide_false,reduceIte])
   all_goals rfl
 rw[hs]
 have E:=u1 h (u1 i j im) im
 exact⟨rfl,(aj.upd H E (aa hne ay) (ak (aM u (by decide)) aG)),⟨_,⟨K,rfl⟩,⟨_,_,_,_,_,rfl,aK.nil ..,aK.nil ..,aK.nil ..,aK.nil ..,aK.nil ..,⟨(b8 (x:=c) (by omega)),(b8 (x:=0) (by omega)),(aB (x:=C.wordV) (by omega)),(aB (x:=0) (by omega)),(aB (x:=0) (by omega)),(aB (x:=(C.wordsC 1).wordV) (by omega)),(aB (x:=((C.wordsC 1).wordsC 1).wordV) (by omega)),(aB (x:=0) (by omega)),(aB (x:=0) (by omega)),(aB (x:=0) (by omega)),(aB (x:=0) (by omega)),(aB (x:=0) (by omega)),(b8 (x:=0) (by omega)),(b8 (x:=0) (by omega)),(b8 (x:=0) (by omega)),(b8 (x:=0) (by omega)),(b8 (x:=0) (by omega))⟩⟩⟩,(us t E)⟩
theorem zG{g gm:Nat}{c:Int}{C:ah}{w:World}(hcode:B8 c)(hC:aj w g C)(hm:w.heap[gm]? = some (.cells (mC c) 30 (0,0)))(hne:g≠gm){bc:Nat}{bm:Nat}{bw:Nat}(hbc:w.heap[bc]? = some (.cells #[.pointer (some ⟨g,0,none⟩)] 113 (0,0)))(n_bc_g:bc≠g)(n_bc_gm:bc≠gm)(hbm:w.heap[bm]? = some (.cells #[.pointer (some ⟨gm,0,none⟩)] 161 (0,0)))(n_bm_g:bm≠g)(n_bm_gm:bm≠gm)(hbw:w.heap[bw]? = some (.cells #[.func (.func 236) #[] #[.pointer (some ⟨bc,0,none⟩),.pointer (some ⟨bm,0,none⟩)]] 239 (0,0)))(n_bw_g:bw≠g)(n_bw_gm:bw≠gm) :
    Calls Tryz.prog 244 #[.pointer (some ⟨bw,0,none⟩),.pointer (some ⟨bc,0,none⟩),.pointer (some ⟨bm,0,none⟩)] w (cE g gm (cF c C).1 (cF c C).2 w):=by
 obtain⟨hcode1,hcode2⟩:=hcode
 have hlen:=hC.len
 refine en 21 Tryz.func244 rfl<|sg<|L0<|aU hbw 0<|L0<|fN #[] #[.pointer (some ⟨bc,0,none⟩),.pointer (some ⟨bm,0,none⟩)] (args:=#[.int .i64 125,.pointer (some ⟨bc,0,none⟩),.pointer (some ⟨bm,0,none⟩)])<|m3 (gY (most:=125) ⟨hcode1,hcode2⟩ hC hm hne hbc n_bc_g n_bc_gm hbm n_bm_g n_bm_gm) fun X P Q q=>?_
 have Y:=(hC).wordV
 have Z:=bU (cN (hC).rng 1)
 refine nt<|sq<|Rg 6 (fun w'=>w'.cell? ⟨bm,0,none⟩=some (.pointer (some ⟨gm,0,none⟩))∧w'.cell? ⟨bc,0,none⟩=some (.pointer (some ⟨g,0,none⟩))) fun a0 k=>?_
 have o:=aF q k
 have r:=aD.blk o (aa n_bm_g (aa n_bm_gm ay)) hbm
 have s:=aD.blk o (aa n_bc_g (aa n_bc_gm ay)) hbc
 refine bg ⟨(ag r rfl),(ag s rfl)⟩ fun t=>Rl 0 t (fun _ hs=>hs.1)<|Rl 1 t (fun _ hs=>hs.2)<|?_
 refine R0 2 rfl<|Oc<|m3 (bR (aj.old P k)) fun a1 R d a2=>?_
 have u:=aX d n_bm_g r
 have v:=aX d n_bc_g s
 refine bg ⟨(ag u rfl),(ag v rfl)⟩ fun y=>Rt 3 y<|Rt 4 y<|?_
 have z:=aX (uz k d) (Ne.symm hne) Q
 refine R0 5 rfl<|bX z 7 (mG c 0 C.wordV ((C.wordsC 1).wordV) 0 0 0 ((bK (C.wordsC 1) C.wordV 125).wordV) 0 0 0 0 nS nS nS nS 0 0 0 0 0 nS) fun a3 S l=>?_
 have A:=aX l n_bm_gm u
 have B:=aX l n_bc_gm v
 refine bg ⟨(ag A rfl),(ag B rfl)⟩ fun a4=>re<|tn<|Rg 12 (fun w'=>w'.cell? ⟨bm,0,none⟩=some (.pointer (some ⟨gm,0,none⟩))∧w'.cell? ⟨bc,0,none⟩=some (.pointer (some ⟨g,0,none⟩))∧w'.cell? ⟨gm,7,none⟩=some (.int .u16 ((bK (C.wordsC 1) C.wordV 125).wordV))) fun a5 f=>?_
 have D:=ub f A
 have E:=ub f B
 have F:=ub f S
 refine bg ⟨(ag D rfl),(ag E rfl),(ag F rfl)⟩ fun b=>Rl 0 b (fun _ hs=>hs.1)<|Rl 1 b (fun _ hs=>hs.2.1)<|Rl 2 b (fun _ hs=>hs.2.1)<|Rl 3 b (fun _ hs=>hs.1)<|Rt 4 b<|Rt 5 b<|Rl 6 b (fun _ hs=>hs.2.2)<|?_
 have G:=aF l f
 refine R0 7 rfl<|Oc<|m3 (mh (a:=(bK (C.wordsC 1) C.wordV 125).wordV) (most:=121) (aj.upd R G (aa hne ay) (ak (aM z (by decide)) aG)) (by omega)) fun a6 T i a7=>?_
 have H:=aX i n_bm_g D
 have I:=aX i n_bc_g E
 have J:=aX i (Ne.symm hne) F
 refine bg ⟨(ag H rfl),(ag I rfl),(ag J rfl)⟩ fun a8=>R0 8 rfl<|Oc<|mF (jt (n:=((bK (C.wordsC 1) C.wordV 125).wordsC 1).wordV) T (by omega)) fun U V a9 K ab ad W m=>?_
 have L:=aX m n_bm_g H
 have M:=aX m n_bc_g I
 have p:=aX m (Ne.symm hne) J
 refine bg ⟨(ag L rfl),(ag M rfl),(ag p rfl)⟩ fun N=>Rt 9 N<|Rt 10 N<|R0 11 rfl<|bX p 12 (mG c 0 C.wordV ((C.wordsC 1).wordV) 0 0 0 ((bK (C.wordsC 1) C.wordV 125).wordV) 0 0 0 0 (.slice U (((de (bK ((bK (C.wordsC 1) C.wordV 125).wordsC 1) ((bK (C.wordsC 1) C.wordV 125).wordV) 121) (((bK (C.wordsC 1) C.wordV 125).wordsC 1).wordV)).wordsR (((bK (C.wordsC 1) C.wordV 125).wordsC 1).wordV)).length) V) nS nS nS 0 0 0 0 0 nS) fun ae O j=>?_
 refine bg ⟨(ag (aX j n_bm_gm L) rfl),(ag (aX j n_bc_gm M) rfl),(ag O rfl)⟩ fun af=>re<|rm (.tuple #[])<|?_
 have hs:cF c C=(((de (bK ((bK (C.wordsC 1) C.wordV 125).wordsC 1) ((bK (C.wordsC 1) C.wordV 125).wordV) 121) (((bK (C.wordsC 1) C.wordV 125).wordsC 1).wordV)).wordsC (((bK (C.wordsC 1) C.wordV 125).wordsC 1).wordV)),(aQ.mk c 0 C.wordV ((C.wordsC 1).wordV) 0 0 0 ((bK (C.wordsC 1) C.wordV 125).wordV) 0 0 0 0 ((de (bK ((bK (C.wordsC 1) C.wordV 125).wordsC 1) ((bK (C.wordsC 1) C.wordV 125).wordV) 121) (((bK (C.wordsC 1) C.wordV 125).wordsC 1).wordV)).wordsR (((bK (C.wordsC 1) C.wordV 125).wordsC 1).wordV)) [] [] [] 0 0 0 0 0 [])):=by
   unfold cF mR uy lK
   (try simp only[bs,if_true,if_false,decide_true,decide_false,reduceIte])
   all_goals rfl
 rw[hs]
 exact⟨rfl,(aj.upd W j (aa hne ay) (ak (aM p (by decide)) aG)),⟨_,⟨O,rfl⟩,⟨_,_,_,_,_,rfl,((ax K j (fun x hx=>(aa (fun e=>(aA (am hm) (le (le (le (le (le q.size k.size) d.size) l.size) f.size) i.size) K) (e▸hx)) ay)) (fun _ _ h=>h))).rd,aK.nil ..,aK.nil ..,aK.nil ..,aK.nil ..,⟨(b8 (x:=c) (by omega)),(b8 (x:=0) (by omega)),(aB (x:=C.wordV) (by omega)),(aB (x:=(C.wordsC 1).wordV) (by omega)),(aB (x:=0) (by omega)),(aB (x:=0) (by omega)),(aB (x:=0) (by omega)),(aB (x:=(bK (C.wordsC 1) C.wordV 125).wordV) (by omega)),(aB (x:=0) (by omega)),(aB (x:=0) (by omega)),(aB (x:=0) (by omega)),(aB (x:=0) (by omega)),(b8 (x:=0) (by omega)),(b8 (x:=0) (by omega)),(b8 (x:=0) (by omega)),(b8 (x:=0) (by omega)),(b8 (x:=0) (by omega))⟩⟩⟩,(ut o (ui d (ui G (ui i (us m j)))) (ac im (ac im au)))⟩
theorem zI{g gm:Nat}{c:Int}{C:ah}{w:World}(hcode:B8 c)(hC:aj w g C)(hm:w.heap[gm]? = some (.cells (mC c) 30 (0,0)))(hne:g≠gm){bc:Nat}{bm:Nat}(hbc:w.heap[bc]? = some (.cells #[.pointer (some ⟨g,0,none⟩)] 113 (0,0)))(n_bc_g:bc≠g)(n_bc_gm:bc≠gm)(hbm:w.heap[bm]? = some (.cells #[.pointer (some ⟨gm,0,none⟩)] 161 (0,0)))(n_bm_g:bm≠g)(n_bm_gm:bm≠gm) :
    Calls Tryz.prog 245 #[.pointer (some ⟨bc,0,none⟩),.pointer (some ⟨bm,0,none⟩)] w (cE g gm (cH c C).1 (cH c C).2 w):=by
 obtain⟨hcode1,hcode2⟩:=hcode
 have hlen:=hC.len
 refine en 7 Tryz.func245 rfl<|Rg 6 (fun w'=>w'.cell? ⟨bm,0,none⟩=some (.pointer (some ⟨gm,0,none⟩))∧w'.cell? ⟨bc,0,none⟩=some (.pointer (some ⟨g,0,none⟩))) fun p a=>?_
 have e:=ub a hbm
 have f:=ub a hbc
 refine bg ⟨(ag e rfl),(ag f rfl)⟩ fun h=>Rl 0 h (fun _ hs=>hs.1)<|Rl 1 h (fun _ hs=>hs.2)<|?_
 refine R0 2 rfl<|Oc<|m3 (bR (aj.old hC a)) fun q n d r=>?_
 have i:=aX d n_bm_g e
 have j:=aX d n_bc_g f
 refine bg ⟨(ag i rfl),(ag j rfl)⟩ fun k=>Rt 3 k<|Rt 4 k<|?_
 have l:=uz a d
 have m:=aX l (Ne.symm hne) hm
 refine R0 5 rfl<|bX m 2 (mG c 0 C.wordV 0 0 0 0 0 0 0 0 0 nS nS nS nS 0 0 0 0 0 nS) fun s o b=>?_
 refine bg ⟨(ag (aX b n_bm_gm i) rfl),(ag (aX b n_bc_gm j) rfl)⟩ fun t=>re<|rm (.tuple #[])<|?_
 have hs:cH c C=((C.wordsC 1),(aQ.mk c 0 C.wordV 0 0 0 0 0 0 0 0 0 [] [] [] [] 0 0 0 0 0 [])):=by
   unfold cH
   (try simp only[bs,if_true,if_false,decide_true,decide_false,reduceIte])
   all_goals rfl
 rw[hs]
 exact⟨rfl,(aj.upd n b (aa hne ay) (ak (aM m (by decide)) aG)),⟨_,⟨o,rfl⟩,⟨_,_,_,_,_,rfl,aK.nil ..,aK.nil ..,aK.nil ..,aK.nil ..,aK.nil ..,⟨(b8 (x:=c) (by omega)),(b8 (x:=0) (by omega)),(aB (x:=C.wordV) (by omega)),(aB (x:=0) (by omega)),(aB (x:=0) (by omega)),(aB (x:=0) (by omega)),(aB (x:=0) (by omega)),(aB (x:=0) (by omega)),(aB (x:=0) (by omega)),(aB (x:=0) (by omega)),(aB (x:=0) (by omega)),(aB (x:=0) (by omega)),(b8 (x:=0) (by omega)),(b8 (x:=0) (by omega)),(b8 (x:=0) (by omega)),(b8 (x:=0) (by omega)),(b8 (x:=0) (by omega))⟩⟩⟩,(us l b)⟩
theorem zL{g gm:Nat}{c:Int}{C:ah}{w:World}(hcode:B8 c)(hC:aj w g C)(hm:w.heap[gm]? = some (.cells (mC c) 30 (0,0)))(hne:g≠gm){bc:Nat}{bm:Nat}(hbc:w.heap[bc]? = some (.cells #[.pointer (some ⟨g,0,none⟩)] 113 (0,0)))(n_bc_g:bc≠g)(n_bc_gm:bc≠gm)(hbm:w.heap[bm]? = some (.cells #[.pointer (some ⟨gm,0,none⟩)] 161 (0,0)))(n_bm_g:bm≠g)(n_bm_gm:bm≠gm) :
    Calls Tryz.prog 246 #[.pointer (some ⟨bc,0,none⟩),.pointer (some ⟨bm,0,none⟩)] w (cE g gm (i9 c C).1 (i9 c C).2 w):=by
 obtain⟨hcode1,hcode2⟩:=hcode
 have hlen:=hC.len
 refine en 36 Tryz.func246 rfl<|sg<|L0<|aU hbc 0<|L0<|Oc<|m3 (bR hC) fun T G k U=>L0<|Oi C.wordV<|Pl 1<|ng<|?_
 have l:=aX k n_bc_g hbc
 refine L0<|aU l 0<|Pl 1<|L0<|Oe (.int .i64 (Int.tmod C.wordV 2)) (.int .i64 (C.wordV%2)) (congrArg (Value.int .i64) (Int.tmod_eq_emod_of_nonneg (by omega)))<|Pl 2<|cu 3 [11] 14 ((((C.wordV%2)==0)&&(decide (2≤C.wordV)))) (fun K m=>?_) ?_
 refine bl 11 (((C.wordV%2)==0)) (fun a=>?_) (fun a=>?_)
 have H:=al a
 exact Pl 3<|ce m (decide (2≤C.wordV)) (by rw[a];rfl)
 have H:=ap a
 exact Pl 3<|ce m false (by rw[a];rfl)
 refine Pl 1<|cu 3 [15] 18 (((((C.wordV%2)==0)&&(decide (2≤C.wordV)))&&(decide (C.wordV≤64)))) (fun K o=>?_) ?_
 refine bl 15 ((((C.wordV%2)==0)&&(decide (2≤C.wordV)))) (fun b=>?_) (fun b=>?_)
 have I:=(aR b).1
 have J:=(aR b).2
 have V:=al I
 have W:=of_decide_eq_true J
 exact Pl 3<|ce o (decide (C.wordV≤64)) (by rw[b];rfl)
 exact Pl 3<|ce o false (by rw[b];rfl)
 refine L0<|Oc<|m2 (bf (((((C.wordV%2)==0)&&(decide (2≤C.wordV)))&&(decide (C.wordV≤64)))) 5 G) fun X L p=>ng<|?_
 have q:=aX p n_bc_g l
 refine L0<|aU q 0<|L0<|Oc<|m3 (bR L) fun Y M r Z=>L0<|Oi (((C.wordsC 1).need ((((C.wordV%2)==0)&&(decide (2≤C.wordV)))&&(decide (C.wordV≤64))) 5).wordV)<|Pl 1<|ng<|?_
 have s:=aX r n_bc_g q
 refine L0<|aU s 0<|Pl 1<|L0<|Oi (2*(((C.wordsC 1).need ((((C.wordV%2)==0)&&(decide (2≤C.wordV)))&&(decide (C.wordV≤64))) 5).wordV))<|L0<|Oi (2+(2*(((C.wordsC 1).need ((((C.wordV%2)==0)&&(decide (2≤C.wordV)))&&(decide (C.wordV≤64))) 5).wordV)))<|Pl 2<|L0<|Oc<|m2 (bf (((2+(2*(((C.wordsC 1).need ((((C.wordV%2)==0)&&(decide (2≤C.wordV)))&&(decide (C.wordV≤64))) 5).wordV)))==C.wordV)) 5 M) fun a0 N O=>nt<|Rg 7 (fun w'=>w'.cell? ⟨bm,0,none⟩=some (.pointer (some ⟨gm,0,none⟩))∧w'.cell? ⟨bc,0,none⟩=some (.pointer (some ⟨g,0,none⟩))) fun a1 t=>?_
 have u:=aF O t
 have f:=u1 k (u1 p (u1 r u im) im) im
 have v:=aX f n_bm_g hbm
 have y:=aX u n_bc_g s
 refine bg ⟨(ag v rfl),(ag y rfl)⟩ fun i=>Rl 0 i (fun _ hs=>hs.1)<|Rl 1 i (fun _ hs=>hs.2)<|Rt 2 i<|?_
 refine R0 3 rfl<|Oc<|mF (eb (n:=((C.wordsC 1).need ((((C.wordV%2)==0)&&(decide (2≤C.wordV)))&&(decide (C.wordV≤64))) 5).wordV) (aj.old N t)) fun P Q a2 z a3 a4 R j=>?_
 have A:=aX j n_bm_g v
 have B:=aX j n_bc_g y
 refine bg ⟨(ag A rfl),(ag B rfl)⟩ fun D=>Rt 4 D<|Rt 5 D<|?_
 have E:=u1 f j im
 have F:=aX E (Ne.symm hne) hm
 refine R0 6 rfl<|bX F 12 (mG c 0 0 0 0 0 0 0 0 0 0 0 (.slice P ((((((C.wordsC 1).need ((((C.wordV%2)==0)&&(decide (2≤C.wordV)))&&(decide (C.wordV≤64))) 5).wordsC 1).need ((2+(2*(((C.wordsC 1).need ((((C.wordV%2)==0)&&(decide (2≤C.wordV)))&&(decide (C.wordV≤64))) 5).wordV)))==C.wordV) 5).wordsR (((C.wordsC 1).need ((((C.wordV%2)==0)&&(decide (2≤C.wordV)))&&(decide (C.wordV≤64))) 5).wordV)).length) Q) nS nS nS 0 0 0 0 0 nS) fun a5 S d=>?_
 refine bg ⟨(ag (aX d n_bm_gm A) rfl),(ag (aX d n_bc_gm B) rfl)⟩ fun a6=>re<|rm (.tuple #[])<|?_
 have hs:i9 c C=((((((C.wordsC 1).need ((((C.wordV%2)==0)&&(decide (2≤C.wordV)))&&(decide (C.wordV≤64))) 5).wordsC 1).need ((2+(2*(((C.wordsC 1).need ((((C.wordV%2)==0)&&(decide (2≤C.wordV)))&&(decide (C.wordV≤64))) 5).wordV)))==C.wordV) 5).wordsC (((C.wordsC 1).need ((((C.wordV%2)==0)&&(decide (2≤C.wordV)))&&(decide (C.wordV≤64))) 5).wordV)),(aQ.mk c 0 0 0 0 0 0 0 0 0 0 0 (((((C.wordsC 1).need ((((C.wordV%2)==0)&&(decide (2≤C.wordV)))&&(decide (C.wordV≤64))) 5).wordsC 1).need ((2+(2*(((C.wordsC 1).need ((((C.wordV%2)==0)&&(decide (2≤C.wordV)))&&(decide (C.wordV≤64))) 5).wordV)))==C.wordV) 5).wordsR (((C.wordsC 1).need ((((C.wordV%2)==0)&&(decide (2≤C.wordV)))&&(decide (C.wordV≤64))) 5).wordV)) [] [] [] 0 0 0 0 0 [])):=by
   unfold i9 yv xM j7
   (try simp only[bs,if_true,if_false,decide_true,decide_false,reduceIte])
   all_goals rfl
 rw[hs]
 exact⟨rfl,(aj.upd R d (aa hne ay) (ak (aM F (by decide)) aG)),⟨_,⟨S,rfl⟩,⟨_,_,_,_,_,rfl,((ax z d (fun x hx=>(aa (fun e=>(aA (am hm) f.size z) (e▸hx)) ay)) (fun _ _ h=>h))).rd,aK.nil ..,aK.nil ..,aK.nil ..,aK.nil ..,⟨(b8 (x:=c) (by omega)),(b8 (x:=0) (by omega)),(aB (x:=0) (by omega)),(aB (x:=0) (by omega)),(aB (x:=0) (by omega)),(aB (x:=0) (by omega)),(aB (x:=0) (by omega)),(aB (x:=0) (by omega)),(aB (x:=0) (by omega)),(aB (x:=0) (by omega)),(aB (x:=0) (by omega)),(aB (x:=0) (by omega)),(b8 (x:=0) (by omega)),(b8 (x:=0) (by omega)),(b8 (x:=0) (by omega)),(b8 (x:=0) (by omega)),(b8 (x:=0) (by omega))⟩⟩⟩,(us E d)⟩
open Go.RowKit
theorem sx{g gm:Nat}{C:ah}{w:World}(hC:aj w g C)(hm:w.heap[gm]? = some (.cells (mC 3) 30 (0,0)))(hne:g≠gm) : Calls Tryz.prog 204 #[.int .i64 0,.pointer (some ⟨gm,0,none⟩),.pointer (some ⟨g,0,none⟩)] w (ig (fun W=>cE g gm (bJ 125 3 C).1 (bJ 125 3 C).2 W) w):=by
 refine en 67 Tryz.func204 rfl<|sg<|L0<|dq #[.pointer (some ⟨gm,0,none⟩)] fun n D f o a=>L0<|dq #[.pointer (some ⟨g,0,none⟩)] fun p E h q b=>Pl 1<|ng<|Pl 1<|L0<|bE #[.nilFunc] fun r F d s t=>L0<|bX s 0 #[.func (.func 236) #[] #[.pointer (some ⟨p,0,none⟩),.pointer (some ⟨n,0,none⟩)]] fun G u v=>nl<|?_
 refine tn<|sg<|Pl 2<|L0<|bE #[.bool false] fun H I x y z=>L0<|bX y 0 #[.bool true] fun J A B=>nt<|sq<|sg<|?_
 have i:=ud z B x
 have j:=ud t (aF v i) d
 have k:=aF b j
 have l:=ub k o
 refine L0<|aU l 0<|Pl 2<|?_
 have e:=aF a k
 have m:=ub e hm
 refine L0<|aU m 0<|Pl 1<|nt<|bk<|sg<|L0<|aU A 0<|Pl 9<|nt<|c1<|sg<|?_
 refine Pl 2<|nt<|rt<|br<|tr<|rr (.func (.func 238) #[] #[.pointer (some ⟨r,0,none⟩)])<|?_
 exact⟨_,_,rfl,by kernel_rfl,e,zv (c:=3) ⟨by decide,by decide⟩ (aj.old hC e) m hne (ub j q) (Ne.symm (nb (aj.lt hC) a.size h)) (Ne.symm (nb (am hm) a.size h)) l (Ne.symm (nb (aj.lt hC) lr f)) (Ne.symm (nb (am hm) lr f)) (ub i u) (Ne.symm (nb (aj.lt hC) (le a.size b.size) d)) (Ne.symm (nb (am hm) (le a.size b.size) d))⟩
theorem sH{g gm:Nat}{C:ah}{w:World}(hC:aj w g C)(hm:w.heap[gm]? = some (.cells (mC 4) 30 (0,0)))(hne:g≠gm) : Calls Tryz.prog 204 #[.int .i64 0,.pointer (some ⟨gm,0,none⟩),.pointer (some ⟨g,0,none⟩)] w (ig (fun W=>cE g gm (bJ 125 4 C).1 (bJ 125 4 C).2 W) w):=by
 refine en 67 Tryz.func204 rfl<|sg<|L0<|dq #[.pointer (some ⟨gm,0,none⟩)] fun n D f o a=>L0<|dq #[.pointer (some ⟨g,0,none⟩)] fun p E h q b=>Pl 1<|ng<|Pl 1<|L0<|bE #[.nilFunc] fun r F d s t=>L0<|bX s 0 #[.func (.func 236) #[] #[.pointer (some ⟨p,0,none⟩),.pointer (some ⟨n,0,none⟩)]] fun G u v=>nl<|?_
 refine tn<|sg<|Pl 2<|L0<|bE #[.bool false] fun H I x y z=>L0<|bX y 0 #[.bool true] fun J A B=>nt<|sq<|sg<|?_
 have i:=ud z B x
 have j:=ud t (aF v i) d
 have k:=aF b j
 have l:=ub k o
 refine L0<|aU l 0<|Pl 2<|?_
 have e:=aF a k
 have m:=ub e hm
 refine L0<|aU m 0<|Pl 1<|nt<|bk<|sg<|L0<|aU A 0<|Pl 9<|nt<|c1<|sg<|?_
 refine Pl 2<|nt<|rt<|br<|tr<|rr (.func (.func 238) #[] #[.pointer (some ⟨r,0,none⟩)])<|?_
 exact⟨_,_,rfl,by kernel_rfl,e,zv (c:=4) ⟨by decide,by decide⟩ (aj.old hC e) m hne (ub j q) (Ne.symm (nb (aj.lt hC) a.size h)) (Ne.symm (nb (am hm) a.size h)) l (Ne.symm (nb (aj.lt hC) lr f)) (Ne.symm (nb (am hm) lr f)) (ub i u) (Ne.symm (nb (aj.lt hC) (le a.size b.size) d)) (Ne.symm (nb (am hm) (le a.size b.size) d))⟩
theorem rh{g gm:Nat}{C:ah}{w:World}(hC:aj w g C)(hm:w.heap[gm]? = some (.cells (mC 3) 30 (0,0)))(hne:g≠gm) : Calls Tryz.prog 204 #[.int .i64 1,.pointer (some ⟨gm,0,none⟩),.pointer (some ⟨g,0,none⟩)] w (ig (fun W=>cE g gm (bQ 3 C).1 (bQ 3 C).2 W) w):=by
 refine en 67 Tryz.func204 rfl<|sg<|L0<|dq #[.pointer (some ⟨gm,0,none⟩)] fun d z e m a=>L0<|dq #[.pointer (some ⟨g,0,none⟩)] fun f A h n o=>Pl 1<|ng<|Pl 1<|L0<|bE #[.nilFunc] fun B D p q r=>L0<|bX q 0 #[.func (.func 236) #[] #[.pointer (some ⟨f,0,none⟩),.pointer (some ⟨d,0,none⟩)]] fun E F s=>nl<|?_
 refine tn<|sg<|Pl 2<|L0<|bE #[.bool false] fun G H t u v=>L0<|bX u 0 #[.bool false] fun I x y=>nt<|sq<|sg<|?_
 have i:=ud r (aF s (ud v y t)) p
 have j:=aF o i
 have k:=ub j m
 refine L0<|aU k 0<|Pl 2<|?_
 have b:=aF a j
 have l:=ub b hm
 refine L0<|aU l 0<|Pl 1<|nt<|bk<|sg<|L0<|aU x 0<|Pl 9<|nt<|c0<|sq<|sq<|?_
 refine go<|Pl 3<|nt<|c1<|bi<|c1<|sg<|Pl 2<|nt<|rt<|?_
 refine br<|tr<|rr (.func (.func 239) #[] #[.pointer (some ⟨f,0,none⟩),.pointer (some ⟨d,0,none⟩)])<|?_
 exact⟨_,_,rfl,by kernel_rfl,b,zi (c:=3) ⟨by decide,by decide⟩ (aj.old hC b) l hne (ub i n) (Ne.symm (nb (aj.lt hC) a.size h)) (Ne.symm (nb (am hm) a.size h)) k (Ne.symm (nb (aj.lt hC) lr e)) (Ne.symm (nb (am hm) lr e))⟩
theorem rI{g gm:Nat}{C:ah}{w:World}(hC:aj w g C)(hm:w.heap[gm]? = some (.cells (mC 4) 30 (0,0)))(hne:g≠gm) : Calls Tryz.prog 204 #[.int .i64 1,.pointer (some ⟨gm,0,none⟩),.pointer (some ⟨g,0,none⟩)] w (ig (fun W=>cE g gm (bQ 4 C).1 (bQ 4 C).2 W) w):=by
 refine en 67 Tryz.func204 rfl<|sg<|L0<|dq #[.pointer (some ⟨gm,0,none⟩)] fun d z e m a=>L0<|dq #[.pointer (some ⟨g,0,none⟩)] fun f A h n o=>Pl 1<|ng<|Pl 1<|L0<|bE #[.nilFunc] fun B D p q r=>L0<|bX q 0 #[.func (.func 236) #[] #[.pointer (some ⟨f,0,none⟩),.pointer (some ⟨d,0,none⟩)]] fun E F s=>nl<|?_
 refine tn<|sg<|Pl 2<|L0<|bE #[.bool false] fun G H t u v=>L0<|bX u 0 #[.bool false] fun I x y=>nt<|sq<|sg<|?_
 have i:=ud r (aF s (ud v y t)) p
 have j:=aF o i
 have k:=ub j m
 refine L0<|aU k 0<|Pl 2<|?_
 have b:=aF a j
 have l:=ub b hm
 refine L0<|aU l 0<|Pl 1<|nt<|bk<|sg<|L0<|aU x 0<|Pl 9<|nt<|c0<|sq<|sq<|?_
 refine go<|Pl 3<|nt<|c0<|sg<|Pl 3<|nt<|c1<|bi<|c1<|?_
 refine sg<|Pl 2<|nt<|rt<|br<|tr<|rr (.func (.func 239) #[] #[.pointer (some ⟨f,0,none⟩),.pointer (some ⟨d,0,none⟩)])<|?_
 exact⟨_,_,rfl,by kernel_rfl,b,zi (c:=4) ⟨by decide,by decide⟩ (aj.old hC b) l hne (ub i n) (Ne.symm (nb (aj.lt hC) a.size h)) (Ne.symm (nb (am hm) a.size h)) k (Ne.symm (nb (aj.lt hC) lr e)) (Ne.symm (nb (am hm) lr e))⟩
theorem s9{g gm:Nat}{C:ah}{w:World}(hC:aj w g C)(hm:w.heap[gm]? = some (.cells (mC 6) 30 (0,0)))(hne:g≠gm) : Calls Tryz.prog 204 #[.int .i64 0,.pointer (some ⟨gm,0,none⟩),.pointer (some ⟨g,0,none⟩)] w (ig (fun W=>cE g gm (d6 6 C).1 (d6 6 C).2 W) w):=by
 refine en 67 Tryz.func204 rfl<|sg<|L0<|dq #[.pointer (some ⟨gm,0,none⟩)] fun d z e m a=>L0<|dq #[.pointer (some ⟨g,0,none⟩)] fun f A h n o=>Pl 1<|ng<|Pl 1<|L0<|bE #[.nilFunc] fun B D p q r=>L0<|bX q 0 #[.func (.func 236) #[] #[.pointer (some ⟨f,0,none⟩),.pointer (some ⟨d,0,none⟩)]] fun E F s=>nl<|?_
 refine tn<|sg<|Pl 2<|L0<|bE #[.bool false] fun G H t u v=>L0<|bX u 0 #[.bool true] fun I x y=>nt<|sq<|sg<|?_
 have i:=ud r (aF s (ud v y t)) p
 have j:=aF o i
 have k:=ub j m
 refine L0<|aU k 0<|Pl 2<|?_
 have b:=aF a j
 have l:=ub b hm
 refine L0<|aU l 0<|Pl 1<|nt<|bk<|sg<|L0<|aU x 0<|Pl 9<|nt<|c0<|sq<|sq<|?_
 refine go<|Pl 3<|nt<|c0<|sg<|Pl 3<|nt<|c0<|go<|Pl 7<|nl<|?_
 refine tn<|c0<|sg<|Pl 3<|nt<|c1<|sg<|Pl 2<|nt<|rt<|?_
 refine br<|tr<|rr (.func (.func 240) #[] #[.pointer (some ⟨f,0,none⟩),.pointer (some ⟨d,0,none⟩)])<|?_
 exact⟨_,_,rfl,by kernel_rfl,b,zu (c:=6) ⟨by decide,by decide⟩ (aj.old hC b) l hne (ub i n) (Ne.symm (nb (aj.lt hC) a.size h)) (Ne.symm (nb (am hm) a.size h)) k (Ne.symm (nb (aj.lt hC) lr e)) (Ne.symm (nb (am hm) lr e))⟩
theorem rc{g gm:Nat}{C:ah}{w:World}(hC:aj w g C)(hm:w.heap[gm]? = some (.cells (mC 6) 30 (0,0)))(hne:g≠gm) : Calls Tryz.prog 204 #[.int .i64 1,.pointer (some ⟨gm,0,none⟩),.pointer (some ⟨g,0,none⟩)] w (ig (fun W=>cE g gm (d6 6 C).1 (d6 6 C).2 W) w):=by
 refine en 67 Tryz.func204 rfl<|sg<|L0<|dq #[.pointer (some ⟨gm,0,none⟩)] fun d z e m a=>L0<|dq #[.pointer (some ⟨g,0,none⟩)] fun f A h n o=>Pl 1<|ng<|Pl 1<|L0<|bE #[.nilFunc] fun B D p q r=>L0<|bX q 0 #[.func (.func 236) #[] #[.pointer (some ⟨f,0,none⟩),.pointer (some ⟨d,0,none⟩)]] fun E F s=>nl<|?_
 refine tn<|sg<|Pl 2<|L0<|bE #[.bool false] fun G H t u v=>L0<|bX u 0 #[.bool false] fun I x y=>nt<|sq<|sg<|?_
 have i:=ud r (aF s (ud v y t)) p
 have j:=aF o i
 have k:=ub j m
 refine L0<|aU k 0<|Pl 2<|?_
 have b:=aF a j
 have l:=ub b hm
 refine L0<|aU l 0<|Pl 1<|nt<|bk<|sg<|L0<|aU x 0<|Pl 9<|nt<|c0<|sq<|sq<|?_
 refine go<|Pl 3<|nt<|c0<|sg<|Pl 3<|nt<|c0<|go<|Pl 7<|nl<|?_
 refine tn<|c0<|sg<|Pl 3<|nt<|c1<|sg<|Pl 2<|nt<|rt<|?_
 refine br<|tr<|rr (.func (.func 240) #[] #[.pointer (some ⟨f,0,none⟩),.pointer (some ⟨d,0,none⟩)])<|?_
 exact⟨_,_,rfl,by kernel_rfl,b,zu (c:=6) ⟨by decide,by decide⟩ (aj.old hC b) l hne (ub i n) (Ne.symm (nb (aj.lt hC) a.size h)) (Ne.symm (nb (am hm) a.size h)) k (Ne.symm (nb (aj.lt hC) lr e)) (Ne.symm (nb (am hm) lr e))⟩
theorem pX{g gm:Nat}{C:ah}{w:World}(hC:aj w g C)(hm:w.heap[gm]? = some (.cells (mC 16) 30 (0,0)))(hne:g≠gm) : Calls Tryz.prog 204 #[.int .i64 0,.pointer (some ⟨gm,0,none⟩),.pointer (some ⟨g,0,none⟩)] w (ig (fun W=>cE g gm (cI 16 C).1 (cI 16 C).2 W) w):=by
 refine en 67 Tryz.func204 rfl<|sg<|L0<|dq #[.pointer (some ⟨gm,0,none⟩)] fun j E k t a=>L0<|dq #[.pointer (some ⟨g,0,none⟩)] fun l F m u b=>Pl 1<|ng<|Pl 1<|L0<|bE #[.nilFunc] fun v G d x e=>L0<|bX x 0 #[.func (.func 236) #[] #[.pointer (some ⟨l,0,none⟩),.pointer (some ⟨j,0,none⟩)]] fun H y f=>nl<|?_
 refine tn<|sg<|Pl 2<|L0<|bE #[.bool false] fun z I h A B=>L0<|bX A 0 #[.bool true] fun J n D=>nt<|sq<|sg<|?_
 have o:=ud B D h
 have p:=ud e (aF f o) d
 have q:=aF b p
 have r:=ub q t
 refine L0<|aU r 0<|Pl 2<|?_
 have i:=aF a q
 have s:=ub i hm
 refine L0<|aU s 0<|Pl 1<|nt<|bk<|sg<|L0<|aU n 0<|Pl 9<|nt<|c0<|sq<|sq<|?_
 refine go<|Pl 3<|nt<|c0<|sg<|Pl 3<|nt<|c0<|go<|Pl 7<|nl<|?_
 refine tn<|c0<|sg<|Pl 3<|nt<|c0<|sg<|Pl 3<|nt<|c1<|?_
 refine sg<|Pl 2<|nt<|rt<|br<|tr<|rr (.func (.func 241) #[] #[.pointer (some ⟨v,0,none⟩),.pointer (some ⟨z,0,none⟩),.pointer (some ⟨l,0,none⟩),.pointer (some ⟨j,0,none⟩)])<|?_
 exact⟨_,_,rfl,by kernel_rfl,i,yz (c:=16) ⟨by decide,by decide⟩ (aj.old hC i) s hne (ub p u) (Ne.symm (nb (aj.lt hC) a.size m)) (Ne.symm (nb (am hm) a.size m)) r (Ne.symm (nb (aj.lt hC) lr k)) (Ne.symm (nb (am hm) lr k)) (ub o y) (Ne.symm (nb (aj.lt hC) (le a.size b.size) d)) (Ne.symm (nb (am hm) (le a.size b.size) d)) n (Ne.symm (nb (aj.lt hC) (le (le (le a.size b.size) e.size) f.size) h)) (Ne.symm (nb (am hm) (le (le (le a.size b.size) e.size) f.size) h)) rfl⟩
theorem oZ{g gm:Nat}{C:ah}{w:World}(hC:aj w g C)(hm:w.heap[gm]? = some (.cells (mC 16) 30 (0,0)))(hne:g≠gm) : Calls Tryz.prog 204 #[.int .i64 1,.pointer (some ⟨gm,0,none⟩),.pointer (some ⟨g,0,none⟩)] w (ig (fun W=>cE g gm (bJ 123 16 C).1 (bJ 123 16 C).2 W) w):=by
 refine en 67 Tryz.func204 rfl<|sg<|L0<|dq #[.pointer (some ⟨gm,0,none⟩)] fun j E k t a=>L0<|dq #[.pointer (some ⟨g,0,none⟩)] fun l F m u b=>Pl 1<|ng<|Pl 1<|L0<|bE #[.nilFunc] fun v G d x e=>L0<|bX x 0 #[.func (.func 236) #[] #[.pointer (some ⟨l,0,none⟩),.pointer (some ⟨j,0,none⟩)]] fun H y f=>nl<|?_
 refine tn<|sg<|Pl 2<|L0<|bE #[.bool false] fun z I h A B=>L0<|bX A 0 #[.bool false] fun J n D=>nt<|sq<|sg<|?_
 have o:=ud B D h
 have p:=ud e (aF f o) d
 have q:=aF b p
 have r:=ub q t
 refine L0<|aU r 0<|Pl 2<|?_
 have i:=aF a q
 have s:=ub i hm
 refine L0<|aU s 0<|Pl 1<|nt<|bk<|sg<|L0<|aU n 0<|Pl 9<|nt<|c0<|sq<|sq<|?_
 refine go<|Pl 3<|nt<|c0<|sg<|Pl 3<|nt<|c0<|go<|Pl 7<|nl<|?_
 refine tn<|c0<|sg<|Pl 3<|nt<|c0<|sg<|Pl 3<|nt<|c1<|?_
 refine sg<|Pl 2<|nt<|rt<|br<|tr<|rr (.func (.func 241) #[] #[.pointer (some ⟨v,0,none⟩),.pointer (some ⟨z,0,none⟩),.pointer (some ⟨l,0,none⟩),.pointer (some ⟨j,0,none⟩)])<|?_
 exact⟨_,_,rfl,by kernel_rfl,i,yL (c:=16) ⟨by decide,by decide⟩ (aj.old hC i) s hne (ub p u) (Ne.symm (nb (aj.lt hC) a.size m)) (Ne.symm (nb (am hm) a.size m)) r (Ne.symm (nb (aj.lt hC) lr k)) (Ne.symm (nb (am hm) lr k)) (ub o y) (Ne.symm (nb (aj.lt hC) (le a.size b.size) d)) (Ne.symm (nb (am hm) (le a.size b.size) d)) n (Ne.symm (nb (aj.lt hC) (le (le (le a.size b.size) e.size) f.size) h)) (Ne.symm (nb (am hm) (le (le (le a.size b.size) e.size) f.size) h)) rfl⟩
theorem pY{g gm:Nat}{C:ah}{w:World}(hC:aj w g C)(hm:w.heap[gm]? = some (.cells (mC 22) 30 (0,0)))(hne:g≠gm) : Calls Tryz.prog 204 #[.int .i64 0,.pointer (some ⟨gm,0,none⟩),.pointer (some ⟨g,0,none⟩)] w (ig (fun W=>cE g gm (co 22 C).1 (co 22 C).2 W) w):=by
 refine en 67 Tryz.func204 rfl<|sg<|L0<|dq #[.pointer (some ⟨gm,0,none⟩)] fun d z e m a=>L0<|dq #[.pointer (some ⟨g,0,none⟩)] fun f A h n o=>Pl 1<|ng<|Pl 1<|L0<|bE #[.nilFunc] fun B D p q r=>L0<|bX q 0 #[.func (.func 236) #[] #[.pointer (some ⟨f,0,none⟩),.pointer (some ⟨d,0,none⟩)]] fun E F s=>nl<|?_
 refine tn<|sg<|Pl 2<|L0<|bE #[.bool false] fun G H t u v=>L0<|bX u 0 #[.bool true] fun I x y=>nt<|sq<|sg<|?_
 have i:=ud r (aF s (ud v y t)) p
 have j:=aF o i
 have k:=ub j m
 refine L0<|aU k 0<|Pl 2<|?_
 have b:=aF a j
 have l:=ub b hm
 refine L0<|aU l 0<|Pl 1<|nt<|bk<|sg<|L0<|aU x 0<|Pl 9<|nt<|c0<|sq<|sq<|?_
 refine go<|Pl 3<|nt<|c0<|sg<|Pl 3<|nt<|c0<|go<|Pl 7<|nl<|?_
 refine tn<|c0<|sg<|Pl 3<|nt<|c0<|sg<|Pl 3<|nt<|c0<|?_
 refine sg<|Pl 3<|nt<|c1<|sg<|Pl 2<|nt<|rt<|br<|tr<|?_
 refine rr (.func (.func 243) #[] #[.pointer (some ⟨f,0,none⟩),.pointer (some ⟨d,0,none⟩)])<|?_
 exact⟨_,_,rfl,by kernel_rfl,b,zo (c:=22) ⟨by decide,by decide⟩ (aj.old hC b) l hne (ub i n) (Ne.symm (nb (aj.lt hC) a.size h)) (Ne.symm (nb (am hm) a.size h)) k (Ne.symm (nb (aj.lt hC) lr e)) (Ne.symm (nb (am hm) lr e))⟩
theorem pz{g gm:Nat}{C:ah}{w:World}(hC:aj w g C)(hm:w.heap[gm]? = some (.cells (mC 22) 30 (0,0)))(hne:g≠gm) : Calls Tryz.prog 204 #[.int .i64 1,.pointer (some ⟨gm,0,none⟩),.pointer (some ⟨g,0,none⟩)] w (ig (fun W=>cE g gm (co 22 C).1 (co 22 C).2 W) w):=by
 refine en 67 Tryz.func204 rfl<|sg<|L0<|dq #[.pointer (some ⟨gm,0,none⟩)] fun d z e m a=>L0<|dq #[.pointer (some ⟨g,0,none⟩)] fun f A h n o=>Pl 1<|ng<|Pl 1<|L0<|bE #[.nilFunc] fun B D p q r=>L0<|bX q 0 #[.func (.func 236) #[] #[.pointer (some ⟨f,0,none⟩),.pointer (some ⟨d,0,none⟩)]] fun E F s=>nl<|?_
 refine tn<|sg<|Pl 2<|L0<|bE #[.bool false] fun G H t u v=>L0<|bX u 0 #[.bool false] fun I x y=>nt<|sq<|sg<|?_
 have i:=ud r (aF s (ud v y t)) p
 have j:=aF o i
 have k:=ub j m
 refine L0<|aU k 0<|Pl 2<|?_
 have b:=aF a j
 have l:=ub b hm
 refine L0<|aU l 0<|Pl 1<|nt<|bk<|sg<|L0<|aU x 0<|Pl 9<|nt<|c0<|sq<|sq<|?_
 refine go<|Pl 3<|nt<|c0<|sg<|Pl 3<|nt<|c0<|go<|Pl 7<|nl<|?_
 refine tn<|c0<|sg<|Pl 3<|nt<|c0<|sg<|Pl 3<|nt<|c0<|?_
 refine sg<|Pl 3<|nt<|c1<|sg<|Pl 2<|nt<|rt<|br<|tr<|?_
 refine rr (.func (.func 243) #[] #[.pointer (some ⟨f,0,none⟩),.pointer (some ⟨d,0,none⟩)])<|?_
 exact⟨_,_,rfl,by kernel_rfl,b,zo (c:=22) ⟨by decide,by decide⟩ (aj.old hC b) l hne (ub i n) (Ne.symm (nb (aj.lt hC) a.size h)) (Ne.symm (nb (am hm) a.size h)) k (Ne.symm (nb (aj.lt hC) lr e)) (Ne.symm (nb (am hm) lr e))⟩
theorem oY{g gm:Nat}{C:ah}{w:World}(hC:aj w g C)(hm:w.heap[gm]? = some (.cells (mC 23) 30 (0,0)))(hne:g≠gm) : Calls Tryz.prog 204 #[.int .i64 0,.pointer (some ⟨gm,0,none⟩),.pointer (some ⟨g,0,none⟩)] w (ig (fun W=>cE g gm (cF 23 C).1 (cF 23 C).2 W) w):=by
 refine en 67 Tryz.func204 rfl<|sg<|L0<|dq #[.pointer (some ⟨gm,0,none⟩)] fun f D h q a=>L0<|dq #[.pointer (some ⟨g,0,none⟩)] fun i E j r b=>Pl 1<|ng<|Pl 1<|L0<|bE #[.nilFunc] fun s F d t u=>L0<|bX t 0 #[.func (.func 236) #[] #[.pointer (some ⟨i,0,none⟩),.pointer (some ⟨f,0,none⟩)]] fun G v x=>nl<|?_
 refine tn<|sg<|Pl 2<|L0<|bE #[.bool false] fun H I y z A=>L0<|bX z 0 #[.bool true] fun J k B=>nt<|sq<|sg<|?_
 have l:=ud A B y
 have m:=ud u (aF x l) d
 have n:=aF b m
 have o:=ub n q
 refine L0<|aU o 0<|Pl 2<|?_
 have e:=aF a n
 have p:=ub e hm
 refine L0<|aU p 0<|Pl 1<|nt<|bk<|sg<|L0<|aU k 0<|Pl 9<|nt<|c0<|sq<|sq<|?_
 refine go<|Pl 3<|nt<|c0<|sg<|Pl 3<|nt<|c0<|go<|Pl 3<|L1<|aU k 0<|?_
 refine Pl 3<|nt<|c0<|sg<|Pl 3<|nt<|c0<|sg<|Pl 3<|nl<|?_
 refine tn<|c0<|sg<|Pl 3<|nt<|c0<|sg<|Pl 3<|nt<|c1<|?_
 refine sg<|Pl 2<|nt<|rt<|br<|tr<|rr (.func (.func 244) #[] #[.pointer (some ⟨s,0,none⟩),.pointer (some ⟨i,0,none⟩),.pointer (some ⟨f,0,none⟩)])<|?_
 exact⟨_,_,rfl,by kernel_rfl,e,zG (c:=23) ⟨by decide,by decide⟩ (aj.old hC e) p hne (ub m r) (Ne.symm (nb (aj.lt hC) a.size j)) (Ne.symm (nb (am hm) a.size j)) o (Ne.symm (nb (aj.lt hC) lr h)) (Ne.symm (nb (am hm) lr h)) (ub l v) (Ne.symm (nb (aj.lt hC) (le a.size b.size) d)) (Ne.symm (nb (am hm) (le a.size b.size) d))⟩
theorem pO{g gm:Nat}{C:ah}{w:World}(hC:aj w g C)(hm:w.heap[gm]? = some (.cells (mC 23) 30 (0,0)))(hne:g≠gm) : Calls Tryz.prog 204 #[.int .i64 1,.pointer (some ⟨gm,0,none⟩),.pointer (some ⟨g,0,none⟩)] w (ig (fun W=>cE g gm (bQ 23 C).1 (bQ 23 C).2 W) w):=by
 refine en 67 Tryz.func204 rfl<|sg<|L0<|dq #[.pointer (some ⟨gm,0,none⟩)] fun d z e n a=>L0<|dq #[.pointer (some ⟨g,0,none⟩)] fun f A h o p=>Pl 1<|ng<|Pl 1<|L0<|bE #[.nilFunc] fun B D q r s=>L0<|bX r 0 #[.func (.func 236) #[] #[.pointer (some ⟨f,0,none⟩),.pointer (some ⟨d,0,none⟩)]] fun E F t=>nl<|?_
 refine tn<|sg<|Pl 2<|L0<|bE #[.bool false] fun G H u v x=>L0<|bX v 0 #[.bool false] fun I i y=>nt<|sq<|sg<|?_
 have j:=ud s (aF t (ud x y u)) q
 have k:=aF p j
 have l:=ub k n
 refine L0<|aU l 0<|Pl 2<|?_
 have b:=aF a k
 have m:=ub b hm
 refine L0<|aU m 0<|Pl 1<|nt<|bk<|sg<|L0<|aU i 0<|Pl 9<|nt<|c0<|sq<|sq<|?_
 refine go<|Pl 3<|nt<|c0<|sg<|Pl 3<|nt<|c0<|go<|Pl 3<|L1<|aU i 0<|?_
 refine Pl 3<|nt<|c1<|sg<|Pl 2<|nt<|rt<|br<|tr<|rr (.func (.func 239) #[] #[.pointer (some ⟨f,0,none⟩),.pointer (some ⟨d,0,none⟩)])<|?_
 exact⟨_,_,rfl,by kernel_rfl,b,zi (c:=23) ⟨by decide,by decide⟩ (aj.old hC b) m hne (ub j o) (Ne.symm (nb (aj.lt hC) a.size h)) (Ne.symm (nb (am hm) a.size h)) l (Ne.symm (nb (aj.lt hC) lr e)) (Ne.symm (nb (am hm) lr e))⟩
theorem oT{g gm:Nat}{C:ah}{w:World}(hC:aj w g C)(hm:w.heap[gm]? = some (.cells (mC 24) 30 (0,0)))(hne:g≠gm) : Calls Tryz.prog 204 #[.int .i64 0,.pointer (some ⟨gm,0,none⟩),.pointer (some ⟨g,0,none⟩)] w (ig (fun W=>cE g gm (cH 24 C).1 (cH 24 C).2 W) w):=by
 refine en 67 Tryz.func204 rfl<|sg<|L0<|dq #[.pointer (some ⟨gm,0,none⟩)] fun d z e n a=>L0<|dq #[.pointer (some ⟨g,0,none⟩)] fun f A h o p=>Pl 1<|ng<|Pl 1<|L0<|bE #[.nilFunc] fun B D q r s=>L0<|bX r 0 #[.func (.func 236) #[] #[.pointer (some ⟨f,0,none⟩),.pointer (some ⟨d,0,none⟩)]] fun E F t=>nl<|?_
 refine tn<|sg<|Pl 2<|L0<|bE #[.bool false] fun G H u v x=>L0<|bX v 0 #[.bool true] fun I i y=>nt<|sq<|sg<|?_
 have j:=ud s (aF t (ud x y u)) q
 have k:=aF p j
 have l:=ub k n
 refine L0<|aU l 0<|Pl 2<|?_
 have b:=aF a k
 have m:=ub b hm
 refine L0<|aU m 0<|Pl 1<|nt<|bk<|sg<|L0<|aU i 0<|Pl 9<|nt<|c0<|sq<|sq<|?_
 refine go<|Pl 3<|nt<|c0<|sg<|Pl 3<|nt<|c0<|go<|Pl 7<|nl<|?_
 refine tn<|c0<|sg<|Pl 3<|nt<|c0<|sg<|Pl 3<|nt<|c0<|?_
 refine sg<|Pl 3<|nt<|c0<|sg<|Pl 3<|nt<|c0<|sg<|?_
 refine Pl 3<|L1<|aU i 0<|Pl 2<|nt<|c1<|sg<|Pl 2<|nt<|rt<|br<|tr<|?_
 refine rr (.func (.func 245) #[] #[.pointer (some ⟨f,0,none⟩),.pointer (some ⟨d,0,none⟩)])<|?_
 exact⟨_,_,rfl,by kernel_rfl,b,zI (c:=24) ⟨by decide,by decide⟩ (aj.old hC b) m hne (ub j o) (Ne.symm (nb (aj.lt hC) a.size h)) (Ne.symm (nb (am hm) a.size h)) l (Ne.symm (nb (aj.lt hC) lr e)) (Ne.symm (nb (am hm) lr e))⟩
theorem pA{g gm:Nat}{C:ah}{w:World}(hC:aj w g C)(hm:w.heap[gm]? = some (.cells (mC 24) 30 (0,0)))(hne:g≠gm) : Calls Tryz.prog 204 #[.int .i64 1,.pointer (some ⟨gm,0,none⟩),.pointer (some ⟨g,0,none⟩)] w (ig (fun W=>cE g gm (i9 24 C).1 (i9 24 C).2 W) w):=by
 refine en 67 Tryz.func204 rfl<|sg<|L0<|dq #[.pointer (some ⟨gm,0,none⟩)] fun d z e n a=>L0<|dq #[.pointer (some ⟨g,0,none⟩)] fun f A h o p=>Pl 1<|ng<|Pl 1<|L0<|bE #[.nilFunc] fun B D q r s=>L0<|bX r 0 #[.func (.func 236) #[] #[.pointer (some ⟨f,0,none⟩),.pointer (some ⟨d,0,none⟩)]] fun E F t=>nl<|?_
 refine tn<|sg<|Pl 2<|L0<|bE #[.bool false] fun G H u v x=>L0<|bX v 0 #[.bool false] fun I i y=>nt<|sq<|sg<|?_
 have j:=ud s (aF t (ud x y u)) q
 have k:=aF p j
 have l:=ub k n
 refine L0<|aU l 0<|Pl 2<|?_
 have b:=aF a k
 have m:=ub b hm
 refine L0<|aU m 0<|Pl 1<|nt<|bk<|sg<|L0<|aU i 0<|Pl 9<|nt<|c0<|sq<|sq<|?_
 refine go<|Pl 3<|nt<|c0<|sg<|Pl 3<|nt<|c0<|go<|Pl 7<|nl<|?_
 refine tn<|c0<|sg<|Pl 3<|nt<|c0<|sg<|Pl 3<|nt<|c0<|?_
 refine sg<|Pl 3<|nt<|c0<|sg<|Pl 3<|nt<|c0<|sg<|?_
 refine Pl 3<|L1<|aU i 0<|Pl 2<|nt<|c0<|sg<|Pl 3<|nt<|c1<|sg<|?_
 refine Pl 2<|nt<|rt<|br<|tr<|rr (.func (.func 246) #[] #[.pointer (some ⟨f,0,none⟩),.pointer (some ⟨d,0,none⟩)])<|?_
 exact⟨_,_,rfl,by kernel_rfl,b,zL (c:=24) ⟨by decide,by decide⟩ (aj.old hC b) m hne (ub j o) (Ne.symm (nb (aj.lt hC) a.size h)) (Ne.symm (nb (am hm) a.size h)) l (Ne.symm (nb (aj.lt hC) lr e)) (Ne.symm (nb (am hm) lr e))⟩
theorem pT{c:Int}{g gm:Nat}{C:ah}{w:World}(hC:aj w g C)(hm:w.heap[gm]? = some (.cells (mC c) 30 (0,0)))(hne:g≠gm)(k3:(c==3)=false)(k4:(c==4)=false)(k6:(c==6)=false)(f:(c==16)=false)(h:(c==22)=false)(a:(c==23)=false)(b:(c==24)=false) : Calls Tryz.prog 204 #[.int .i64 0,.pointer (some ⟨gm,0,none⟩),.pointer (some ⟨g,0,none⟩)] w (bP .nilFunc w):=by
 refine en 67 Tryz.func204 rfl<|sg<|L0<|dq #[.pointer (some ⟨gm,0,none⟩)] fun i x y j k=>L0<|dq #[.pointer (some ⟨g,0,none⟩)] fun l z A B m=>Pl 1<|ng<|Pl 1<|L0<|bE #[.nilFunc] fun D E n o p=>L0<|bX o 0 #[.func (.func 236) #[] #[.pointer (some ⟨l,0,none⟩),.pointer (some ⟨i,0,none⟩)]] fun F G q=>nl<|?_
 refine tn<|sg<|Pl 2<|L0<|bE #[.bool false] fun H I r s t=>L0<|bX s 0 #[.bool true] fun J u v=>nt<|sq<|sg<|?_
 have d:=aF m (ud p (aF q (ud t v r)) n)
 refine L0<|aU (ub d j) 0<|Pl 2<|?_
 have e:=aF k d
 refine L0<|aU (ub e hm) 0<|Pl 1<|nt<|bk<|sg<|L0<|aU u 0<|Pl 4<|sy 22 k3<|Pl 5<|nt<|cf k4<|?_
 refine sq<|sg<|Pl 3<|nt<|cf k3<|sg<|Pl 3<|nt<|cf k4<|go<|?_
 refine Pl 3<|sy 35 a<|Pl 4<|nt<|c0<|sg<|Pl 3<|nt<|cf k6<|sg<|?_
 refine Pl 3<|nt<|cf f<|sg<|Pl 3<|nt<|cf h<|sg<|Pl 3<|nl<|?_
 refine tn<|cf a<|sg<|Pl 3<|sy 59 b<|Pl 3<|nt<|c0<|sg<|Pl 3<|nl<|?_
 refine tn<|cf b<|sk<|bn<|tn<|sg<|Pl 1<|nt<|rt<|rr (.nilFunc)<|?_
 exact⟨rfl,e⟩
theorem pn{c:Int}{g gm:Nat}{C:ah}{w:World}(hC:aj w g C)(hm:w.heap[gm]? = some (.cells (mC c) 30 (0,0)))(hne:g≠gm)(k3:(c==3)=false)(k4:(c==4)=false)(k6:(c==6)=false)(f:(c==16)=false)(h:(c==22)=false)(a:(c==23)=false)(b:(c==24)=false) : Calls Tryz.prog 204 #[.int .i64 1,.pointer (some ⟨gm,0,none⟩),.pointer (some ⟨g,0,none⟩)] w (bP .nilFunc w):=by
 refine en 67 Tryz.func204 rfl<|sg<|L0<|dq #[.pointer (some ⟨gm,0,none⟩)] fun i x y j k=>L0<|dq #[.pointer (some ⟨g,0,none⟩)] fun l z A B m=>Pl 1<|ng<|Pl 1<|L0<|bE #[.nilFunc] fun D E n o p=>L0<|bX o 0 #[.func (.func 236) #[] #[.pointer (some ⟨l,0,none⟩),.pointer (some ⟨i,0,none⟩)]] fun F G q=>nl<|?_
 refine tn<|sg<|Pl 2<|L0<|bE #[.bool false] fun H I r s t=>L0<|bX s 0 #[.bool false] fun J u v=>nt<|sq<|sg<|?_
 have d:=aF m (ud p (aF q (ud t v r)) n)
 refine L0<|aU (ub d j) 0<|Pl 2<|?_
 have e:=aF k d
 refine L0<|aU (ub e hm) 0<|Pl 1<|nt<|bk<|sg<|L0<|aU u 0<|Pl 9<|nt<|c0<|sq<|sq<|?_
 refine go<|Pl 3<|nt<|cf k3<|sg<|Pl 3<|nt<|cf k4<|go<|Pl 3<|sy 35 a<|?_
 refine Pl 4<|nt<|c0<|sg<|Pl 3<|nt<|cf k6<|sg<|Pl 3<|nl<|?_
 refine tn<|cf f<|sg<|Pl 3<|nt<|cf h<|sg<|Pl 3<|nt<|cf a<|?_
 refine sg<|Pl 3<|sy 59 b<|Pl 3<|nt<|c0<|sg<|Pl 3<|nt<|cf b<|?_
 refine sk<|bn<|tn<|sg<|Pl 1<|nt<|rt<|rr (.nilFunc)<|?_
 exact⟨rfl,e⟩
theorem ku{dir c:Int}{r:ah × aQ}{g gm:Nat}{C:ah}{w:World}(hC:aj w g C)(hm:w.heap[gm]? = some (.cells (mC c) 30 (0,0)))(hne:g≠gm)(hd:dir=0∨dir=1)(h:aI dir c C=some r) : Calls Tryz.prog 204 #[.int .i64 dir,.pointer (some ⟨gm,0,none⟩),.pointer (some ⟨g,0,none⟩)] w (ig (fun W=>cE g gm r.1 r.2 W) w):=by
  by_cases h3:c=3
  · subst h3
    rcases hd with rfl|rfl
    · obtain rfl:bJ 125 3 C=r:=Option.some.inj h
      exact sx hC hm hne
    · obtain rfl:bQ 3 C=r:=Option.some.inj h
      exact rh hC hm hne
  by_cases h4:c=4
  · subst h4
    rcases hd with rfl|rfl
    · obtain rfl:bJ 125 4 C=r:=Option.some.inj h
      exact sH hC hm hne
    · obtain rfl:bQ 4 C=r:=Option.some.inj h
      exact rI hC hm hne
  by_cases h6:c=6
  · subst h6
    rcases hd with rfl|rfl
    · obtain rfl:d6 6 C=r:=Option.some.inj h
      exact s9 hC hm hne
    · obtain rfl:d6 6 C=r:=Option.some.inj h
      exact rc hC hm hne
  by_cases a:c=16
  · subst a
    rcases hd with rfl|rfl
    · obtain rfl:cI 16 C=r:=Option.some.inj h
      exact pX hC hm hne
    · obtain rfl:bJ 123 16 C=r:=Option.some.inj h
      exact oZ hC hm hne
  by_cases b:c=22
  · subst b
    rcases hd with rfl|rfl
    · obtain rfl:co 22 C=r:=Option.some.inj h
      exact pY hC hm hne
    · obtain rfl:co 22 C=r:=Option.some.inj h
      exact pz hC hm hne
  by_cases d:c=23
  · subst d
    rcases hd with rfl|rfl
    · obtain rfl:cF 23 C=r:=Option.some.inj h
      exact oY hC hm hne
    · obtain rfl:bQ 23 C=r:=Option.some.inj h
      exact pO hC hm hne
  by_cases e:c=24
  · subst e
    rcases hd with rfl|rfl
    · obtain rfl:cH 24 C=r:=Option.some.inj h
      exact oT hC hm hne
    · obtain rfl:i9 24 C=r:=Option.some.inj h
      exact pA hC hm hne
  exfalso
  unfold aI at h
  simp[h3,h4,h6,a,b,d,e] at h
theorem jV{dir c:Int}{g gm:Nat}{C:ah}{w:World}(hC:aj w g C)(hm:w.heap[gm]? = some (.cells (mC c) 30 (0,0)))(hne:g≠gm)(hd:dir=0∨dir=1)(h:aI dir c C=none) : Calls Tryz.prog 204 #[.int .i64 dir,.pointer (some ⟨gm,0,none⟩),.pointer (some ⟨g,0,none⟩)] w (bP .nilFunc w):=by
  have k3:(c==3)=false:=by
    cases hk:(c==3)
    · rfl
    · obtain rfl:c=3:=by simpa using hk
      rcases hd with rfl|rfl<;>cases h
  have k4:(c==4)=false:=by
    cases hk:(c==4)
    · rfl
    · obtain rfl:c=4:=by simpa using hk
      rcases hd with rfl|rfl<;>cases h
  have k6:(c==6)=false:=by
    cases hk:(c==6)
    · rfl
    · obtain rfl:c=6:=by simpa using hk
      rcases hd with rfl|rfl<;>cases h
  have a:(c==16)=false:=by
    cases hk:(c==16)
    · rfl
    · obtain rfl:c=16:=by simpa using hk
      rcases hd with rfl|rfl<;>cases h
  have b:(c==22)=false:=by
    cases hk:(c==22)
    · rfl
    · obtain rfl:c=22:=by simpa using hk
      rcases hd with rfl|rfl<;>cases h
  have d:(c==23)=false:=by
    cases hk:(c==23)
    · rfl
    · obtain rfl:c=23:=by simpa using hk
      rcases hd with rfl|rfl<;>cases h
  have e:(c==24)=false:=by
    cases hk:(c==24)
    · rfl
    · obtain rfl:c=24:=by simpa using hk
      rcases hd with rfl|rfl<;>cases h
  rcases hd with rfl|rfl
  · exact pT hC hm hne k3 k4 k6 a b d e
  · exact pn hC hm hne k3 k4 k6 a b d e
open Go.RowKit
theorem mS{m:Md}{A:Option Addr}{cp:Nat}{b:List Int}{w:World}{c:Int}(hcode:B8 c)(hsl:aT m w (.slice A b.length cp) b)(hb:b.length≤1048576) :
    Calls Tryz.prog 140 #[.int .i64 0,.int .u8 c,.slice A b.length cp] w (dP (ae aI 0 c b) w):=by
 obtain⟨hcode1,hcode2⟩:=hcode
 have hln:(b.length:Int)≤1048576:=by omega
 refine en 40 Tryz.func140 rfl<|sg<|L0<|bE mZ fun U V l j v=>Pl 1<|nt<|sq<|sg<|Pl 6<|nt<|c0<|?_
 refine bi<|sg<|Pl 2<|L0<|bE mZ fun W X g n K=>L0<|aW n (mC c) fun Y x o=>ng<|Pl 1<|?_
 have h:=ud K o g
 have p:=aF v h
 refine L0<|Oc<|e3 (dJ (aT.old hsl p) (by omega)) fun Z a0 d y a=>Pl 1<|ng<|Pl 2<|?_
 have z:=aF p a
 refine wo (aI 0 c ⟨b,false,0⟩) (fun hr=>?_) (fun r hr=>?_)
 refine L0<|Oc<|m1 (jV (dir:=0) (c:=c) y (ub a x) (Ne.symm (nb (am n) o.size d)) (Or.inl rfl) hr) fun a1 B=>Pl 1<|nt<|sq<|sg<|Pl 2<|nt<|c1<|sg<|Pl 1<|?_
 refine L0<|aW (ub (aF h (aF a B)) j) mZ fun a2 L M=>Pl 1<|nt<|rt<|tr<|bz L (.int .i64 4)<|?_
 have hs:ae aI 0 c b=(aQ.zero,4):=by
   unfold ae
   (try simp only[bs,if_true,if_false,decide_true,decide_false,eq_self,true_or,or_true,or_false,false_or,if_true,if_false,cl,cj,cm,ck,reduceIte,hr])
   all_goals rfl
 rw[hs]
 exact cJ (ud z (uz B M) l)
 have C:=nb (am n) o.size d
 refine L0<|Oc<|oO (ku (dir:=0) (c:=c) y (ub a x) (Ne.symm C) (Or.inl rfl) hr) fun N D a3 O E hcall51=>Pl 1<|nt<|sq<|sg<|Pl 2<|nt<|c0<|bi<|sq<|?_
 refine go<|Pl 1<|L0<|fN (f:=N) (args:=D) (hf:=O) #[] D<|m3 (hcall51) fun a4 F P G=>?_
 obtain⟨Q,k,q⟩:=P
 refine ng<|Pl 1<|L0<|Oc<|m2 (cy F) fun a5 H s=>nt<|sq<|sg<|Pl 1<|L0<|Oc<|mq (bD H)<|?_
 have a6:=aj.len H
 refine Pl 1<|ng<|Pl 2<|nt<|?_
 have t:=uz E (u1 G s im)
 have I:=ut z t (ac (ni p.size d) (ac (ni v.size g) au))
 refine cb ((r.1.endC.e != 0)) (fun i=>?_) (fun i=>?_)
 have u:=aq i
 refine sg<|Pl 2<|?_
 refine L0<|aW (ub (ud h (ud a t d) g) j) mZ fun a7 R S=>Pl 1<|nt<|rt<|tr<|bz R (.int .i64 r.1.endC.e)<|?_
 have hs:ae aI 0 c b=aH r.2 r.1:=by
   unfold ae
   (try simp only[i,bs,if_true,if_false,decide_true,decide_false,eq_self,true_or,or_true,or_false,false_or,if_true,if_false,cl,cj,cm,ck,reduceIte,hr])
   all_goals rfl
 rw[hs]
 exact bA u (ud I S l)
 have u:=ai i
 refine bi<|sg<|?_
 refine L0<|ci (hz:=(by rw[k.2];exact aS)) (aX s C k.1)<|?_
 refine L0<|aW (hz:=(by rw[k.2];exact aS)) (hv:=q.size) (h1:=q.one) (ub (ud h (ud a t d) g) j) (Q) fun a8 T J=>Pl 1<|nt<|rt<|eu 22 k.2 T (.int .i64 0)<|?_
 have hs:ae aI 0 c b=aH r.2 r.1:=by
   unfold ae
   (try simp only[i,bs,if_true,if_false,decide_true,decide_false,eq_self,true_or,or_true,or_false,false_or,if_true,if_false,cl,cj,cm,ck,reduceIte,hr])
   all_goals rfl
 rw[hs]
 exact bF u (aL.upd q (us s J) (ak (aj.safe F _ (by decide)) (ak (aM (ub (ud h (ud a (uz E G) d) g) j) (by decide)) aG))) (ud I J l)
theorem nc{m:Md}{A:Option Addr}{cp:Nat}{b:List Int}{w:World}{c:Int}(hcode:B8 c)(hsl:aT m w (.slice A b.length cp) b)(hb:b.length≤1048576) :
    Calls Tryz.prog 140 #[.int .i64 1,.int .u8 c,.slice A b.length cp] w (dP (ae aI 1 c b) w):=by
 obtain⟨hcode1,hcode2⟩:=hcode
 have hln:(b.length:Int)≤1048576:=by omega
 refine en 40 Tryz.func140 rfl<|sg<|L0<|bE mZ fun U V l j v=>Pl 1<|nt<|sq<|sg<|Pl 6<|nt<|c0<|?_
 refine bi<|sg<|Pl 2<|L0<|bE mZ fun W X g n K=>L0<|aW n (mC c) fun Y x o=>ng<|Pl 1<|?_
 have h:=ud K o g
 have p:=aF v h
 refine L0<|Oc<|e3 (dJ (aT.old hsl p) (by omega)) fun Z a0 d y a=>Pl 1<|ng<|Pl 2<|?_
 have z:=aF p a
 refine wo (aI 1 c ⟨b,false,0⟩) (fun hr=>?_) (fun r hr=>?_)
 refine L0<|Oc<|m1 (jV (dir:=1) (c:=c) y (ub a x) (Ne.symm (nb (am n) o.size d)) (Or.inr rfl) hr) fun a1 B=>Pl 1<|nt<|sq<|sg<|Pl 2<|nt<|c1<|sg<|Pl 1<|?_
 refine L0<|aW (ub (aF h (aF a B)) j) mZ fun a2 L M=>Pl 1<|nt<|rt<|tr<|bz L (.int .i64 4)<|?_
 have hs:ae aI 1 c b=(aQ.zero,4):=by
   unfold ae
   (try simp only[bs,if_true,if_false,decide_true,decide_false,eq_self,true_or,or_true,or_false,false_or,if_true,if_false,cl,cj,cm,ck,reduceIte,hr])
   all_goals rfl
 rw[hs]
 exact cJ (ud z (uz B M) l)
 have C:=nb (am n) o.size d
 refine L0<|Oc<|oO (ku (dir:=1) (c:=c) y (ub a x) (Ne.symm C) (Or.inr rfl) hr) fun N D a3 O E hcall51=>Pl 1<|nt<|sq<|sg<|Pl 2<|nt<|c0<|bi<|sq<|?_
 refine go<|Pl 1<|L0<|fN (f:=N) (args:=D) (hf:=O) #[] D<|m3 (hcall51) fun a4 F P G=>?_
 obtain⟨Q,k,q⟩:=P
 refine ng<|Pl 1<|L0<|Oc<|m2 (cy F) fun a5 H s=>nt<|sq<|sg<|Pl 1<|L0<|Oc<|mq (bD H)<|?_
 have a6:=aj.len H
 refine Pl 1<|ng<|Pl 2<|nt<|?_
 have t:=uz E (u1 G s im)
 have I:=ut z t (ac (ni p.size d) (ac (ni v.size g) au))
 refine cb ((r.1.endC.e != 0)) (fun i=>?_) (fun i=>?_)
 have u:=aq i
 refine sg<|Pl 2<|?_
 refine L0<|aW (ub (ud h (ud a t d) g) j) mZ fun a7 R S=>Pl 1<|nt<|rt<|tr<|bz R (.int .i64 r.1.endC.e)<|?_
 have hs:ae aI 1 c b=aH r.2 r.1:=by
   unfold ae
   (try simp only[i,bs,if_true,if_false,decide_true,decide_false,eq_self,true_or,or_true,or_false,false_or,if_true,if_false,cl,cj,cm,ck,reduceIte,hr])
   all_goals rfl
 rw[hs]
 exact bA u (ud I S l)
 have u:=ai i
 refine bi<|sg<|?_
 refine L0<|ci (hz:=(by rw[k.2];exact aS)) (aX s C k.1)<|?_
 refine L0<|aW (hz:=(by rw[k.2];exact aS)) (hv:=q.size) (h1:=q.one) (ub (ud h (ud a t d) g) j) (Q) fun a8 T J=>Pl 1<|nt<|rt<|eu 22 k.2 T (.int .i64 0)<|?_
 have hs:ae aI 1 c b=aH r.2 r.1:=by
   unfold ae
   (try simp only[i,bs,if_true,if_false,decide_true,decide_false,eq_self,true_or,or_true,or_false,false_or,if_true,if_false,cl,cj,cm,ck,reduceIte,hr])
   all_goals rfl
 rw[hs]
 exact bF u (aL.upd q (us s J) (ak (aj.safe F _ (by decide)) (ak (aM (ub (ud h (ud a (uz E G) d) g) j) (by decide)) aG))) (ud I J l)
theorem mB{m:Md}{A:Option Addr}{cp:Nat}{b:List Int}{w:World}{dir c:Int}(hcode:B8 c)(hsl:aT m w (.slice A b.length cp) b)(hb:b.length≤1048576)(hd:¬ (dir=0∨dir=1)) :
    Calls Tryz.prog 140 #[.int .i64 dir,.int .u8 c,.slice A b.length cp] w (dP (ae aI dir c b) w):=by
 obtain⟨hcode1,hcode2⟩:=hcode
 have hln:(b.length:Int)≤1048576:=by omega
 have e0:(dir != 0)=true:=by simp;omega
 have e1:(dir != 1)=true:=by simp;omega
 refine en 40 Tryz.func140 rfl<|sg<|L0<|bE mZ fun g h a d e=>Pl 1<|nt<|sq<|sg<|Pl 3<|sy 14 e0<|Pl 3<|nl<|?_
 refine tn<|ct e1<|sg<|Pl 1<|L0<|aW d mZ fun i dx f=>Pl 1<|nt<|rt<|tr<|bz dx (.int .i64 1)<|?_
 have hs:ae aI dir c b=(aQ.zero,1):=by
   unfold ae aI
   (try simp only[e0,e1,bs,if_true,if_false,decide_true,decide_false,eq_self,true_or,or_true,or_false,false_or,if_true,if_false,cl,cj,cm,ck,reduceIte,hd])
   all_goals rfl
 rw[hs]
 exact cJ (ud e f a)
theorem kC{m:Md}{v:Value}{b:List Int}{w:World}{dir c:Int}(hc:B8 c)(h:aT m w v b)(hb:b.length≤1048576) :
    Calls Tryz.prog 140 #[.int .i64 dir,.int .u8 c,v] w (dP (ae aI dir c b) w):=by
  obtain⟨A,cp,rfl,_,_⟩:=h.shape
  by_cases h0:dir=0
  · subst h0;exact mS hc h hb
  by_cases h1:dir=1
  · subst h1;exact nc hc h hb
  exact mB hc h hb (by omega)
open Go.RowKit
theorem kD{most:Int}{g gm:Nat}{c:Int}{C:ah}{w:World}(hcode:B8 c)(hC:aj w g C)(hm:w.heap[gm]? = some (.cells (mC c) 30 (0,0)))(hne:g≠gm) :
    Calls Tryz.prog 232 #[.agg #[.pointer (some ⟨g,0,none⟩),.pointer (some ⟨gm,0,none⟩)],.int .u16 most] w (pk g gm (bB C most) (mG c 0 C.wordV (C.wordsC 1).wordV 0 0 0 0 0 0 0 0 nS nS nS nS 0 0 0 0 0 nS) w):=by
 obtain⟨hcode1,hcode2⟩:=hcode
 have hlen:=hC.len
 refine en 51 Tryz.func232 rfl<|sg<|L0<|dq #[.pointer (some ⟨g,0,none⟩),.pointer (some ⟨gm,0,none⟩)] fun f an P a7 a8=>nt<|sq<|Rg 8 (fun w'=>w'.cell? ⟨f,1,none⟩=some (.pointer (some ⟨gm,0,none⟩))∧w'.cell? ⟨f,0,none⟩=some (.pointer (some ⟨g,0,none⟩))) fun ao Q=>?_
 have t:=ub Q a7
 refine bg ⟨(ag t rfl),(ag t rfl)⟩ fun o=>Rt 0 o<|Rl 1 o (fun _ hs=>hs.1)<|Rt 2 o<|Rl 3 o (fun _ hs=>hs.2)<|?_
 have R:=aF a8 Q
 refine R0 4 rfl<|Oc<|m3 (bR (aj.old hC R)) fun ap a9 S aq=>?_
 have h:=nb (aj.lt hC) lr P
 have u:=aX S (Ne.symm h) t
 refine bg ⟨(ag u rfl),(ag u rfl)⟩ fun T=>Rt 5 T<|Rt 6 T<|?_
 have U:=uz R S
 have V:=aX U (Ne.symm hne) hm
 refine R0 7 rfl<|bX V 2 (mG c 0 C.wordV 0 0 0 0 0 0 0 0 0 nS nS nS nS 0 0 0 0 0 nS) fun ar ab W=>?_
 have X:=nb (am hm) lr P
 have v:=aX W (Ne.symm X) u
 refine bg ⟨(ag v rfl),(ag v rfl)⟩ fun au=>re<|tn<|sq<|Rg 8 (fun w'=>w'.cell? ⟨f,1,none⟩=some (.pointer (some ⟨gm,0,none⟩))∧w'.cell? ⟨f,0,none⟩=some (.pointer (some ⟨g,0,none⟩))) fun av x=>?_
 have y:=ub x v
 refine bg ⟨(ag y rfl),(ag y rfl)⟩ fun p=>Rt 0 p<|Rl 1 p (fun _ hs=>hs.1)<|Rt 2 p<|Rl 3 p (fun _ hs=>hs.2)<|?_
 have Y:=aF W x
 refine R0 4 rfl<|Oc<|m3 (bR (aj.upd a9 Y (aa hne ay) (ak (aM V (by decide)) aG))) fun aw Z z ax=>?_
 have A:=aX z (Ne.symm h) y
 refine bg ⟨(ag A rfl),(ag A rfl)⟩ fun a0=>Rt 5 a0<|Rt 6 a0<|?_
 have B:=aX (uz x z) (Ne.symm hne) ab
 refine R0 7 rfl<|bX B 3 (mG c 0 C.wordV ((C.wordsC 1).wordV) 0 0 0 0 0 0 0 0 nS nS nS nS 0 0 0 0 0 nS) fun az ac a1=>?_
 have D:=aX a1 (Ne.symm X) A
 refine bg ⟨(ag D rfl),(ag D rfl)⟩ fun aA=>re<|tn<|sq<|Rg 18 (fun w'=>w'.cell? ⟨f,0,none⟩=some (.pointer (some ⟨g,0,none⟩))∧w'.cell? ⟨f,1,none⟩=some (.pointer (some ⟨gm,0,none⟩))∧w'.cell? ⟨gm,3,none⟩=some (.int .u16 ((C.wordsC 1).wordV))) fun aB E=>?_
 have q:=ub E D
 have F:=ub E ac
 refine bg ⟨(ag q rfl),(ag q rfl),(ag F rfl)⟩ fun b=>Rt 0 b<|Rl 1 b (fun _ hs=>hs.1)<|Rt 2 b<|Rl 3 b (fun _ hs=>hs.2.1)<|Rt 4 b<|Rt 5 b<|Rl 6 b (fun _ hs=>hs.2.2)<|Rt 7 b<|Rt 8 b<|?_
 have G:=aF a1 E
 have a2:=ui U (ui Y (us z G))
 refine rN 26 ((decide (1≤((C.wordsC 1).wordV)))) (fun i=>?_) (fun i=>?_)
 have ad:=of_decide_eq_true i
 refine Rt 9 b<|Rl 10 b (fun _ hs=>hs.2.1)<|Rt 11 b<|Rt 12 b<|Rl 13 b (fun _ hs=>hs.2.2)<|Rt 14 b<|Rt 15 b<|Rt 16 b<|?_
 refine R0 17 rfl<|Oc<|m2 (bf ((decide (((C.wordsC 1).wordV)≤most))) 5 (aj.upd Z G (aa hne ay) (ak (aM B (by decide)) aG))) fun aC ae H=>?_
 have I:=aX H (Ne.symm h) q
 have a3:=aX H (Ne.symm hne) F
 refine bg ⟨(ag I rfl),(ag I rfl),(ag a3 rfl)⟩ fun aD=>re<|tn<|Rg 15 (fun w'=>w'.cell? ⟨f,0,none⟩=some (.pointer (some ⟨g,0,none⟩))∧w'.cell? ⟨f,1,none⟩=some (.pointer (some ⟨gm,0,none⟩))∧w'.cell? ⟨gm,2,none⟩=some (.int .u16 C.wordV)∧w'.cell? ⟨gm,3,none⟩=some (.int .u16 ((C.wordsC 1).wordV))) fun aE r=>?_
 have j:=ub r I
 have k:=ub r a3
 refine bg ⟨(ag j rfl),(ag j rfl),(ag k rfl),(ag k rfl)⟩ fun d=>Rt 0 d<|Rl 1 d (fun _ hs=>hs.1)<|Rt 2 d<|Rl 3 d (fun _ hs=>hs.2.1)<|Rt 4 d<|Rt 5 d<|Rl 6 d (fun _ hs=>hs.2.2.1)<|Rt 7 d<|Rl 8 d (fun _ hs=>hs.2.1)<|Rt 9 d<|Rt 10 d<|Rl 11 d (fun _ hs=>hs.2.2.2)<|Rr 12 d (.int .i64 ((C.wordsC 1).wordV)) (fun _ _=>cg (.int .i64 (IntKind.i64.wrap ((C.wordsC 1).wordV))) (by kernel_rfl) (congrArg (Value.int .i64) (i64_in (by omega))))<|?_
 refine R0 13 rfl<|Oc<|mq (ie (a:=C.wordV) (n:=(C.wordsC 1).wordV) (by omega))<|bg ⟨(ag j rfl),(ag j rfl),(ag k rfl),(ag k rfl)⟩ fun aH=>?_
 refine R0 14 rfl<|Oc<|m2 (bf ((dp C.wordV ((C.wordsC 1).wordV))) 7 (aj.old ae r)) fun aI af J=>?_
 have a4:=aX J (Ne.symm h) j
 have K:=aX J (Ne.symm hne) k
 refine bg ⟨(ag a4 rfl),(ag a4 rfl),(ag K rfl),(ag K rfl)⟩ fun aJ=>re<|rm (.tuple #[])<|?_
 have hs:bB C most=((((C.wordsC 1).wordsC 1).need (decide (((C.wordsC 1).wordV)≤most)) 5).need (dp C.wordV ((C.wordsC 1).wordV)) 7):=by
   unfold bB jd
   (try simp only[i,bs,if_true,if_false,decide_true,decide_false,reduceIte])
   all_goals rfl
 rw[hs]
 exact⟨rfl,af,K,(u1 a2 (u1 H (uz r J) im) im)⟩
 have ad:=of_decide_eq_false i
 refine Ro 9 b<|Ro 10 b<|Ro 11 b<|Ro 12 b<|Ro 13 b<|Ro 14 b<|Ro 15 b<|Rt 16 b<|?_
 refine R0 17 rfl<|Oc<|m2 (bf (false) 5 (aj.upd Z G (aa hne ay) (ak (aM B (by decide)) aG))) fun aK ai L=>?_
 have M:=aX L (Ne.symm h) q
 have a5:=aX L (Ne.symm hne) F
 refine bg ⟨(ag M rfl),(ag M rfl),(ag a5 rfl)⟩ fun aL=>re<|tn<|Rg 15 (fun w'=>w'.cell? ⟨f,0,none⟩=some (.pointer (some ⟨g,0,none⟩))∧w'.cell? ⟨f,1,none⟩=some (.pointer (some ⟨gm,0,none⟩))∧w'.cell? ⟨gm,2,none⟩=some (.int .u16 C.wordV)∧w'.cell? ⟨gm,3,none⟩=some (.int .u16 ((C.wordsC 1).wordV))) fun aN s=>?_
 have l:=ub s M
 have m:=ub s a5
 refine bg ⟨(ag l rfl),(ag l rfl),(ag m rfl),(ag m rfl)⟩ fun e=>Rt 0 e<|Rl 1 e (fun _ hs=>hs.1)<|Rt 2 e<|Rl 3 e (fun _ hs=>hs.2.1)<|Rt 4 e<|Rt 5 e<|Rl 6 e (fun _ hs=>hs.2.2.1)<|Rt 7 e<|Rl 8 e (fun _ hs=>hs.2.1)<|Rt 9 e<|Rt 10 e<|Rl 11 e (fun _ hs=>hs.2.2.2)<|Rr 12 e (.int .i64 ((C.wordsC 1).wordV)) (fun _ _=>cg (.int .i64 (IntKind.i64.wrap ((C.wordsC 1).wordV))) (by kernel_rfl) (congrArg (Value.int .i64) (i64_in (by omega))))<|?_
 refine R0 13 rfl<|Oc<|mq (ie (a:=C.wordV) (n:=(C.wordsC 1).wordV) (by omega))<|bg ⟨(ag l rfl),(ag l rfl),(ag m rfl),(ag m rfl)⟩ fun aO=>?_
 refine R0 14 rfl<|Oc<|m2 (bf ((dp C.wordV ((C.wordsC 1).wordV))) 7 (aj.old ai s)) fun aP al N=>?_
 have a6:=aX N (Ne.symm h) l
 have O:=aX N (Ne.symm hne) m
 refine bg ⟨(ag a6 rfl),(ag a6 rfl),(ag O rfl),(ag O rfl)⟩ fun aQ=>re<|rm (.tuple #[])<|?_
 have hs:bB C most=((((C.wordsC 1).wordsC 1).need false 5).need (dp C.wordV ((C.wordsC 1).wordV)) 7):=by
   unfold bB jd
   (try simp only[i,bs,if_true,if_false,decide_true,decide_false,reduceIte])
   all_goals rfl
 rw[hs]
 exact⟨rfl,al,O,(u1 a2 (u1 L (uz s N) im) im)⟩
theorem iJ{g gm:Nat}{c:Int}{C:ah}{w:World}(hcode:B8 c)(hC:aj w g C)(hm:w.heap[gm]? = some (.cells (mC c) 30 (0,0)))(hne:g≠gm) :
    Calls Tryz.prog 196 #[.agg #[.pointer (some ⟨g,0,none⟩),.pointer (some ⟨gm,0,none⟩)]] w (cE g gm (cK 2000 c C).1 (cK 2000 c C).2 w):=by
 obtain⟨hcode1,hcode2⟩:=hcode
 have hlen:=hC.len
 refine en 4 Tryz.func196 rfl<|sg<|L0<|dq #[.pointer (some ⟨g,0,none⟩),.pointer (some ⟨gm,0,none⟩)] fun i j k d a=>nt<|go<|L0<|ci d<|?_
 have b:=aj.old hC a
 refine L0<|Oc<|m3 (kD (most:=2000) ⟨hcode1,hcode2⟩ b (ub a hm) hne) fun l e f h=>?_
 have m:=(b).wordV
 have n:=bU (cN (b).rng 1)
 refine nl<|rm (.tuple #[])<|?_
 have hs:cK 2000 c C=((bB C 2000),(aQ.mk c 0 C.wordV ((C.wordsC 1).wordV) 0 0 0 0 0 0 0 0 [] [] [] [] 0 0 0 0 0 [])):=by
   unfold cK
   (try simp only[bs,if_true,if_false,decide_true,decide_false,reduceIte])
   all_goals rfl
 rw[hs]
 exact⟨rfl,e,⟨_,⟨f,rfl⟩,⟨_,_,_,_,_,rfl,aK.nil ..,aK.nil ..,aK.nil ..,aK.nil ..,aK.nil ..,⟨(b8 (x:=c) (by omega)),(b8 (x:=0) (by omega)),(aB (x:=C.wordV) (by omega)),(aB (x:=(C.wordsC 1).wordV) (by omega)),(aB (x:=0) (by omega)),(aB (x:=0) (by omega)),(aB (x:=0) (by omega)),(aB (x:=0) (by omega)),(aB (x:=0) (by omega)),(aB (x:=0) (by omega)),(aB (x:=0) (by omega)),(aB (x:=0) (by omega)),(b8 (x:=0) (by omega)),(b8 (x:=0) (by omega)),(b8 (x:=0) (by omega)),(b8 (x:=0) (by omega)),(b8 (x:=0) (by omega))⟩⟩⟩,(uz a h)⟩
theorem lO{g gm:Nat}{c:Int}{C:ah}{w:World}(hcode:B8 c)(hC:aj w g C)(hm:w.heap[gm]? = some (.cells (mC c) 30 (0,0)))(hne:g≠gm) :
    Calls Tryz.prog 197 #[.agg #[.pointer (some ⟨g,0,none⟩),.pointer (some ⟨gm,0,none⟩)]] w (cE g gm (cA c C).1 (cA c C).2 w):=by
 obtain⟨hcode1,hcode2⟩:=hcode
 have hlen:=hC.len
 refine en 24 Tryz.func197 rfl<|sg<|L0<|dq #[.pointer (some ⟨g,0,none⟩),.pointer (some ⟨gm,0,none⟩)] fun j L k l m=>ng<|Pl 1<|L0<|aU l 0<|?_
 refine L0<|Oc<|m3 (bS (aj.old hC m)) fun M A o N=>Pl 1<|ng<|Pl 1<|?_
 have e:=nb (aj.lt hC) lr k
 have p:=aX o (Ne.symm e) l
 refine L0<|aU p 0<|Pl 3<|cu 3 [10] 13 (((decide (1≤C.byteV))&&(decide (C.byteV≤250)))) (fun K q=>?_) ?_
 refine bl 10 ((decide (1≤C.byteV))) (fun b=>?_) (fun b=>?_)
 have B:=of_decide_eq_true b
 exact Pl 3<|ce q (decide (C.byteV≤250)) (by rw[b];rfl)
 have B:=of_decide_eq_false b
 exact Pl 3<|ce q false (by rw[b];rfl)
 refine L0<|Oc<|m2 (bf (((decide (1≤C.byteV))&&(decide (C.byteV≤250)))) 5 A) fun O D E=>nt<|Rg 10 (fun w'=>w'.cell? ⟨j,1,none⟩=some (.pointer (some ⟨gm,0,none⟩))∧w'.cell? ⟨j,0,none⟩=some (.pointer (some ⟨g,0,none⟩))) fun P r=>?_
 have s:=aF E r
 have f:=aX s (Ne.symm e) p
 refine bg ⟨(ag f rfl),(ag f rfl)⟩ fun a=>Rt 0 a<|Rl 1 a (fun _ hs=>hs.1)<|Rt 2 a<|Rl 3 a (fun _ hs=>hs.2)<|Rt 4 a<|Rr 5 a (.int .i64 C.byteV) (fun _ _=>cg (.int .i64 (IntKind.i64.wrap C.byteV)) (by kernel_rfl) (congrArg (Value.int .i64) (i64_in (by omega))))<|?_
 have t:=aj.old D r
 refine R0 6 rfl<|Oc<|s3 (cD (n:=C.byteV) t) fun F G Q H R S I u=>?_
 have T:=Nat.le_trans (ah.bytesR_le ((C.bytesC 1).need ((decide (1≤C.byteV))&&(decide (C.byteV≤250))) 5) C.byteV) (aj.len t)
 have h:=aX u (Ne.symm e) f
 refine bg ⟨(ag h rfl),(ag h rfl)⟩ fun v=>Rt 7 v<|Rt 8 v<|?_
 have y:=uz m (u1 o (u1 s u im) im)
 have i:=aX y (Ne.symm hne) hm
 refine R0 9 rfl<|bX i 14 (mG c 0 0 0 0 0 0 0 0 0 0 0 nS nS (.slice F ((((C.bytesC 1).need ((decide (1≤C.byteV))&&(decide (C.byteV≤250))) 5).bytesR C.byteV).length) G) nS 0 0 0 0 0 nS) fun U J d=>?_
 have z:=aX d (Ne.symm (nb (am hm) lr k)) h
 refine bg ⟨(ag z rfl),(ag z rfl)⟩ fun V=>re<|rm (.tuple #[])<|?_
 have hs:cA c C=((((C.bytesC 1).need ((decide (1≤C.byteV))&&(decide (C.byteV≤250))) 5).bytesC C.byteV),(aQ.mk c 0 0 0 0 0 0 0 0 0 0 0 [] [] (((C.bytesC 1).need ((decide (1≤C.byteV))&&(decide (C.byteV≤250))) 5).bytesR C.byteV) [] 0 0 0 0 0 [])):=by
   unfold cA dl
   (try simp only[bs,if_true,if_false,decide_true,decide_false,reduceIte])
   all_goals rfl
 rw[hs]
 exact⟨rfl,(aj.upd I d (aa hne ay) (ak (aM i (by decide)) aG)),⟨_,⟨J,rfl⟩,⟨_,_,_,_,_,rfl,aK.nil ..,aK.nil ..,(aT.upd' H d (ak (aM i (by decide)) aG)),aK.nil ..,aK.nil ..,⟨(b8 (x:=c) (by omega)),(b8 (x:=0) (by omega)),(aB (x:=0) (by omega)),(aB (x:=0) (by omega)),(aB (x:=0) (by omega)),(aB (x:=0) (by omega)),(aB (x:=0) (by omega)),(aB (x:=0) (by omega)),(aB (x:=0) (by omega)),(aB (x:=0) (by omega)),(aB (x:=0) (by omega)),(aB (x:=0) (by omega)),(b8 (x:=0) (by omega)),(b8 (x:=0) (by omega)),(b8 (x:=0) (by omega)),(b8 (x:=0) (by omega)),(b8 (x:=0) (by omega))⟩⟩⟩,(us y d)⟩
theorem mj{g gm:Nat}{c:Int}{C:ah}{w:World}(hcode:B8 c)(hC:aj w g C)(hm:w.heap[gm]? = some (.cells (mC c) 30 (0,0)))(hne:g≠gm) :
    Calls Tryz.prog 198 #[.agg #[.pointer (some ⟨g,0,none⟩),.pointer (some ⟨gm,0,none⟩)]] w (cE g gm (cv c C).1 (cv c C).2 w):=by
 obtain⟨hcode1,hcode2⟩:=hcode
 have hlen:=hC.len
 refine en 33 Tryz.func198 rfl<|sg<|L0<|dq #[.pointer (some ⟨g,0,none⟩),.pointer (some ⟨gm,0,none⟩)] fun b a0 z S T=>nt<|sq<|Rg 8 (fun w'=>w'.cell? ⟨b,1,none⟩=some (.pointer (some ⟨gm,0,none⟩))∧w'.cell? ⟨b,0,none⟩=some (.pointer (some ⟨g,0,none⟩))) fun a1 A=>?_
 have j:=ub A S
 refine bg ⟨(ag j rfl),(ag j rfl)⟩ fun e=>Rt 0 e<|Rl 1 e (fun _ hs=>hs.1)<|Rt 2 e<|Rl 3 e (fun _ hs=>hs.2)<|?_
 have B:=aF T A
 refine R0 4 rfl<|Oc<|m3 (bR (aj.old hC B)) fun a2 U D a3=>?_
 have f:=nb (aj.lt hC) lr z
 have k:=aX D (Ne.symm f) j
 refine bg ⟨(ag k rfl),(ag k rfl)⟩ fun E=>Rt 5 E<|Rt 6 E<|?_
 have F:=uz B D
 have G:=aX F (Ne.symm hne) hm
 refine R0 7 rfl<|bX G 2 (mG c 0 C.wordV 0 0 0 0 0 0 0 0 0 nS nS nS nS 0 0 0 0 0 nS) fun a4 V H=>?_
 have I:=nb (am hm) lr z
 have l:=aX H (Ne.symm I) k
 refine bg ⟨(ag l rfl),(ag l rfl)⟩ fun a5=>re<|tn<|sq<|Rg 8 (fun w'=>w'.cell? ⟨b,1,none⟩=some (.pointer (some ⟨gm,0,none⟩))∧w'.cell? ⟨b,0,none⟩=some (.pointer (some ⟨g,0,none⟩))) fun a6 m=>?_
 have n:=ub m l
 refine bg ⟨(ag n rfl),(ag n rfl)⟩ fun h=>Rt 0 h<|Rl 1 h (fun _ hs=>hs.1)<|Rt 2 h<|Rl 3 h (fun _ hs=>hs.2)<|?_
 have J:=aF H m
 refine R0 4 rfl<|Oc<|m3 (bR (aj.upd U J (aa hne ay) (ak (aM G (by decide)) aG))) fun a7 K o a8=>?_
 have p:=aX o (Ne.symm f) n
 refine bg ⟨(ag p rfl),(ag p rfl)⟩ fun L=>Rt 5 L<|Rt 6 L<|?_
 have q:=aX (uz m o) (Ne.symm hne) V
 refine R0 7 rfl<|bX q 4 (mG c 0 C.wordV 0 ((C.wordsC 1).wordV) 0 0 0 0 0 0 0 nS nS nS nS 0 0 0 0 0 nS) fun a9 W M=>?_
 have r:=aX M (Ne.symm I) p
 refine bg ⟨(ag r rfl),(ag r rfl)⟩ fun ab=>re<|tn<|Rg 17 (fun w'=>w'.cell? ⟨b,0,none⟩=some (.pointer (some ⟨g,0,none⟩))∧w'.cell? ⟨b,1,none⟩=some (.pointer (some ⟨gm,0,none⟩))∧w'.cell? ⟨gm,4,none⟩=some (.int .u16 ((C.wordsC 1).wordV))) fun ac s=>?_
 have i:=ub s r
 have t:=ub s W
 refine bg ⟨(ag i rfl),(ag i rfl),(ag t rfl)⟩ fun a=>Rt 0 a<|Rl 1 a (fun _ hs=>hs.1)<|Rt 2 a<|Rl 3 a (fun _ hs=>hs.2.1)<|Rt 4 a<|Rt 5 a<|Rl 6 a (fun _ hs=>hs.2.2)<|Rt 7 a<|Rt 8 a<|?_
 have u:=aF M s
 have N:=ui F (ui J (us o u))
 refine rN 24 ((((C.wordsC 1).wordV)==0)) (fun d=>?_) (fun d=>?_)
 have X:=al d
 refine Ro 9 a<|Ro 10 a<|Ro 11 a<|Ro 12 a<|Ro 13 a<|Ro 14 a<|Rt 15 a<|?_
 refine R0 16 rfl<|Oc<|m2 (bf (true) 6 (aj.upd K u (aa hne ay) (ak (aM q (by decide)) aG))) fun ad Y v=>?_
 have O:=aX v (Ne.symm f) i
 have P:=aX v (Ne.symm hne) t
 refine bg ⟨(ag O rfl),(ag O rfl),(ag P rfl)⟩ fun ae=>re<|rm (.tuple #[])<|?_
 have hs:cv c C=((((C.wordsC 1).wordsC 1).need true 6),(aQ.mk c 0 C.wordV 0 ((C.wordsC 1).wordV) 0 0 0 0 0 0 0 [] [] [] [] 0 0 0 0 0 [])):=by
   unfold cv dZ
   (try simp only[d,bs,if_true,if_false,decide_true,decide_false,reduceIte])
   all_goals rfl
 rw[hs]
 exact⟨rfl,Y,⟨_,⟨P,rfl⟩,⟨_,_,_,_,_,rfl,aK.nil ..,aK.nil ..,aK.nil ..,aK.nil ..,aK.nil ..,⟨(b8 (x:=c) (by omega)),(b8 (x:=0) (by omega)),(aB (x:=C.wordV) (by omega)),(aB (x:=0) (by omega)),(aB (x:=(C.wordsC 1).wordV) (by omega)),(aB (x:=0) (by omega)),(aB (x:=0) (by omega)),(aB (x:=0) (by omega)),(aB (x:=0) (by omega)),(aB (x:=0) (by omega)),(aB (x:=0) (by omega)),(aB (x:=0) (by omega)),(b8 (x:=0) (by omega)),(b8 (x:=0) (by omega)),(b8 (x:=0) (by omega)),(b8 (x:=0) (by omega)),(b8 (x:=0) (by omega))⟩⟩⟩,(u1 N v im)⟩
 have X:=ap d
 refine Rt 9 a<|Rl 10 a (fun _ hs=>hs.2.1)<|Rt 11 a<|Rt 12 a<|Rl 13 a (fun _ hs=>hs.2.2)<|Rt 14 a<|Rt 15 a<|?_
 refine R0 16 rfl<|Oc<|m2 (bf ((((C.wordsC 1).wordV)==65280)) 6 (aj.upd K u (aa hne ay) (ak (aM q (by decide)) aG))) fun af Z y=>?_
 have Q:=aX y (Ne.symm f) i
 have R:=aX y (Ne.symm hne) t
 refine bg ⟨(ag Q rfl),(ag Q rfl),(ag R rfl)⟩ fun ai=>re<|rm (.tuple #[])<|?_
 have hs:cv c C=((((C.wordsC 1).wordsC 1).need (((C.wordsC 1).wordV)==65280) 6),(aQ.mk c 0 C.wordV 0 ((C.wordsC 1).wordV) 0 0 0 0 0 0 0 [] [] [] [] 0 0 0 0 0 [])):=by
   unfold cv dZ
   (try simp only[d,bs,if_true,if_false,decide_true,decide_false,reduceIte])
   all_goals rfl
 rw[hs]
 exact⟨rfl,Z,⟨_,⟨R,rfl⟩,⟨_,_,_,_,_,rfl,aK.nil ..,aK.nil ..,aK.nil ..,aK.nil ..,aK.nil ..,⟨(b8 (x:=c) (by omega)),(b8 (x:=0) (by omega)),(aB (x:=C.wordV) (by omega)),(aB (x:=0) (by omega)),(aB (x:=(C.wordsC 1).wordV) (by omega)),(aB (x:=0) (by omega)),(aB (x:=0) (by omega)),(aB (x:=0) (by omega)),(aB (x:=0) (by omega)),(aB (x:=0) (by omega)),(aB (x:=0) (by omega)),(aB (x:=0) (by omega)),(b8 (x:=0) (by omega)),(b8 (x:=0) (by omega)),(b8 (x:=0) (by omega)),(b8 (x:=0) (by omega)),(b8 (x:=0) (by omega))⟩⟩⟩,(u1 N y im)⟩
theorem tB{g gm:Nat}{c:Int}{C:ah}{w:World}(hcode:B8 c)(hC:aj w g C)(hm:w.heap[gm]? = some (.cells (mC c) 30 (0,0)))(hne:g≠gm) :
    Calls Tryz.prog 200 #[.agg #[.pointer (some ⟨g,0,none⟩),.pointer (some ⟨gm,0,none⟩)]] w (cE g gm (cK 1968 c C).1 (cK 1968 c C).2 w):=by
 obtain⟨hcode1,hcode2⟩:=hcode
 have hlen:=hC.len
 refine en 4 Tryz.func200 rfl<|sg<|L0<|dq #[.pointer (some ⟨g,0,none⟩),.pointer (some ⟨gm,0,none⟩)] fun i j k d a=>nt<|go<|L0<|ci d<|?_
 have b:=aj.old hC a
 refine L0<|Oc<|m3 (kD (most:=1968) ⟨hcode1,hcode2⟩ b (ub a hm) hne) fun l e f h=>?_
 have m:=(b).wordV
 have n:=bU (cN (b).rng 1)
 refine nl<|rm (.tuple #[])<|?_
 have hs:cK 1968 c C=((bB C 1968),(aQ.mk c 0 C.wordV ((C.wordsC 1).wordV) 0 0 0 0 0 0 0 0 [] [] [] [] 0 0 0 0 0 [])):=by
   unfold cK
   (try simp only[bs,if_true,if_false,decide_true,decide_false,reduceIte])
   all_goals rfl
 rw[hs]
 exact⟨rfl,e,⟨_,⟨f,rfl⟩,⟨_,_,_,_,_,rfl,aK.nil ..,aK.nil ..,aK.nil ..,aK.nil ..,aK.nil ..,⟨(b8 (x:=c) (by omega)),(b8 (x:=0) (by omega)),(aB (x:=C.wordV) (by omega)),(aB (x:=(C.wordsC 1).wordV) (by omega)),(aB (x:=0) (by omega)),(aB (x:=0) (by omega)),(aB (x:=0) (by omega)),(aB (x:=0) (by omega)),(aB (x:=0) (by omega)),(aB (x:=0) (by omega)),(aB (x:=0) (by omega)),(aB (x:=0) (by omega)),(b8 (x:=0) (by omega)),(b8 (x:=0) (by omega)),(b8 (x:=0) (by omega)),(b8 (x:=0) (by omega)),(b8 (x:=0) (by omega))⟩⟩⟩,(uz a h)⟩
theorem rG{g gm:Nat}{c:Int}{C:ah}{w:World}(hcode:B8 c)(hC:aj w g C)(hm:w.heap[gm]? = some (.cells (mC c) 30 (0,0)))(hne:g≠gm) :
    Calls Tryz.prog 200 #[.agg #[.pointer (some ⟨g,0,none⟩),.pointer (some ⟨gm,0,none⟩)]] w (pk g gm (bB C 1968) (mG c 0 C.wordV (C.wordsC 1).wordV 0 0 0 0 0 0 0 0 nS nS nS nS 0 0 0 0 0 nS) w):=by
 obtain⟨hcode1,hcode2⟩:=hcode
 have hlen:=hC.len
 refine en 4 Tryz.func200 rfl<|sg<|L0<|dq #[.pointer (some ⟨g,0,none⟩),.pointer (some ⟨gm,0,none⟩)] fun i j k d a=>nt<|go<|L0<|ci d<|?_
 have b:=aj.old hC a
 refine L0<|Oc<|m3 (kD (most:=1968) ⟨hcode1,hcode2⟩ b (ub a hm) hne) fun l e f h=>?_
 have m:=(b).wordV
 have n:=bU (cN (b).rng 1)
 refine nl<|rm (.tuple #[])<|?_
 have hs:bB C 1968=(bB C 1968):=by
   unfold bB jd
   (try simp only[bs,if_true,if_false,decide_true,decide_false,reduceIte])
   all_goals rfl
 rw[hs]
 exact⟨rfl,e,f,(uz a h)⟩
theorem uT{g gm:Nat}{c:Int}{C:ah}{w:World}(hcode:B8 c)(hC:aj w g C)(hm:w.heap[gm]? = some (.cells (mC c) 30 (0,0)))(hne:g≠gm) :
    Calls Tryz.prog 199 #[.agg #[.pointer (some ⟨g,0,none⟩),.pointer (some ⟨gm,0,none⟩)]] w (cE g gm (eC c C).1 (eC c C).2 w):=by
 obtain⟨hcode1,hcode2⟩:=hcode
 have hlen:=hC.len
 refine en 46 Tryz.func199 rfl<|sg<|L0<|dq #[.pointer (some ⟨g,0,none⟩),.pointer (some ⟨gm,0,none⟩)] fun o a3 F G f=>ng<|L0<|ci G<|?_
 have t:=aj.old hC f
 refine L0<|Oc<|m3 (rG ⟨hcode1,hcode2⟩ t (ub f hm) hne) fun a4 Q R p=>?_
 have a5:=(t).wordV
 have a6:=bU (cN (t).rng 1)
 refine ng<|Pl 1<|?_
 have i:=nb (aj.lt hC) lr F
 have H:=aD.blk p (aa (Ne.symm i) (aa (Ne.symm (nb (am hm) lr F)) ay)) G
 refine L0<|aU H 0<|L0<|Oc<|m3 (bS Q) fun a7 S u a8=>L0<|Oi ((bB C 1968).byteV)<|Pl 1<|nt<|sq<|Rg 12 (fun w'=>w'.cell? ⟨o,0,none⟩=some (.pointer (some ⟨g,0,none⟩))∧w'.cell? ⟨o,1,none⟩=some (.pointer (some ⟨gm,0,none⟩))∧w'.cell? ⟨gm,3,none⟩=some (.int .u16 ((C.wordsC 1).wordV))) fun a9 q=>?_
 have v:=aF u q
 have j:=aX v (Ne.symm i) H
 have y:=aX v (Ne.symm hne) R
 refine bg ⟨(ag j rfl),(ag j rfl),(ag y rfl)⟩ fun a=>Rt 0 a<|Rl 1 a (fun _ hs=>hs.1)<|Rt 2 a<|Rt 3 a<|Rl 4 a (fun _ hs=>hs.2.1)<|Rt 5 a<|Rt 6 a<|Rl 7 a (fun _ hs=>hs.2.2)<|Rr 8 a (.int .i64 ((C.wordsC 1).wordV)) (fun _ _=>cg (.int .i64 (IntKind.i64.wrap ((C.wordsC 1).wordV))) (by kernel_rfl) (congrArg (Value.int .i64) (i64_in (by omega))))<|R0 9 rfl<|Oc<|mq (iB (n:=(C.wordsC 1).wordV) (by omega))<|bg ⟨(ag j rfl),(ag j rfl),(ag y rfl)⟩ fun T=>Rt 10 T<|?_
 refine R0 11 rfl<|Oc<|m2 (bf ((((bB C 1968).byteV)==(dC ((C.wordsC 1).wordV)))) 5 (aj.old S q)) fun ab U k=>?_
 have z:=aX k (Ne.symm i) j
 have I:=aX k (Ne.symm hne) y
 refine bg ⟨(ag z rfl),(ag z rfl),(ag I rfl)⟩ fun ad=>re<|tn<|sq<|Rg 16 (fun w'=>w'.cell? ⟨o,0,none⟩=some (.pointer (some ⟨g,0,none⟩))∧w'.cell? ⟨o,1,none⟩=some (.pointer (some ⟨gm,0,none⟩))∧w'.cell? ⟨gm,3,none⟩=some (.int .u16 ((C.wordsC 1).wordV))) fun ae d=>?_
 have A:=ub d z
 have J:=ub d I
 refine bg ⟨(ag A rfl),(ag A rfl),(ag J rfl)⟩ fun b=>Rt 0 b<|Rl 1 b (fun _ hs=>hs.1)<|Rt 2 b<|Rt 4 b<|Rl 5 b (fun _ hs=>hs.2.1)<|Rt 6 b<|Rt 7 b<|Rl 8 b (fun _ hs=>hs.2.2)<|Rr 9 b (.int .i64 ((C.wordsC 1).wordV)) (fun _ _=>cg (.int .i64 (IntKind.i64.wrap ((C.wordsC 1).wordV))) (by kernel_rfl) (congrArg (Value.int .i64) (i64_in (by omega))))<|?_
 have K:=aj.old U d
 refine R0 3 rfl<|Oc<|s3 (cD (n:=(bB C 1968).byteV) K) fun V W af X ai al Y l=>?_
 have an:=Nat.le_trans (ah.bytesR_le (((bB C 1968).bytesC 1).need (((bB C 1968).byteV)==(dC ((C.wordsC 1).wordV))) 5) ((bB C 1968).byteV)) (aj.len K)
 have B:=aX l (Ne.symm i) A
 have L:=aX l (Ne.symm hne) J
 refine bg ⟨(ag B rfl),(ag B rfl),(ag L rfl)⟩ fun ao=>R0 10 rfl<|Oc (args:=#[.slice V (((((bB C 1968).bytesC 1).need (((bB C 1968).byteV)==(dC ((C.wordsC 1).wordV))) 5).bytesR ((bB C 1968).byteV)).length) W,.int .i64 ((C.wordsC 1).wordV)])<|ej (pD X (by omega) (by omega) (by omega)) fun Z a0 ap D aq ar r=>?_
 have s:=ub r B
 have M:=ub r L
 refine bg ⟨(ag s rfl),(ag s rfl),(ag M rfl)⟩ fun m=>Rt 11 m<|Rt 12 m<|Rt 13 m<|Rt 14 m<|Rt 15 m<|re<|tn<|sg<|Pl 1<|L0<|aU s 0<|Pl 1<|?_
 refine L0<|Oc<|m2 (bf ((cn ((((bB C 1968).bytesC 1).need (((bB C 1968).byteV)==(dC ((C.wordsC 1).wordV))) 5).bytesR ((bB C 1968).byteV)) ((C.wordsC 1).wordV)).isSome) 6 (aj.old Y r)) fun av a1 E=>nt<|go<|Pl 1<|?_
 refine L0<|aU (aX E (Ne.symm i) s) 1<|Pl 3<|?_
 have N:=aX E (Ne.symm hne) M
 refine L0<|bX N 13 (mG c 0 C.wordV ((C.wordsC 1).wordV) 0 0 0 0 0 0 0 0 nS (.slice Z (((cn ((((bB C 1968).bytesC 1).need (((bB C 1968).byteV)==(dC ((C.wordsC 1).wordV))) 5).bytesR ((bB C 1968).byteV)) ((C.wordsC 1).wordV)).getD []).length) a0) nS nS 0 0 0 0 0 nS) fun aw a2 O=>nl<|rm (.tuple #[])<|?_
 have P:=us E O
 have hs:eC c C=((((((bB C 1968).bytesC 1).need (((bB C 1968).byteV)==(dC ((C.wordsC 1).wordV))) 5).bytesC ((bB C 1968).byteV)).need ((cn ((((bB C 1968).bytesC 1).need (((bB C 1968).byteV)==(dC ((C.wordsC 1).wordV))) 5).bytesR ((bB C 1968).byteV)) ((C.wordsC 1).wordV)).isSome) 6),(aQ.mk c 0 C.wordV ((C.wordsC 1).wordV) 0 0 0 0 0 0 0 0 [] ((cn ((((bB C 1968).bytesC 1).need (((bB C 1968).byteV)==(dC ((C.wordsC 1).wordV))) 5).bytesR ((bB C 1968).byteV)) ((C.wordsC 1).wordV)).getD []) [] [] 0 0 0 0 0 [])):=by
   unfold eC kR kS fo kq kE
   (try simp only[bs,if_true,if_false,decide_true,decide_false,reduceIte])
   all_goals rfl
 rw[hs]
 exact⟨rfl,(aj.upd a1 O (aa hne ay) (ak (aM N (by decide)) aG)),⟨_,⟨a2,rfl⟩,⟨_,_,_,_,_,rfl,aK.nil ..,((ax D P (fun x hx=>(aa (fun e=>(aA (aj.lt hC) (le (le (le (le (le (le f.size p.size) u.size) q.size) k.size) d.size) l.size) D) (e▸hx)) (aa (fun e=>(aA (am hm) (le (le (le (le (le (le f.size p.size) u.size) q.size) k.size) d.size) l.size) D) (e▸hx)) ay))) (fun _ _ h=>h))).rd,aK.nil ..,aK.nil ..,aK.nil ..,⟨(b8 (x:=c) (by omega)),(b8 (x:=0) (by omega)),(aB (x:=C.wordV) (by omega)),(aB (x:=(C.wordsC 1).wordV) (by omega)),(aB (x:=0) (by omega)),(aB (x:=0) (by omega)),(aB (x:=0) (by omega)),(aB (x:=0) (by omega)),(aB (x:=0) (by omega)),(aB (x:=0) (by omega)),(aB (x:=0) (by omega)),(aB (x:=0) (by omega)),(b8 (x:=0) (by omega)),(b8 (x:=0) (by omega)),(b8 (x:=0) (by omega)),(b8 (x:=0) (by omega)),(b8 (x:=0) (by omega))⟩⟩⟩,(uz f (ut p (ui v (ui k (uz d (ui l (uz r P))))) (ac im (ac im au))))⟩
open Go.RowKit
theorem wB(c:Int) : c=1∨c=2∨c=5∨c=15∨(c≠1∧c≠2∧c≠5∧c≠15):=by omega
theorem l0{m:Md}{A:Option Addr}{cp:Nat}{b:List Int}{w:World}{c:Int}(hcode:B8 c)(hsl:aT m w (.slice A b.length cp) b)(hb:b.length≤1048576) :
    Calls Tryz.prog 138 #[.int .i64 0,.int .u8 c,.slice A b.length cp] w (dP (ae aE 0 c b) w):=by
 obtain⟨hcode1,hcode2⟩:=hcode
 have hln:(b.length:Int)≤1048576:=by omega
 refine en 72 Tryz.func138 rfl<|sg<|L0<|bE mZ fun cL cM n k y=>Pl 1<|nt<|sq<|sg<|Pl 6<|nt<|c0<|?_
 refine bi<|sg<|Pl 2<|L0<|bE mZ fun a cN g o bx=>L0<|aW o (mC c) fun cO J p=>ng<|Pl 1<|?_
 have i:=ud bx p g
 have u:=aF y i
 refine L0<|Oc<|e3 (dJ (aT.old hsl u) (by omega)) fun d cP f s z=>Pl 1<|L0<|bE #[.pointer none,.pointer none] fun cQ cR r af bB=>L0<|aW af #[.pointer (some ⟨d,0,none⟩),.pointer (some ⟨a,0,none⟩)] fun cS bC ag=>ng<|L0<|vS fun cT cU al bG an=>?_
 have S:=ub an bC
 refine L0<|ci S<|Pl 1<|L0<|ci S<|Pl 2<|L0<|gg bG 1 fun cV bH ao=>?_
 have t:=nb (am af) ag.size al
 have T:=aX ao t S
 refine L0<|ci T<|Pl 1<|L0<|ci T<|Pl 2<|L0<|gg bH 2 fun cW bI ap=>?_
 have U:=aX ap t T
 refine L0<|ci U<|Pl 1<|L0<|ci U<|Pl 2<|L0<|gg bI 5 fun cX bJ ar=>?_
 have v:=aX ar t U
 refine L0<|ci v<|Pl 1<|L0<|ci v<|Pl 2<|L0<|gg bJ 15 fun cY B C=>Pl 2<|ng<|Pl 2<|?_
 have D:=ud bB (aF ag (ud an (u1 ao (u1 ap (u1 ar C im) im) im) al)) r
 have j:=aF z D
 have E:=aF u j
 rcases wB c with hk|hk|hk|hk|hk
 have k1:(c==1)=true:=by rw[hk];rfl
 have k2:(c==2)=false:=by rw[hk];rfl
 have k5:(c==5)=false:=by rw[hk];rfl
 have l:(c==15)=false:=by rw[hk];rfl
 refine L0<|n0 (hf:=(by subst hk;kernel_rfl)) B c (.agg #[.nilFunc,.nilFunc]) (some (0,.agg #[.func (.func 196) #[.agg #[.pointer (some ⟨d,0,none⟩),.pointer (some ⟨a,0,none⟩)]] #[],.func (.func 197) #[.agg #[.pointer (some ⟨d,0,none⟩),.pointer (some ⟨a,0,none⟩)]] #[]]))<|Pl 3<|L0<|bE #[.nilFunc,.nilFunc] fun cZ d0 bK bL bM=>L0<|aW bL #[.func (.func 196) #[.agg #[.pointer (some ⟨d,0,none⟩),.pointer (some ⟨a,0,none⟩)]] #[],.func (.func 197) #[.agg #[.pointer (some ⟨d,0,none⟩),.pointer (some ⟨a,0,none⟩)]] #[]] fun d1 bN bO=>Pl 1<|nt<|sq<|sg<|Pl 2<|nt<|c0<|?_
 refine bi<|sg<|Pl 2<|L0<|aU bN 0<|?_
 have V:=ud bM bO bK
 have av:=aF j V
 have aw:=nb (am o) p.size f
 refine L0<|fN #[.agg #[.pointer (some ⟨d,0,none⟩),.pointer (some ⟨a,0,none⟩)]] #[] (args:=#[.agg #[.pointer (some ⟨d,0,none⟩),.pointer (some ⟨a,0,none⟩)]])<|m3 (iJ (c:=c) ⟨hcode1,hcode2⟩ (aj.old s (aF D V)) (ub av J) (Ne.symm aw)) fun d2 bP bQ ax=>?_
 obtain⟨bR,K,W⟩:=bQ
 refine ab bP fun x89 az aA=>?_
 refine ng<|Pl 1<|?_
 have aB:=uz V ax
 have aC:=nb (aj.lt s) lr r
 have aI:=aD.blk (us C aB) (aa t (aa (Ne.symm aC) (aa (Ne.symm (nb (am o) (le p.size z.size) r)) ay))) v
 refine L0<|aU aI 0<|L0<|Oc<|m2 (cy aA) fun d3 aJ L=>nt<|sq<|sg<|Pl 1<|?_
 refine L0<|aU (aX L (Ne.symm aC) aI) 0<|L0<|Oc<|mq (bD aJ)<|?_
 have d4:=aj.len aJ
 refine Pl 1<|ng<|Pl 2<|nt<|?_
 have X:=u1 aB L im
 have aK:=ut E X (ac (ni u.size f) (ac (ni y.size g) au))
 refine cb ((x89.endC.e != 0)) (fun F=>?_) (fun F=>?_)
 have Y:=aq F
 refine sg<|Pl 2<|?_
 refine L0<|aW (ub (ud i (ud j X f) g) k) mZ fun d5 bS bT=>Pl 1<|nt<|rt<|tr<|bz bS (.int .i64 x89.endC.e)<|?_
 subst az
 have hs:ae aE 0 c b=aH ((cK 2000 c (ah.mk b false 0)).2) ((cK 2000 c (ah.mk b false 0)).1):=by
   unfold ae aE
   (try simp only[F,bs,if_true,if_false,decide_true,decide_false,eq_self,true_or,or_true,or_false,false_or,if_true,if_false,cl,cj,cm,ck,reduceIte,k1,k2,k5,l])
   all_goals rfl
 rw[hs]
 exact bA Y (ud aK bT n)
 have Y:=ai F
 refine bi<|sg<|?_
 refine L0<|ci (hz:=(by rw[K.2];exact aS)) (aX L aw K.1)<|?_
 refine L0<|aW (hz:=(by rw[K.2];exact aS)) (hv:=W.size) (h1:=W.one) (ub (ud i (ud j X f) g) k) (bR) fun d6 bU aN=>Pl 1<|nt<|rt<|eu 22 K.2 bU (.int .i64 0)<|?_
 subst az
 have hs:ae aE 0 c b=aH ((cK 2000 c (ah.mk b false 0)).2) ((cK 2000 c (ah.mk b false 0)).1):=by
   unfold ae aE
   (try simp only[F,bs,if_true,if_false,decide_true,decide_false,eq_self,true_or,or_true,or_false,false_or,if_true,if_false,cl,cj,cm,ck,reduceIte,k1,k2,k5,l])
   all_goals rfl
 rw[hs]
 exact bF Y (aL.upd W (us L aN) (ak (aj.safe aA _ (by decide)) (ak (aM (ub (ud i (ud av ax f) g) k) (by decide)) aG))) (ud aK aN n)
 have k1:(c==1)=false:=by rw[hk];rfl
 have k2:(c==2)=true:=by rw[hk];rfl
 have k5:(c==5)=false:=by rw[hk];rfl
 have l:(c==15)=false:=by rw[hk];rfl
 refine L0<|n0 (hf:=(by subst hk;kernel_rfl)) B c (.agg #[.nilFunc,.nilFunc]) (some (1,.agg #[.func (.func 196) #[.agg #[.pointer (some ⟨d,0,none⟩),.pointer (some ⟨a,0,none⟩)]] #[],.func (.func 197) #[.agg #[.pointer (some ⟨d,0,none⟩),.pointer (some ⟨a,0,none⟩)]] #[]]))<|Pl 3<|L0<|bE #[.nilFunc,.nilFunc] fun d7 d8 bV bW bX=>L0<|aW bW #[.func (.func 196) #[.agg #[.pointer (some ⟨d,0,none⟩),.pointer (some ⟨a,0,none⟩)]] #[],.func (.func 197) #[.agg #[.pointer (some ⟨d,0,none⟩),.pointer (some ⟨a,0,none⟩)]] #[]] fun d9 bY bZ=>Pl 1<|nt<|sq<|sg<|Pl 2<|nt<|c0<|?_
 refine bi<|sg<|Pl 2<|L0<|aU bY 0<|?_
 have Z:=ud bX bZ bV
 have aO:=aF j Z
 have aP:=nb (am o) p.size f
 refine L0<|fN #[.agg #[.pointer (some ⟨d,0,none⟩),.pointer (some ⟨a,0,none⟩)]] #[] (args:=#[.agg #[.pointer (some ⟨d,0,none⟩),.pointer (some ⟨a,0,none⟩)]])<|m3 (iJ (c:=c) ⟨hcode1,hcode2⟩ (aj.old s (aF D Z)) (ub aO J) (Ne.symm aP)) fun da c2 c3 aR=>?_
 obtain⟨c4,M,a0⟩:=c3
 refine ab c2 fun aV aY aZ=>?_
 refine ng<|Pl 1<|?_
 have b0:=uz Z aR
 have b1:=nb (aj.lt s) lr r
 have b2:=aD.blk (us C b0) (aa t (aa (Ne.symm b1) (aa (Ne.symm (nb (am o) (le p.size z.size) r)) ay))) v
 refine L0<|aU b2 0<|L0<|Oc<|m2 (cy aZ) fun db b3 N=>nt<|sq<|sg<|Pl 1<|?_
 refine L0<|aU (aX N (Ne.symm b1) b2) 0<|L0<|Oc<|mq (bD b3)<|?_
 have dc:=aj.len b3
 refine Pl 1<|ng<|Pl 2<|nt<|?_
 have a1:=u1 b0 N im
 have b4:=ut E a1 (ac (ni u.size f) (ac (ni y.size g) au))
 refine cb ((aV.endC.e != 0)) (fun G=>?_) (fun G=>?_)
 have a2:=aq G
 refine sg<|Pl 2<|?_
 refine L0<|aW (ub (ud i (ud j a1 f) g) k) mZ fun dd c5 c6=>Pl 1<|nt<|rt<|tr<|bz c5 (.int .i64 aV.endC.e)<|?_
 subst aY
 have hs:ae aE 0 c b=aH ((cK 2000 c (ah.mk b false 0)).2) ((cK 2000 c (ah.mk b false 0)).1):=by
   unfold ae aE
   (try simp only[G,bs,if_true,if_false,decide_true,decide_false,eq_self,true_or,or_true,or_false,false_or,if_true,if_false,cl,cj,cm,ck,reduceIte,k1,k2,k5,l])
   all_goals rfl
 rw[hs]
 exact bA a2 (ud b4 c6 n)
 have a2:=ai G
 refine bi<|sg<|?_
 refine L0<|ci (hz:=(by rw[M.2];exact aS)) (aX N aP M.1)<|?_
 refine L0<|aW (hz:=(by rw[M.2];exact aS)) (hv:=a0.size) (h1:=a0.one) (ub (ud i (ud j a1 f) g) k) (c4) fun de c7 b5=>Pl 1<|nt<|rt<|eu 22 M.2 c7 (.int .i64 0)<|?_
 subst aY
 have hs:ae aE 0 c b=aH ((cK 2000 c (ah.mk b false 0)).2) ((cK 2000 c (ah.mk b false 0)).1):=by
   unfold ae aE
   (try simp only[G,bs,if_true,if_false,decide_true,decide_false,eq_self,true_or,or_true,or_false,false_or,if_true,if_false,cl,cj,cm,ck,reduceIte,k1,k2,k5,l])
   all_goals rfl
 rw[hs]
 exact bF a2 (aL.upd a0 (us N b5) (ak (aj.safe aZ _ (by decide)) (ak (aM (ub (ud i (ud aO aR f) g) k) (by decide)) aG))) (ud b4 b5 n)
 have k1:(c==1)=false:=by rw[hk];rfl
 have k2:(c==2)=false:=by rw[hk];rfl
 have k5:(c==5)=true:=by rw[hk];rfl
 have l:(c==15)=false:=by rw[hk];rfl
 refine L0<|n0 (hf:=(by subst hk;kernel_rfl)) B c (.agg #[.nilFunc,.nilFunc]) (some (2,.agg #[.func (.func 198) #[.agg #[.pointer (some ⟨d,0,none⟩),.pointer (some ⟨a,0,none⟩)]] #[],.func (.func 198) #[.agg #[.pointer (some ⟨d,0,none⟩),.pointer (some ⟨a,0,none⟩)]] #[]]))<|Pl 3<|L0<|bE #[.nilFunc,.nilFunc] fun df dg c8 c9 ca=>L0<|aW c9 #[.func (.func 198) #[.agg #[.pointer (some ⟨d,0,none⟩),.pointer (some ⟨a,0,none⟩)]] #[],.func (.func 198) #[.agg #[.pointer (some ⟨d,0,none⟩),.pointer (some ⟨a,0,none⟩)]] #[]] fun dh cc cd=>Pl 1<|nt<|sq<|sg<|Pl 2<|nt<|c0<|?_
 refine bi<|sg<|Pl 2<|L0<|aU cc 0<|?_
 have a3:=ud ca cd c8
 have b6:=aF j a3
 have b7:=nb (am o) p.size f
 refine L0<|fN #[.agg #[.pointer (some ⟨d,0,none⟩),.pointer (some ⟨a,0,none⟩)]] #[] (args:=#[.agg #[.pointer (some ⟨d,0,none⟩),.pointer (some ⟨a,0,none⟩)]])<|m3 (mj (c:=c) ⟨hcode1,hcode2⟩ (aj.old s (aF D a3)) (ub b6 J) (Ne.symm b7)) fun di ce cf b8=>?_
 obtain⟨cg,O,a4⟩:=cf
 refine ab ce fun b9 ba bb=>?_
 refine ng<|Pl 1<|?_
 have bc:=uz a3 b8
 have bd:=nb (aj.lt s) lr r
 have be:=aD.blk (us C bc) (aa t (aa (Ne.symm bd) (aa (Ne.symm (nb (am o) (le p.size z.size) r)) ay))) v
 refine L0<|aU be 0<|L0<|Oc<|m2 (cy bb) fun dj bf P=>nt<|sq<|sg<|Pl 1<|?_
 refine L0<|aU (aX P (Ne.symm bd) be) 0<|L0<|Oc<|mq (bD bf)<|?_
 have dk:=aj.len bf
 refine Pl 1<|ng<|Pl 2<|nt<|?_
 have a5:=u1 bc P im
 have bg:=ut E a5 (ac (ni u.size f) (ac (ni y.size g) au))
 refine cb ((b9.endC.e != 0)) (fun H=>?_) (fun H=>?_)
 have a6:=aq H
 refine sg<|Pl 2<|?_
 refine L0<|aW (ub (ud i (ud j a5 f) g) k) mZ fun dl ch cn=>Pl 1<|nt<|rt<|tr<|bz ch (.int .i64 b9.endC.e)<|?_
 subst ba
 have hs:ae aE 0 c b=aH ((cv c (ah.mk b false 0)).2) ((cv c (ah.mk b false 0)).1):=by
   unfold ae aE
   (try simp only[H,bs,if_true,if_false,decide_true,decide_false,eq_self,true_or,or_true,or_false,false_or,if_true,if_false,cl,cj,cm,ck,reduceIte,k1,k2,k5,l])
   all_goals rfl
 rw[hs]
 exact bA a6 (ud bg cn n)
 have a6:=ai H
 refine bi<|sg<|?_
 refine L0<|ci (hz:=(by rw[O.2];exact aS)) (aX P b7 O.1)<|?_
 refine L0<|aW (hz:=(by rw[O.2];exact aS)) (hv:=a4.size) (h1:=a4.one) (ub (ud i (ud j a5 f) g) k) (cg) fun dm co bh=>Pl 1<|nt<|rt<|eu 22 O.2 co (.int .i64 0)<|?_
 subst ba
 have hs:ae aE 0 c b=aH ((cv c (ah.mk b false 0)).2) ((cv c (ah.mk b false 0)).1):=by
   unfold ae aE
   (try simp only[H,bs,if_true,if_false,decide_true,decide_false,eq_self,true_or,or_true,or_false,false_or,if_true,if_false,cl,cj,cm,ck,reduceIte,k1,k2,k5,l])
   all_goals rfl
 rw[hs]
 exact bF a6 (aL.upd a4 (us P bh) (ak (aj.safe bb _ (by decide)) (ak (aM (ub (ud i (ud b6 b8 f) g) k) (by decide)) aG))) (ud bg bh n)
 have k1:(c==1)=false:=by rw[hk];rfl
 have k2:(c==2)=false:=by rw[hk];rfl
 have k5:(c==5)=false:=by rw[hk];rfl
 have l:(c==15)=true:=by rw[hk];rfl
 refine L0<|n0 (hf:=(by subst hk;kernel_rfl)) B c (.agg #[.nilFunc,.nilFunc]) (some (3,.agg #[.func (.func 199) #[.agg #[.pointer (some ⟨d,0,none⟩),.pointer (some ⟨a,0,none⟩)]] #[],.func (.func 200) #[.agg #[.pointer (some ⟨d,0,none⟩),.pointer (some ⟨a,0,none⟩)]] #[]]))<|Pl 3<|L0<|bE #[.nilFunc,.nilFunc] fun dn dp cq cr cs=>L0<|aW cr #[.func (.func 199) #[.agg #[.pointer (some ⟨d,0,none⟩),.pointer (some ⟨a,0,none⟩)]] #[],.func (.func 200) #[.agg #[.pointer (some ⟨d,0,none⟩),.pointer (some ⟨a,0,none⟩)]] #[]] fun dq ct cu=>Pl 1<|nt<|sq<|sg<|Pl 2<|nt<|c0<|?_
 refine bi<|sg<|Pl 2<|L0<|aU ct 0<|?_
 have a7:=ud cs cu cq
 have bj:=aF j a7
 have bk:=nb (am o) p.size f
 refine L0<|fN #[.agg #[.pointer (some ⟨d,0,none⟩),.pointer (some ⟨a,0,none⟩)]] #[] (args:=#[.agg #[.pointer (some ⟨d,0,none⟩),.pointer (some ⟨a,0,none⟩)]])<|m3 (uT (c:=c) ⟨hcode1,hcode2⟩ (aj.old s (aF D a7)) (ub bj J) (Ne.symm bk)) fun dr bl cw bm=>?_
 obtain⟨cx,Q,a8⟩:=cw
 refine ng<|Pl 1<|?_
 have bn:=uz a7 bm
 have bo:=nb (aj.lt s) lr r
 have bp:=aD.blk (us C bn) (aa t (aa (Ne.symm bo) (aa (Ne.symm (nb (am o) (le p.size z.size) r)) ay))) v
 refine L0<|aU bp 0<|L0<|Oc<|m2 (cy bl) fun ds cz R=>?_
 refine ab cz fun bq br bt=>?_
 refine nt<|sq<|sg<|Pl 1<|?_
 refine L0<|aU (aX R (Ne.symm bo) bp) 0<|L0<|Oc<|mq (bD bt)<|?_
 have dt:=aj.len bt
 refine Pl 1<|ng<|Pl 2<|nt<|?_
 have a9:=u1 bn R im
 have bu:=ut E a9 (ac (ni u.size f) (ac (ni y.size g) au))
 refine cb ((bq.e != 0)) (fun I=>?_) (fun I=>?_)
 have ad:=aq I
 refine sg<|Pl 2<|?_
 refine L0<|aW (ub (ud i (ud j a9 f) g) k) mZ fun du cA cB=>Pl 1<|nt<|rt<|tr<|bz cA (.int .i64 bq.e)<|?_
 subst br
 have hs:ae aE 0 c b=aH ((eC c (ah.mk b false 0)).2) ((eC c (ah.mk b false 0)).1):=by
   unfold ae aE
   (try simp only[I,bs,if_true,if_false,decide_true,decide_false,eq_self,true_or,or_true,or_false,false_or,if_true,if_false,cl,cj,cm,ck,reduceIte,k1,k2,k5,l])
   all_goals rfl
 rw[hs]
 exact bA ad (ud bu cB n)
 have ad:=ai I
 refine bi<|sg<|?_
 refine L0<|ci (hz:=(by rw[Q.2];exact aS)) (aX R bk Q.1)<|?_
 refine L0<|aW (hz:=(by rw[Q.2];exact aS)) (hv:=a8.size) (h1:=a8.one) (ub (ud i (ud j a9 f) g) k) (cx) fun dv cC bv=>Pl 1<|nt<|rt<|eu 22 Q.2 cC (.int .i64 0)<|?_
 subst br
 have hs:ae aE 0 c b=aH ((eC c (ah.mk b false 0)).2) ((eC c (ah.mk b false 0)).1):=by
   unfold ae aE
   (try simp only[I,bs,if_true,if_false,decide_true,decide_false,eq_self,true_or,or_true,or_false,false_or,if_true,if_false,cl,cj,cm,ck,reduceIte,k1,k2,k5,l])
   all_goals rfl
 rw[hs]
 exact bF ad (aL.upd a8 (us R bv) (ak (aj.safe bl _ (by decide)) (ak (aM (ub (ud i (ud bj bm f) g) k) (by decide)) aG))) (ud bu bv n)
 have k1:(c==1)=false:=by simpa using hk.1
 have k2:(c==2)=false:=by simpa using hk.2.1
 have k5:(c==5)=false:=by simpa using hk.2.2.1
 have l:(c==15)=false:=by simpa using hk.2.2.2
 refine L0<|n0 (hf:=(yr (q:=.u8) (x:=c) #[⟨.int .u8 1,.agg #[.func (.func 196) #[.agg #[.pointer (some ⟨d,0,none⟩),.pointer (some ⟨a,0,none⟩)]] #[],.func (.func 197) #[.agg #[.pointer (some ⟨d,0,none⟩),.pointer (some ⟨a,0,none⟩)]] #[]],0⟩,⟨.int .u8 2,.agg #[.func (.func 196) #[.agg #[.pointer (some ⟨d,0,none⟩),.pointer (some ⟨a,0,none⟩)]] #[],.func (.func 197) #[.agg #[.pointer (some ⟨d,0,none⟩),.pointer (some ⟨a,0,none⟩)]] #[]],1⟩,⟨.int .u8 5,.agg #[.func (.func 198) #[.agg #[.pointer (some ⟨d,0,none⟩),.pointer (some ⟨a,0,none⟩)]] #[],.func (.func 198) #[.agg #[.pointer (some ⟨d,0,none⟩),.pointer (some ⟨a,0,none⟩)]] #[]],2⟩,⟨.int .u8 15,.agg #[.func (.func 199) #[.agg #[.pointer (some ⟨d,0,none⟩),.pointer (some ⟨a,0,none⟩)]] #[],.func (.func 200) #[.agg #[.pointer (some ⟨d,0,none⟩),.pointer (some ⟨a,0,none⟩)]] #[]],3⟩] (fk _ _ (by intro e he;simp only[List.mem_cons,List.not_mem_nil,or_false] at he;obtain⟨z1,z2,z5,dw⟩:=hk;rcases he with rfl | rfl | rfl | rfl<;>exact⟨_,rfl,fun h=>by simp_all⟩)))) B c (.agg #[.nilFunc,.nilFunc]) none<|Pl 3<|L0<|bE #[.nilFunc,.nilFunc] fun dx dy cD cE cF=>L0<|aW cE #[.nilFunc,.nilFunc] fun dz dA cG=>Pl 1<|nt<|sq<|sg<|Pl 2<|nt<|c1<|?_
 refine sg<|Pl 1<|?_
 have bw:=ud cF cG cD
 refine L0<|aW (ub (aF i (aF j bw)) k) mZ fun dB cH cI=>Pl 1<|nt<|rt<|tr<|bz cH (.int .i64 4)<|?_
 have hs:ae aE 0 c b=(aQ.zero,4):=by
   unfold ae aE
   (try simp only[bs,if_true,if_false,decide_true,decide_false,eq_self,true_or,or_true,or_false,false_or,if_true,if_false,cl,cj,cm,ck,reduceIte,k1,k2,k5,l])
   all_goals rfl
 rw[hs]
 exact cJ (ud E (uz bw cI) n)
theorem lq{m:Md}{A:Option Addr}{cp:Nat}{b:List Int}{w:World}{c:Int}(hcode:B8 c)(hsl:aT m w (.slice A b.length cp) b)(hb:b.length≤1048576) :
    Calls Tryz.prog 138 #[.int .i64 1,.int .u8 c,.slice A b.length cp] w (dP (ae aE 1 c b) w):=by
 obtain⟨hcode1,hcode2⟩:=hcode
 have hln:(b.length:Int)≤1048576:=by omega
 refine en 72 Tryz.func138 rfl<|sg<|L0<|bE mZ fun cM cN n k y=>Pl 1<|nt<|sq<|sg<|Pl 6<|nt<|c0<|?_
 refine bi<|sg<|Pl 2<|L0<|bE mZ fun a cO g o bx=>L0<|aW o (mC c) fun cP J p=>ng<|Pl 1<|?_
 have i:=ud bx p g
 have u:=aF y i
 refine L0<|Oc<|e3 (dJ (aT.old hsl u) (by omega)) fun d cQ f s z=>Pl 1<|L0<|bE #[.pointer none,.pointer none] fun cR cS r af bB=>L0<|aW af #[.pointer (some ⟨d,0,none⟩),.pointer (some ⟨a,0,none⟩)] fun cT bC ag=>ng<|L0<|vS fun cU cV al bG an=>?_
 have S:=ub an bC
 refine L0<|ci S<|Pl 1<|L0<|ci S<|Pl 2<|L0<|gg bG 1 fun cW bH ao=>?_
 have t:=nb (am af) ag.size al
 have T:=aX ao t S
 refine L0<|ci T<|Pl 1<|L0<|ci T<|Pl 2<|L0<|gg bH 2 fun cX bI ap=>?_
 have U:=aX ap t T
 refine L0<|ci U<|Pl 1<|L0<|ci U<|Pl 2<|L0<|gg bI 5 fun cY bJ ar=>?_
 have v:=aX ar t U
 refine L0<|ci v<|Pl 1<|L0<|ci v<|Pl 2<|L0<|gg bJ 15 fun cZ B C=>Pl 2<|ng<|Pl 2<|?_
 have D:=ud bB (aF ag (ud an (u1 ao (u1 ap (u1 ar C im) im) im) al)) r
 have j:=aF z D
 have E:=aF u j
 rcases wB c with hk|hk|hk|hk|hk
 have k1:(c==1)=true:=by rw[hk];rfl
 have k2:(c==2)=false:=by rw[hk];rfl
 have k5:(c==5)=false:=by rw[hk];rfl
 have l:(c==15)=false:=by rw[hk];rfl
 refine L0<|n0 (hf:=(by subst hk;kernel_rfl)) B c (.agg #[.nilFunc,.nilFunc]) (some (0,.agg #[.func (.func 196) #[.agg #[.pointer (some ⟨d,0,none⟩),.pointer (some ⟨a,0,none⟩)]] #[],.func (.func 197) #[.agg #[.pointer (some ⟨d,0,none⟩),.pointer (some ⟨a,0,none⟩)]] #[]]))<|Pl 3<|L0<|bE #[.nilFunc,.nilFunc] fun d0 d1 bK bL bM=>L0<|aW bL #[.func (.func 196) #[.agg #[.pointer (some ⟨d,0,none⟩),.pointer (some ⟨a,0,none⟩)]] #[],.func (.func 197) #[.agg #[.pointer (some ⟨d,0,none⟩),.pointer (some ⟨a,0,none⟩)]] #[]] fun d2 bN bO=>Pl 1<|nt<|sq<|sg<|Pl 2<|nt<|c0<|?_
 refine bi<|sg<|Pl 2<|L0<|aU bN 1<|?_
 have V:=ud bM bO bK
 have av:=aF j V
 have aw:=nb (am o) p.size f
 refine L0<|fN #[.agg #[.pointer (some ⟨d,0,none⟩),.pointer (some ⟨a,0,none⟩)]] #[] (args:=#[.agg #[.pointer (some ⟨d,0,none⟩),.pointer (some ⟨a,0,none⟩)]])<|m3 (lO (c:=c) ⟨hcode1,hcode2⟩ (aj.old s (aF D V)) (ub av J) (Ne.symm aw)) fun d3 bP bQ ax=>?_
 obtain⟨bR,K,W⟩:=bQ
 refine ab bP fun x89 az aA=>?_
 refine ng<|Pl 1<|?_
 have aB:=uz V ax
 have aC:=nb (aj.lt s) lr r
 have aI:=aD.blk (us C aB) (aa t (aa (Ne.symm aC) (aa (Ne.symm (nb (am o) (le p.size z.size) r)) ay))) v
 refine L0<|aU aI 0<|L0<|Oc<|m2 (cy aA) fun d4 aJ L=>nt<|sq<|sg<|Pl 1<|?_
 refine L0<|aU (aX L (Ne.symm aC) aI) 0<|L0<|Oc<|mq (bD aJ)<|?_
 have d5:=aj.len aJ
 refine Pl 1<|ng<|Pl 2<|nt<|?_
 have X:=u1 aB L im
 have aK:=ut E X (ac (ni u.size f) (ac (ni y.size g) au))
 refine cb ((x89.endC.e != 0)) (fun F=>?_) (fun F=>?_)
 have Y:=aq F
 refine sg<|Pl 2<|?_
 refine L0<|aW (ub (ud i (ud j X f) g) k) mZ fun d6 bS bT=>Pl 1<|nt<|rt<|tr<|bz bS (.int .i64 x89.endC.e)<|?_
 subst az
 have hs:ae aE 1 c b=aH ((cA c (ah.mk b false 0)).2) ((cA c (ah.mk b false 0)).1):=by
   unfold ae aE
   (try simp only[F,bs,if_true,if_false,decide_true,decide_false,eq_self,true_or,or_true,or_false,false_or,if_true,if_false,cl,cj,cm,ck,reduceIte,k1,k2,k5,l])
   all_goals rfl
 rw[hs]
 exact bA Y (ud aK bT n)
 have Y:=ai F
 refine bi<|sg<|?_
 refine L0<|ci (hz:=(by rw[K.2];exact aS)) (aX L aw K.1)<|?_
 refine L0<|aW (hz:=(by rw[K.2];exact aS)) (hv:=W.size) (h1:=W.one) (ub (ud i (ud j X f) g) k) (bR) fun d7 bU aN=>Pl 1<|nt<|rt<|eu 22 K.2 bU (.int .i64 0)<|?_
 subst az
 have hs:ae aE 1 c b=aH ((cA c (ah.mk b false 0)).2) ((cA c (ah.mk b false 0)).1):=by
   unfold ae aE
   (try simp only[F,bs,if_true,if_false,decide_true,decide_false,eq_self,true_or,or_true,or_false,false_or,if_true,if_false,cl,cj,cm,ck,reduceIte,k1,k2,k5,l])
   all_goals rfl
 rw[hs]
 exact bF Y (aL.upd W (us L aN) (ak (aj.safe aA _ (by decide)) (ak (aM (ub (ud i (ud av ax f) g) k) (by decide)) aG))) (ud aK aN n)
 have k1:(c==1)=false:=by rw[hk];rfl
 have k2:(c==2)=true:=by rw[hk];rfl
 have k5:(c==5)=false:=by rw[hk];rfl
 have l:(c==15)=false:=by rw[hk];rfl
 refine L0<|n0 (hf:=(by subst hk;kernel_rfl)) B c (.agg #[.nilFunc,.nilFunc]) (some (1,.agg #[.func (.func 196) #[.agg #[.pointer (some ⟨d,0,none⟩),.pointer (some ⟨a,0,none⟩)]] #[],.func (.func 197) #[.agg #[.pointer (some ⟨d,0,none⟩),.pointer (some ⟨a,0,none⟩)]] #[]]))<|Pl 3<|L0<|bE #[.nilFunc,.nilFunc] fun d8 d9 bV bW bX=>L0<|aW bW #[.func (.func 196) #[.agg #[.pointer (some ⟨d,0,none⟩),.pointer (some ⟨a,0,none⟩)]] #[],.func (.func 197) #[.agg #[.pointer (some ⟨d,0,none⟩),.pointer (some ⟨a,0,none⟩)]] #[]] fun da bY bZ=>Pl 1<|nt<|sq<|sg<|Pl 2<|nt<|c0<|?_
 refine bi<|sg<|Pl 2<|L0<|aU bY 1<|?_
 have Z:=ud bX bZ bV
 have aO:=aF j Z
 have aP:=nb (am o) p.size f
 refine L0<|fN #[.agg #[.pointer (some ⟨d,0,none⟩),.pointer (some ⟨a,0,none⟩)]] #[] (args:=#[.agg #[.pointer (some ⟨d,0,none⟩),.pointer (some ⟨a,0,none⟩)]])<|m3 (lO (c:=c) ⟨hcode1,hcode2⟩ (aj.old s (aF D Z)) (ub aO J) (Ne.symm aP)) fun db c2 c3 aR=>?_
 obtain⟨c4,M,a0⟩:=c3
 refine ab c2 fun aV aY aZ=>?_
 refine ng<|Pl 1<|?_
 have b0:=uz Z aR
 have b1:=nb (aj.lt s) lr r
 have b2:=aD.blk (us C b0) (aa t (aa (Ne.symm b1) (aa (Ne.symm (nb (am o) (le p.size z.size) r)) ay))) v
 refine L0<|aU b2 0<|L0<|Oc<|m2 (cy aZ) fun dc b3 N=>nt<|sq<|sg<|Pl 1<|?_
 refine L0<|aU (aX N (Ne.symm b1) b2) 0<|L0<|Oc<|mq (bD b3)<|?_
 have dd:=aj.len b3
 refine Pl 1<|ng<|Pl 2<|nt<|?_
 have a1:=u1 b0 N im
 have b4:=ut E a1 (ac (ni u.size f) (ac (ni y.size g) au))
 refine cb ((aV.endC.e != 0)) (fun G=>?_) (fun G=>?_)
 have a2:=aq G
 refine sg<|Pl 2<|?_
 refine L0<|aW (ub (ud i (ud j a1 f) g) k) mZ fun de c5 c6=>Pl 1<|nt<|rt<|tr<|bz c5 (.int .i64 aV.endC.e)<|?_
 subst aY
 have hs:ae aE 1 c b=aH ((cA c (ah.mk b false 0)).2) ((cA c (ah.mk b false 0)).1):=by
   unfold ae aE
   (try simp only[G,bs,if_true,if_false,decide_true,decide_false,eq_self,true_or,or_true,or_false,false_or,if_true,if_false,cl,cj,cm,ck,reduceIte,k1,k2,k5,l])
   all_goals rfl
 rw[hs]
 exact bA a2 (ud b4 c6 n)
 have a2:=ai G
 refine bi<|sg<|?_
 refine L0<|ci (hz:=(by rw[M.2];exact aS)) (aX N aP M.1)<|?_
 refine L0<|aW (hz:=(by rw[M.2];exact aS)) (hv:=a0.size) (h1:=a0.one) (ub (ud i (ud j a1 f) g) k) (c4) fun df c7 b5=>Pl 1<|nt<|rt<|eu 22 M.2 c7 (.int .i64 0)<|?_
 subst aY
 have hs:ae aE 1 c b=aH ((cA c (ah.mk b false 0)).2) ((cA c (ah.mk b false 0)).1):=by
   unfold ae aE
   (try simp only[G,bs,if_true,if_false,decide_true,decide_false,eq_self,true_or,or_true,or_false,false_or,if_true,if_false,cl,cj,cm,ck,reduceIte,k1,k2,k5,l])
   all_goals rfl
 rw[hs]
 exact bF a2 (aL.upd a0 (us N b5) (ak (aj.safe aZ _ (by decide)) (ak (aM (ub (ud i (ud aO aR f) g) k) (by decide)) aG))) (ud b4 b5 n)
 have k1:(c==1)=false:=by rw[hk];rfl
 have k2:(c==2)=false:=by rw[hk];rfl
 have k5:(c==5)=true:=by rw[hk];rfl
 have l:(c==15)=false:=by rw[hk];rfl
 refine L0<|n0 (hf:=(by subst hk;kernel_rfl)) B c (.agg #[.nilFunc,.nilFunc]) (some (2,.agg #[.func (.func 198) #[.agg #[.pointer (some ⟨d,0,none⟩),.pointer (some ⟨a,0,none⟩)]] #[],.func (.func 198) #[.agg #[.pointer (some ⟨d,0,none⟩),.pointer (some ⟨a,0,none⟩)]] #[]]))<|Pl 3<|L0<|bE #[.nilFunc,.nilFunc] fun dg dh c8 c9 ca=>L0<|aW c9 #[.func (.func 198) #[.agg #[.pointer (some ⟨d,0,none⟩),.pointer (some ⟨a,0,none⟩)]] #[],.func (.func 198) #[.agg #[.pointer (some ⟨d,0,none⟩),.pointer (some ⟨a,0,none⟩)]] #[]] fun di cc cd=>Pl 1<|nt<|sq<|sg<|Pl 2<|nt<|c0<|?_
 refine bi<|sg<|Pl 2<|L0<|aU cc 1<|?_
 have a3:=ud ca cd c8
 have b6:=aF j a3
 have b7:=nb (am o) p.size f
 refine L0<|fN #[.agg #[.pointer (some ⟨d,0,none⟩),.pointer (some ⟨a,0,none⟩)]] #[] (args:=#[.agg #[.pointer (some ⟨d,0,none⟩),.pointer (some ⟨a,0,none⟩)]])<|m3 (mj (c:=c) ⟨hcode1,hcode2⟩ (aj.old s (aF D a3)) (ub b6 J) (Ne.symm b7)) fun dj ce cf b8=>?_
 obtain⟨cg,O,a4⟩:=cf
 refine ab ce fun b9 ba bb=>?_
 refine ng<|Pl 1<|?_
 have bc:=uz a3 b8
 have bd:=nb (aj.lt s) lr r
 have be:=aD.blk (us C bc) (aa t (aa (Ne.symm bd) (aa (Ne.symm (nb (am o) (le p.size z.size) r)) ay))) v
 refine L0<|aU be 0<|L0<|Oc<|m2 (cy bb) fun dk bf P=>nt<|sq<|sg<|Pl 1<|?_
 refine L0<|aU (aX P (Ne.symm bd) be) 0<|L0<|Oc<|mq (bD bf)<|?_
 have dl:=aj.len bf
 refine Pl 1<|ng<|Pl 2<|nt<|?_
 have a5:=u1 bc P im
 have bg:=ut E a5 (ac (ni u.size f) (ac (ni y.size g) au))
 refine cb ((b9.endC.e != 0)) (fun H=>?_) (fun H=>?_)
 have a6:=aq H
 refine sg<|Pl 2<|?_
 refine L0<|aW (ub (ud i (ud j a5 f) g) k) mZ fun dm ch cn=>Pl 1<|nt<|rt<|tr<|bz ch (.int .i64 b9.endC.e)<|?_
 subst ba
 have hs:ae aE 1 c b=aH ((cv c (ah.mk b false 0)).2) ((cv c (ah.mk b false 0)).1):=by
   unfold ae aE
   (try simp only[H,bs,if_true,if_false,decide_true,decide_false,eq_self,true_or,or_true,or_false,false_or,if_true,if_false,cl,cj,cm,ck,reduceIte,k1,k2,k5,l])
   all_goals rfl
 rw[hs]
 exact bA a6 (ud bg cn n)
 have a6:=ai H
 refine bi<|sg<|?_
 refine L0<|ci (hz:=(by rw[O.2];exact aS)) (aX P b7 O.1)<|?_
 refine L0<|aW (hz:=(by rw[O.2];exact aS)) (hv:=a4.size) (h1:=a4.one) (ub (ud i (ud j a5 f) g) k) (cg) fun dn co bh=>Pl 1<|nt<|rt<|eu 22 O.2 co (.int .i64 0)<|?_
 subst ba
 have hs:ae aE 1 c b=aH ((cv c (ah.mk b false 0)).2) ((cv c (ah.mk b false 0)).1):=by
   unfold ae aE
   (try simp only[H,bs,if_true,if_false,decide_true,decide_false,eq_self,true_or,or_true,or_false,false_or,if_true,if_false,cl,cj,cm,ck,reduceIte,k1,k2,k5,l])
   all_goals rfl
 rw[hs]
 exact bF a6 (aL.upd a4 (us P bh) (ak (aj.safe bb _ (by decide)) (ak (aM (ub (ud i (ud b6 b8 f) g) k) (by decide)) aG))) (ud bg bh n)
 have k1:(c==1)=false:=by rw[hk];rfl
 have k2:(c==2)=false:=by rw[hk];rfl
 have k5:(c==5)=false:=by rw[hk];rfl
 have l:(c==15)=true:=by rw[hk];rfl
 refine L0<|n0 (hf:=(by subst hk;kernel_rfl)) B c (.agg #[.nilFunc,.nilFunc]) (some (3,.agg #[.func (.func 199) #[.agg #[.pointer (some ⟨d,0,none⟩),.pointer (some ⟨a,0,none⟩)]] #[],.func (.func 200) #[.agg #[.pointer (some ⟨d,0,none⟩),.pointer (some ⟨a,0,none⟩)]] #[]]))<|Pl 3<|L0<|bE #[.nilFunc,.nilFunc] fun dp dq cq cr cs=>L0<|aW cr #[.func (.func 199) #[.agg #[.pointer (some ⟨d,0,none⟩),.pointer (some ⟨a,0,none⟩)]] #[],.func (.func 200) #[.agg #[.pointer (some ⟨d,0,none⟩),.pointer (some ⟨a,0,none⟩)]] #[]] fun dr ct cu=>Pl 1<|nt<|sq<|sg<|Pl 2<|nt<|c0<|?_
 refine bi<|sg<|Pl 2<|L0<|aU ct 1<|?_
 have a7:=ud cs cu cq
 have bj:=aF j a7
 have bk:=nb (am o) p.size f
 refine L0<|fN #[.agg #[.pointer (some ⟨d,0,none⟩),.pointer (some ⟨a,0,none⟩)]] #[] (args:=#[.agg #[.pointer (some ⟨d,0,none⟩),.pointer (some ⟨a,0,none⟩)]])<|m3 (tB (c:=c) ⟨hcode1,hcode2⟩ (aj.old s (aF D a7)) (ub bj J) (Ne.symm bk)) fun ds cw cx bl=>?_
 obtain⟨cz,Q,a8⟩:=cx
 refine ab cw fun bm bn bo=>?_
 refine ng<|Pl 1<|?_
 have bp:=uz a7 bl
 have bq:=nb (aj.lt s) lr r
 have br:=aD.blk (us C bp) (aa t (aa (Ne.symm bq) (aa (Ne.symm (nb (am o) (le p.size z.size) r)) ay))) v
 refine L0<|aU br 0<|L0<|Oc<|m2 (cy bo) fun dt bt R=>nt<|sq<|sg<|Pl 1<|?_
 refine L0<|aU (aX R (Ne.symm bq) br) 0<|L0<|Oc<|mq (bD bt)<|?_
 have du:=aj.len bt
 refine Pl 1<|ng<|Pl 2<|nt<|?_
 have a9:=u1 bp R im
 have bu:=ut E a9 (ac (ni u.size f) (ac (ni y.size g) au))
 refine cb ((bm.endC.e != 0)) (fun I=>?_) (fun I=>?_)
 have ad:=aq I
 refine sg<|Pl 2<|?_
 refine L0<|aW (ub (ud i (ud j a9 f) g) k) mZ fun dv cB cC=>Pl 1<|nt<|rt<|tr<|bz cB (.int .i64 bm.endC.e)<|?_
 subst bn
 have hs:ae aE 1 c b=aH ((cK 1968 c (ah.mk b false 0)).2) ((cK 1968 c (ah.mk b false 0)).1):=by
   unfold ae aE
   (try simp only[I,bs,if_true,if_false,decide_true,decide_false,eq_self,true_or,or_true,or_false,false_or,if_true,if_false,cl,cj,cm,ck,reduceIte,k1,k2,k5,l])
   all_goals rfl
 rw[hs]
 exact bA ad (ud bu cC n)
 have ad:=ai I
 refine bi<|sg<|?_
 refine L0<|ci (hz:=(by rw[Q.2];exact aS)) (aX R bk Q.1)<|?_
 refine L0<|aW (hz:=(by rw[Q.2];exact aS)) (hv:=a8.size) (h1:=a8.one) (ub (ud i (ud j a9 f) g) k) (cz) fun dw cD bv=>Pl 1<|nt<|rt<|eu 22 Q.2 cD (.int .i64 0)<|?_
 subst bn
 have hs:ae aE 1 c b=aH ((cK 1968 c (ah.mk b false 0)).2) ((cK 1968 c (ah.mk b false 0)).1):=by
   unfold ae aE
   (try simp only[I,bs,if_true,if_false,decide_true,decide_false,eq_self,true_or,or_true,or_false,false_or,if_true,if_false,cl,cj,cm,ck,reduceIte,k1,k2,k5,l])
   all_goals rfl
 rw[hs]
 exact bF ad (aL.upd a8 (us R bv) (ak (aj.safe bo _ (by decide)) (ak (aM (ub (ud i (ud bj bl f) g) k) (by decide)) aG))) (ud bu bv n)
 have k1:(c==1)=false:=by simpa using hk.1
 have k2:(c==2)=false:=by simpa using hk.2.1
 have k5:(c==5)=false:=by simpa using hk.2.2.1
 have l:(c==15)=false:=by simpa using hk.2.2.2
 refine L0<|n0 (hf:=(yr (q:=.u8) (x:=c) #[⟨.int .u8 1,.agg #[.func (.func 196) #[.agg #[.pointer (some ⟨d,0,none⟩),.pointer (some ⟨a,0,none⟩)]] #[],.func (.func 197) #[.agg #[.pointer (some ⟨d,0,none⟩),.pointer (some ⟨a,0,none⟩)]] #[]],0⟩,⟨.int .u8 2,.agg #[.func (.func 196) #[.agg #[.pointer (some ⟨d,0,none⟩),.pointer (some ⟨a,0,none⟩)]] #[],.func (.func 197) #[.agg #[.pointer (some ⟨d,0,none⟩),.pointer (some ⟨a,0,none⟩)]] #[]],1⟩,⟨.int .u8 5,.agg #[.func (.func 198) #[.agg #[.pointer (some ⟨d,0,none⟩),.pointer (some ⟨a,0,none⟩)]] #[],.func (.func 198) #[.agg #[.pointer (some ⟨d,0,none⟩),.pointer (some ⟨a,0,none⟩)]] #[]],2⟩,⟨.int .u8 15,.agg #[.func (.func 199) #[.agg #[.pointer (some ⟨d,0,none⟩),.pointer (some ⟨a,0,none⟩)]] #[],.func (.func 200) #[.agg #[.pointer (some ⟨d,0,none⟩),.pointer (some ⟨a,0,none⟩)]] #[]],3⟩] (fk _ _ (by intro e he;simp only[List.mem_cons,List.not_mem_nil,or_false] at he;obtain⟨z1,z2,z5,dx⟩:=hk;rcases he with rfl | rfl | rfl | rfl<;>exact⟨_,rfl,fun h=>by simp_all⟩)))) B c (.agg #[.nilFunc,.nilFunc]) none<|Pl 3<|L0<|bE #[.nilFunc,.nilFunc] fun dy dz cE cF cG=>L0<|aW cF #[.nilFunc,.nilFunc] fun dA dB cH=>Pl 1<|nt<|sq<|sg<|Pl 2<|nt<|c1<|?_
 refine sg<|Pl 1<|?_
 have bw:=ud cG cH cE
 refine L0<|aW (ub (aF i (aF j bw)) k) mZ fun dC cI cL=>Pl 1<|nt<|rt<|tr<|bz cI (.int .i64 4)<|?_
 have hs:ae aE 1 c b=(aQ.zero,4):=by
   unfold ae aE
   (try simp only[bs,if_true,if_false,decide_true,decide_false,eq_self,true_or,or_true,or_false,false_or,if_true,if_false,cl,cj,cm,ck,reduceIte,k1,k2,k5,l])
   all_goals rfl
 rw[hs]
 exact cJ (ud E (uz bw cL) n)
theorem l8{m:Md}{A:Option Addr}{cp:Nat}{b:List Int}{w:World}{dir c:Int}(hcode:B8 c)(hsl:aT m w (.slice A b.length cp) b)(hb:b.length≤1048576)(hd:¬ (dir=0∨dir=1)) :
    Calls Tryz.prog 138 #[.int .i64 dir,.int .u8 c,.slice A b.length cp] w (dP (ae aE dir c b) w):=by
 obtain⟨hcode1,hcode2⟩:=hcode
 have hln:(b.length:Int)≤1048576:=by omega
 have e0:(dir != 0)=true:=by simp;omega
 have e1:(dir != 1)=true:=by simp;omega
 refine en 72 Tryz.func138 rfl<|sg<|L0<|bE mZ fun g h a d e=>Pl 1<|nt<|sq<|sg<|Pl 3<|sy 16 e0<|Pl 3<|nl<|?_
 refine tn<|ct e1<|sg<|Pl 1<|L0<|aW d mZ fun i dx f=>Pl 1<|nt<|rt<|tr<|bz dx (.int .i64 1)<|?_
 have hs:ae aE dir c b=(aQ.zero,1):=by
   unfold ae aE
   (try simp only[e0,e1,bs,if_true,if_false,decide_true,decide_false,eq_self,true_or,or_true,or_false,false_or,if_true,if_false,cl,cj,cm,ck,reduceIte,hd])
   all_goals rfl
 rw[hs]
 exact cJ (ud e f a)
theorem jw{m:Md}{v:Value}{b:List Int}{w:World}{dir c:Int}(hc:B8 c)(h:aT m w v b)(hb:b.length≤1048576) :
    Calls Tryz.prog 138 #[.int .i64 dir,.int .u8 c,v] w (dP (ae aE dir c b) w):=by
  obtain⟨A,cp,rfl,_,_⟩:=h.shape
  by_cases h0:dir=0
  · subst h0;exact l0 hc h hb
  by_cases h1:dir=1
  · subst h1;exact lq hc h hb
  exact l8 hc h hb (by omega)
open Go.RowKit
def dG (c:ah) : ah:=(c.wordsC 1).need (c.wordV==0 || c.wordV==65535) 6
theorem x9{v:Int}(h:0≤v∧v<65536) : bits .and .u16 v 255=v%256:=by
  rw[u16_and v 255 h.1 h.2 (by decide) (by decide)]
  show((v.toNat &&& (2 ^ 8-1) : Nat) : Int)=_
  rw[Nat.and_two_pow_sub_one_eq_mod]
  omega
def f7 (dir sub v:Int) : Bool:=if (sub==2 || (decide (11≤sub)&&decide (sub≤18)))&&dir==1 then true else if sub==1 then v==0 || v==65280 else if sub==3 then v%256==0 else v==0
theorem o4{g:Nat}{c:ah}{w:World}(hc:aj w g c) :
    Calls Tryz.prog 249 #[.pointer (some ⟨g,0,none⟩)] w (lU g .u16 65536 c.wordV (dG c) w):=by
 have hr:=hc.wordV
 refine en 15 Tryz.func249 rfl<|sg<|Pl 1<|ng<|Pl 1<|L0<|Oc<|m3 (bR hc) fun l d e m=>Pl 1<|nt<|sq<|?_
 refine go<|Pl 4<|cu 3 [9] 12 (((c.wordV==0)||(c.wordV==65535))) (fun K b=>?_) ?_
 refine bl 9 ((c.wordV==0)) (fun a=>?_) (fun a=>?_)
 have f:=al a
 exact Pl 3<|ce b true (by rw[a];rfl)
 have f:=ap a
 exact Pl 3<|ce b (c.wordV==65535) (by rw[a];rfl)
 refine L0<|Oc<|m2 (bf (((c.wordV==0)||(c.wordV==65535))) 6 d) fun n h i=>?_
 refine ab h fun x19 j k=>?_
 refine ng<|Pl 2<|nt<|rt<|rr (.int .u16 c.wordV)<|?_
 subst j
 exact⟨rfl,k,(u1 e i im),hr⟩
theorem tp{v:Int}{w:World}:Calls Tryz.prog 265 #[.int .u16 v] w (bP (.bool (v==0 || v==65280)) w):=by
 refine en 9 Tryz.func265 rfl<|sg<|Pl 1<|ng<|Pl 3<|cu 3 [5] 8 (((v==0)||(v==65280))) (fun K b=>?_) ?_
 refine bl 5 ((v==0)) (fun a=>?_) (fun a=>?_)
 have c:=al a
 exact Pl 3<|ce b true (by rw[a];rfl)
 have c:=ap a
 exact Pl 3<|ce b (v==65280) (by rw[a];rfl)
 refine Pl 1<|nt<|rt<|rr (.bool ((v==0)||(v==65280)))<|?_
 exact⟨rfl,(aD.refl [] _)⟩
theorem sQ{v:Int}{w:World}(hv:0≤v∧v<65536) : Calls Tryz.prog 266 #[.int .u16 v] w (bP (.bool (v%256==0)) w):=by
 refine en 6 Tryz.func266 rfl<|sg<|Pl 1<|ng<|Pl 1<|L0<|Oe (.int .u16 (bits .and .u16 v 255)) (.int .u16 (v%256)) (congrArg (Value.int .u16) (x9 (by omega)))<|Pl 2<|nt<|rt<|?_
 refine rr (.bool ((v%256)==0))<|?_
 exact⟨rfl,(aD.refl [] _)⟩
theorem sU{v x:Int}{gb:Nat}{w:World}(hB:w.heap[gb]? = some (.cells #[.int .u16 v] 24 (0,0))) : Calls Tryz.prog 264 #[.int .u16 x,.pointer (some ⟨gb,0,none⟩)] w (bP (.bool (v==0)) w):=by
 refine en 6 Tryz.func264 rfl<|sg<|Pl 1<|ng<|L0<|aU hB 0<|Pl 2<|nt<|rt<|rr (.bool (v==0))<|?_
 exact⟨rfl,(aD.refl [] _)⟩
theorem y1{dir v:Int}{w:World}(hv:0≤v∧v<65536) : Calls Tryz.prog 248 #[.int .i64 dir,.int .u16 1,.int .u16 v] w (bP (.bool (f7 dir 1 v)) w):=by
 refine en 42 Tryz.func248 rfl<|sg<|L0<|dq #[.int .u16 v] fun l m n b c=>Pl 1<|ng<|Pl 2<|ng<|?_
 refine L0<|vS fun o p d e f=>L0<|gg e 1 fun q g h=>L0<|gg g 3 fun r i j=>Pl 2<|ng<|Pl 11<|nt<|sq<|sg<|?_
 refine Pl 5<|nt<|c0<|bi<|sg<|Pl 2<|L0<|n0 i 1 (.nilFunc) (some (0,.func (.func 265) #[] #[]))<|Pl 5<|nt<|sq<|?_
 refine sg<|Pl 2<|nt<|c0<|bi<|sg<|Pl 1<|?_
 have a:=ud f (u1 h j im) d
 refine L0<|aU (ub a b) 0<|L0<|fN #[] #[] (args:=#[.int .u16 v])<|m1 (tp) fun s k=>Pl 1<|nt<|rt<|rr (.bool (v==0 || v==65280))<|?_
 have hs:f7 dir 1 v=(v==0 || v==65280):=by
   unfold f7
   (try simp only[bs,if_true,if_false,decide_true,decide_false,reduceIte])
   all_goals rfl
 rw[hs]
 exact⟨rfl,(aF c (aF a k))⟩
theorem yf{dir v:Int}{w:World}(hv:0≤v∧v<65536) : Calls Tryz.prog 248 #[.int .i64 dir,.int .u16 3,.int .u16 v] w (bP (.bool (f7 dir 3 v)) w):=by
 refine en 42 Tryz.func248 rfl<|sg<|L0<|dq #[.int .u16 v] fun l m n b c=>Pl 1<|ng<|Pl 2<|ng<|?_
 refine L0<|vS fun o p d e f=>L0<|gg e 1 fun q g h=>L0<|gg g 3 fun r i j=>Pl 2<|ng<|Pl 11<|nt<|sq<|sg<|?_
 refine Pl 5<|nt<|c0<|bi<|sg<|Pl 2<|L0<|n0 i 3 (.nilFunc) (some (1,.func (.func 266) #[] #[]))<|Pl 5<|nt<|sq<|?_
 refine sg<|Pl 2<|nt<|c0<|bi<|sg<|Pl 1<|?_
 have a:=ud f (u1 h j im) d
 refine L0<|aU (ub a b) 0<|L0<|fN #[] #[] (args:=#[.int .u16 v])<|m1 (sQ hv) fun s k=>Pl 1<|nt<|rt<|rr (.bool (v%256==0))<|?_
 have hs:f7 dir 3 v=(v%256==0):=by
   unfold f7
   (try simp only[bs,if_true,if_false,decide_true,decide_false,reduceIte])
   all_goals rfl
 rw[hs]
 exact⟨rfl,(aF c (aF a k))⟩
theorem xc{dir sub v:Int}{w:World}(hv:0≤v∧v<65536)(h1:sub≠1)(h3:sub≠3) : Calls Tryz.prog 248 #[.int .i64 dir,.int .u16 sub,.int .u16 v] w (bP (.bool (f7 dir sub v)) w):=by
 have n1:(sub==1)=false:=by simpa using h1
 have n3:(sub==3)=false:=by simpa using h3
 refine en 42 Tryz.func248 rfl<|sg<|L0<|dq #[.int .u16 v] fun f G H o p=>Pl 1<|ng<|Pl 2<|ng<|?_
 refine L0<|vS fun I J r s t=>L0<|gg s 1 fun L u y=>L0<|gg u 3 fun M z A=>Pl 2<|ng<|Pl 3<|cu 7 [17] 24 (((sub==2)||((decide (11≤sub))&&(decide (sub≤18))))) (fun K g=>?_) ?_
 refine bl 17 ((sub==2)) (fun a=>?_) (fun a=>?_)
 have B:=al a
 exact Pl 7<|ce g true (by rw[a];rfl)
 have B:=ap a
 refine Pl 3<|cu 3 [20] 23 (((decide (11≤sub))&&(decide (sub≤18)))) (fun K i=>?_) ?_
 refine bl 20 ((decide (11≤sub))) (fun b=>?_) (fun b=>?_)
 have C:=of_decide_eq_true b
 exact Pl 3<|ce i (decide (sub≤18)) (by rw[b];rfl)
 have C:=of_decide_eq_false b
 exact Pl 3<|ce i false (by rw[b];rfl)
 exact Pl 1<|ce g ((decide (11≤sub))&&(decide (sub≤18))) (by rw[a];rfl)
 refine Pl 1<|nt<|sq<|sg<|Pl 2<|cu 3 [26] 29 ((((sub==2)||((decide (11≤sub))&&(decide (sub≤18))))&&(dir==1))) (fun K j=>?_) ?_
 refine bl 26 (((sub==2)||((decide (11≤sub))&&(decide (sub≤18))))) (fun c=>?_) (fun c=>?_)
 exact Pl 3<|ce j (dir==1) (by rw[c];rfl)
 have D:=(aJ c).1
 have N:=(aJ c).2
 have O:=ap D
 exact Pl 3<|ce j false (by rw[c];rfl)
 refine nt<|?_
 have k:=ud t (u1 y A im) r
 have l:=aF p k
 refine cb ((((sub==2)||((decide (11≤sub))&&(decide (sub≤18))))&&(dir==1))) (fun d=>?_) (fun d=>?_)
 have E:=(aR d).1
 have m:=(aR d).2
 have P:=al m
 refine sg<|Pl 1<|nt<|rt<|tr<|rr (.bool true)<|?_
 have hs:f7 dir sub v=true:=by
   unfold f7
   (try simp only[d,E,m,bs,if_true,if_false,decide_true,decide_false,n1,n3,reduceIte])
   all_goals rfl
 rw[hs]
 exact⟨rfl,l⟩
 refine bi<|sg<|Pl 2<|L0<|n0 (hf:=(yr (q:=.u16) (x:=sub) #[⟨.int .u16 1,.func (.func 265) #[] #[],0⟩,⟨.int .u16 3,.func (.func 266) #[] #[],1⟩] (fk _ _ (by intro e he;simp only[List.mem_cons,List.not_mem_nil,or_false] at he;rcases he with rfl | rfl;exact⟨_,rfl,fun h=>h1 h.symm⟩;exact⟨_,rfl,fun h=>h3 h.symm⟩)))) z sub (.nilFunc) none<|Pl 5<|nt<|sq<|sg<|Pl 2<|nl<|?_
 refine tn<|c1<|go<|Pl 2<|ng<|Pl 1<|?_
 have n:=ub k o
 refine L0<|aU n 0<|L0<|fN #[] #[.pointer (some ⟨f,0,none⟩)] (args:=#[.int .u16 v,.pointer (some ⟨f,0,none⟩)])<|m1 (sU n) fun Q F=>Pl 1<|nt<|rt<|rr (.bool (v==0))<|?_
 have hs:f7 dir sub v=(v==0):=by
   unfold f7
   (try simp only[d,bs,if_true,if_false,decide_true,decide_false,n1,n3,reduceIte])
   all_goals rfl
 rw[hs]
 exact⟨rfl,(aF l F)⟩
theorem vV{dir sub v:Int}{w:World}(hv:0≤v∧v<65536) : Calls Tryz.prog 248 #[.int .i64 dir,.int .u16 sub,.int .u16 v] w (bP (.bool (f7 dir sub v)) w):=by
  by_cases h1:sub=1
  · subst h1;exact y1 hv
  by_cases h3:sub=3
  · subst h3;exact yf hv
  exact xc hv h1 h3
open Go.RowKit
def fd (dir:Int)(C:ah) : ah:=(C.wordsC 1).need (eg C.wordV&&(dir==0 || C.wordV != 4)) 8
def ju (C:ah) : ah:=C.need (((C.l.length:Int)%2==0&&decide (2≤(C.l.length:Int)))&&decide ((C.l.length:Int)≤250)) 5
def ef (dir c:Int)(C:ah) : ah × aQ :=
  if C.wordV != 0 then (((fd dir C).wordsC 1).need ((((fd dir C).wordsR 1).length:Int)==1&&f7 dir C.wordV (((fd dir C).wordsR 1).getD 0 0)) 6,{ aQ.zero with code:=c,sub:=C.wordV,words:=(fd dir C).wordsR 1 })
  else ((ju (fd dir C)).wordsC (((fd dir C).l.length:Int)/2),{ aQ.zero with code:=c,sub:=C.wordV,words:=(ju (fd dir C)).wordsR (((fd dir C).l.length:Int)/2) })
def gH (C:ah)(lo hi:Int) : ah:=(C.bytesC 1).need (decide (lo≤C.byteV)&&decide (C.byteV≤hi)) 5
def i3 (C:ah) : ah:=((dG (gH C 6 70)).wordsC 1).wordsC 1
def bZ (c:Int)(C:ah) : ah × aQ :=
  if c==7 then (C.bytesC 1,{ aQ.zero with code:=c,value:=C.byteV })
  else if c==11 then ((dG C).wordsC 1,{ aQ.zero with code:=c,status:=C.wordV,events:=(dG C).wordV })
  else if c==12 then ((i3 C).bytesC (C.byteV-6),{ aQ.zero with code:=c,status:=(gH C 6 70).wordV,events:=(dG (gH C 6 70)).wordV,messages:=((dG (gH C 6 70)).wordsC 1).wordV,data:=(i3 C).bytesR (C.byteV-6) })
  else if c==17 then ((gH C 1 251).bytesC C.byteV,{ aQ.zero with code:=c,data:=(gH C 1 251).bytesR C.byteV })
  else (C,{ aQ.zero with code:=c })
theorem np{g gm:Nat}{dir c:Int}{C:ah}{w:World}(hcode:B8 c)(hC:aj w g C)(hm:w.heap[gm]? = some (.cells #[.int .u8 c,.int .u8 0,.int .u16 0,.int .u16 0,.int .u16 0,.int .u16 0,.int .u16 0,.int .u16 0,.int .u16 0,.int .u16 0,.int .u16 0,.int .u16 0,.slice none 0 0,.slice none 0 0,.slice none 0 0,.slice none 0 0,.int .u8 0,.int .u8 0,.int .u8 0,.int .u8 0,.int .u8 0,.slice none 0 0] 30 (0,0)))(hne:g≠gm) :
    Calls Tryz.prog 206 #[.int .i64 dir,.pointer (some ⟨g,0,none⟩),.pointer (some ⟨gm,0,none⟩)] w (cE g gm (ef dir c C).1 (ef dir c C).2 w):=by
 obtain⟨hcode1,hcode2⟩:=hcode
 have hlen:=hC.len
 refine en 84 Tryz.func206 rfl<|sg<|Pl 2<|L0<|Oc<|m3 (bR hC) fun b0 a4 t b1=>Pl 2<|?_
 have J:=aX t (Ne.symm hne) hm
 refine L0<|bX J 8 (mG c 0 0 0 0 0 0 0 C.wordV 0 0 0 nS nS nS nS 0 0 0 0 0 nS) fun b2 dx L=>ng<|Pl 4<|L0<|aU dx 8<|L0<|Oc<|m1 (tL (x:=C.wordV) (w:=_)) fun b3 r=>Pl 1<|cu 10 [18] 28 (((eg C.wordV)&&((dir==0)||(C.wordV != 4)))) (fun K M=>?_) ?_
 refine bl 18 ((eg C.wordV)) (fun u=>?_) (fun u=>?_)
 refine Pl 3<|cu 6 [21] 27 (((dir==0)||(C.wordV != 4))) (fun K N=>?_) ?_
 refine bl 21 ((dir==0)) (fun j=>?_) (fun j=>?_)
 have a5:=al j
 exact Pl 6<|ce N true (by rw[j];rfl)
 have a5:=ap j
 refine Pl 3<|?_
 exact L1<|aU (ub r dx) 8<|Pl 2<|ce N (C.wordV != 4) (by rw[j];rfl)
 exact Pl 1<|ce M ((dir==0)||(C.wordV != 4)) (by rw[u];rfl)
 exact Pl 10<|ce M false (by rw[u];rfl)
 have O:=aF L r
 refine L0<|Oc<|m2 (bf (((eg C.wordV)&&((dir==0)||(C.wordV != 4)))) 8 (aj.upd a4 O (aa hne ay) (ak (aM J (by decide)) aG))) fun b4 a6 y=>?_
 refine ab a6 fun x30 z s=>?_
 refine nt<|sq<|sg<|Pl 3<|?_
 have A:=aX (uz r y) (Ne.symm hne) dx
 refine L0<|aU A 8<|Pl 1<|nt<|?_
 have d:=ui t (us O y)
 refine cb ((C.wordV != 0)) (fun f=>?_) (fun f=>?_)
 have a7:=aq f
 refine sg<|Pl 2<|L0<|Oc<|mF (eb (n:=1) s) fun P Q b5 i b6 b7 R S=>Pl 2<|?_
 have B:=aX S (Ne.symm hne) A
 refine L0<|bX B 12 (mG c 0 0 0 0 0 0 0 C.wordV 0 0 0 (.slice P ((x30.wordsR 1).length) Q) nS nS nS 0 0 0 0 0 nS) fun b9 a8 a9=>nt<|sq<|Rg 22 (fun w'=>w'.cell? ⟨gm,12,none⟩=some (.slice P ((x30.wordsR 1).length) Q)∧w'.cell? ⟨gm,8,none⟩=some (.int .u16 C.wordV)) fun ba T=>?_
 have b:=ub T a8
 refine bg ⟨(ag b rfl),(ag b rfl)⟩ fun a=>Rt 0 a<|Rt 1 a<|Rt 2 a<|Rt 3 a<|Rl 4 a (fun _ hs=>hs.1)<|Rt 5 a<|Rt 6 a<|Rt 7 a<|?_
 have k:=aF a9 T
 have U:=ut d (us S k) (ac im (ac im au))
 refine rN 47 (((((x30.wordsR 1).length:Nat) : Int)==1)) (fun m=>?_) (fun m=>?_)
 have ad:=al m
 refine Rt 8 a<|Rt 9 a<|Rt 10 a<|Rt 11 a<|Rl 12 a (fun _ hs=>hs.2)<|Rt 13 a<|Rt 14 a<|Rt 15 a<|Rl 16 a (fun _ hs=>hs.1)<|?_
 have V:=ax i k (fun x hx=>(aa (fun e=>(aA (am hm) d.size i) (e▸hx)) ay)) (fun _ _ h=>h)
 refine eJ (e8.at_ (V).rd 0 (by omega)) fun ae af an ao bb=>R0 17 rfl<|iZ ((x30.wordsR 1).length) 0 an (by omega)<|bg ⟨(ag b rfl),(ag b rfl)⟩ fun bc=>R0 18 rfl<|dY (p:=⟨ae,af+0,none⟩) (v:=.int .u16 ((x30.wordsR 1).getD 0 0)) ao<|bg ⟨(ag b rfl),(ag b rfl)⟩ fun bd=>R0 19 rfl<|Oc<|m1 (vV (dir:=dir) (sub:=C.wordV) (v:=((x30.wordsR 1).getD 0 0)) (by omega)) fun be D=>?_
 have E:=ub D b
 refine bg ⟨(ag E rfl),(ag E rfl)⟩ fun ar=>Rt 20 ar<|?_
 refine R0 21 rfl<|Oc<|m2 (bf ((f7 dir C.wordV ((x30.wordsR 1).getD 0 0))) 6 (aj.upd R (aF k D) (aa hne ay) (ak (aM B (by decide)) aG))) fun bh av W=>?_
 refine ab av fun bj aw az=>?_
 have F:=aX W (Ne.symm hne) E
 refine bg ⟨(ag F rfl),(ag F rfl)⟩ fun bk=>re<|tn<|rt<|tr<|rr (.tuple #[])<|?_
 subst aw z
 have X:=uz D W
 have hs:ef dir c C=(((((C.wordsC 1).need ((eg C.wordV)&&((dir==0)||(C.wordV != 4))) 8).wordsC 1).need (f7 dir C.wordV ((((C.wordsC 1).need ((eg C.wordV)&&((dir==0)||(C.wordV != 4))) 8).wordsR 1).getD 0 0)) 6),(aQ.mk c 0 0 0 0 0 0 0 C.wordV 0 0 0 (((C.wordsC 1).need ((eg C.wordV)&&((dir==0)||(C.wordV != 4))) 8).wordsR 1) [] [] [] 0 0 0 0 0 [])):=by
   unfold ef fd ju
   (try simp only[f,m,bs,if_true,if_false,decide_true,decide_false,reduceIte])
   all_goals rfl
 rw[hs]
 exact⟨rfl,az,⟨_,⟨F,rfl⟩,⟨_,_,_,_,_,rfl,((ax V X (fun x hx=>(aa (fun e=>(aA (aj.lt hC) d.size i) (e▸hx)) ay)) (fun _ _ h=>h))).rd,aK.nil ..,aK.nil ..,aK.nil ..,aK.nil ..,⟨(b8 (x:=c) (by omega)),(b8 (x:=0) (by omega)),(aB (x:=0) (by omega)),(aB (x:=0) (by omega)),(aB (x:=0) (by omega)),(aB (x:=0) (by omega)),(aB (x:=0) (by omega)),(aB (x:=0) (by omega)),(aB (x:=C.wordV) (by omega)),(aB (x:=0) (by omega)),(aB (x:=0) (by omega)),(aB (x:=0) (by omega)),(b8 (x:=0) (by omega)),(b8 (x:=0) (by omega)),(b8 (x:=0) (by omega)),(b8 (x:=0) (by omega)),(b8 (x:=0) (by omega))⟩⟩⟩,(aD.mono (S':=[g,gm]) (u1 U X im) (xx (Or.inl (by simp)) (Or.inl (by simp))))⟩
 have ad:=ap m
 refine Ro 8 a<|Ro 9 a<|Ro 10 a<|Ro 11 a<|Ro 12 a<|Ro 13 a<|Ro 14 a<|Ro 15 a<|Ro 16 a<|Ro 17 a<|Ro 18 a<|Ro 19 a<|Rt 20 a<|?_
 refine R0 21 rfl<|Oc<|m2 (bf (false) 6 (aj.upd R k (aa hne ay) (ak (aM B (by decide)) aG))) fun bm aC G=>?_
 have H:=aX G (Ne.symm hne) b
 refine bg ⟨(ag H rfl),(ag H rfl)⟩ fun bn=>re<|tn<|rt<|tr<|rr (.tuple #[])<|?_
 subst z
 have hs:ef dir c C=(((((C.wordsC 1).need ((eg C.wordV)&&((dir==0)||(C.wordV != 4))) 8).wordsC 1).need false 6),(aQ.mk c 0 0 0 0 0 0 0 C.wordV 0 0 0 (((C.wordsC 1).need ((eg C.wordV)&&((dir==0)||(C.wordV != 4))) 8).wordsR 1) [] [] [] 0 0 0 0 0 [])):=by
   unfold ef fd ju
   (try simp only[f,m,bs,if_true,if_false,decide_true,decide_false,reduceIte])
   all_goals rfl
 rw[hs]
 exact⟨rfl,aC,⟨_,⟨H,rfl⟩,⟨_,_,_,_,_,rfl,((ax i (us k G) (fun x hx=>(aa (fun e=>(aA (am hm) d.size i) (e▸hx)) (aa (fun e=>(aA (aj.lt hC) d.size i) (e▸hx)) ay))) (fun _ _ h=>h))).rd,aK.nil ..,aK.nil ..,aK.nil ..,aK.nil ..,⟨(b8 (x:=c) (by omega)),(b8 (x:=0) (by omega)),(aB (x:=0) (by omega)),(aB (x:=0) (by omega)),(aB (x:=0) (by omega)),(aB (x:=0) (by omega)),(aB (x:=0) (by omega)),(aB (x:=0) (by omega)),(aB (x:=C.wordV) (by omega)),(aB (x:=0) (by omega)),(aB (x:=0) (by omega)),(aB (x:=0) (by omega)),(b8 (x:=0) (by omega)),(b8 (x:=0) (by omega)),(b8 (x:=0) (by omega)),(b8 (x:=0) (by omega)),(b8 (x:=0) (by omega))⟩⟩⟩,(aD.mono (S':=[g,gm]) (u1 U G im) (xx (Or.inl (by simp)) (Or.inl (by simp))))⟩
 have a7:=ai f
 refine bi<|sg<|Pl 1<|L0<|Oc<|mq (dV s)<|?_
 have bo:=aj.len s
 refine Pl 1<|ng<|Pl 2<|L0<|Oe (.int .i64 (Int.tmod ((x30.l.length:Nat) : Int) 2)) (.int .i64 (((x30.l.length:Nat) : Int)%2)) (congrArg (Value.int .i64) (Int.tmod_eq_emod_of_nonneg (by omega)))<|Pl 2<|cu 3 [68] 71 ((((((x30.l.length:Nat) : Int)%2)==0)&&(decide (2≤((x30.l.length:Nat) : Int))))) (fun K Y=>?_) ?_
 refine bl 68 (((((x30.l.length:Nat) : Int)%2)==0)) (fun o=>?_) (fun o=>?_)
 have aE:=al o
 exact Pl 3<|ce Y (decide (2≤((x30.l.length:Nat) : Int))) (by rw[o];rfl)
 have aE:=ap o
 exact Pl 3<|ce Y false (by rw[o];rfl)
 refine Pl 1<|cu 3 [72] 75 (((((((x30.l.length:Nat) : Int)%2)==0)&&(decide (2≤((x30.l.length:Nat) : Int))))&&(decide (((x30.l.length:Nat) : Int)≤250)))) (fun K Z=>?_) ?_
 refine bl 72 ((((((x30.l.length:Nat) : Int)%2)==0)&&(decide (2≤((x30.l.length:Nat) : Int))))) (fun q=>?_) (fun q=>?_)
 have aH:=(aR q).1
 have aI:=(aR q).2
 have bp:=al aH
 have bq:=of_decide_eq_true aI
 exact Pl 3<|ce Z (decide (((x30.l.length:Nat) : Int)≤250)) (by rw[q];rfl)
 exact Pl 3<|ce Z false (by rw[q];rfl)
 refine L0<|Oc<|m2 (bf (((((((x30.l.length:Nat) : Int)%2)==0)&&(decide (2≤((x30.l.length:Nat) : Int))))&&(decide (((x30.l.length:Nat) : Int)≤250)))) 5 s) fun br aJ a0=>?_
 refine ab aJ fun aL aN aO=>?_
 refine nt<|go<|Pl 3<|L0<|Oe (.int .i64 (IntKind.i64.wrap (Int.tdiv ((x30.l.length:Nat) : Int) 2))) (.int .i64 (((x30.l.length:Nat) : Int)/2)) (congrArg (Value.int .i64) (fA (by omega) (by omega)))<|L0<|Oc<|mF (eb (n:=(((x30.l.length:Nat) : Int)/2)) aO) fun aP aS bt a1 bu bv aT aV=>?_
 refine ab aT fun bw aW aY=>?_
 refine Pl 2<|?_
 have a2:=u1 a0 aV im
 have a3:=aX a2 (Ne.symm hne) A
 refine L0<|bX a3 12 (mG c 0 0 0 0 0 0 0 C.wordV 0 0 0 (.slice aP ((aL.wordsR (((x30.l.length:Nat) : Int)/2)).length) aS) nS nS nS 0 0 0 0 0 nS) fun bx aZ I=>nl<|rm (.tuple #[])<|?_
 subst aW aN z
 have hs:ef dir c C=(((((C.wordsC 1).need ((eg C.wordV)&&((dir==0)||(C.wordV != 4))) 8).need ((((((((C.wordsC 1).need ((eg C.wordV)&&((dir==0)||(C.wordV != 4))) 8).l.length:Nat) : Int)%2)==0)&&(decide (2≤((((C.wordsC 1).need ((eg C.wordV)&&((dir==0)||(C.wordV != 4))) 8).l.length:Nat) : Int))))&&(decide (((((C.wordsC 1).need ((eg C.wordV)&&((dir==0)||(C.wordV != 4))) 8).l.length:Nat) : Int)≤250))) 5).wordsC (((((C.wordsC 1).need ((eg C.wordV)&&((dir==0)||(C.wordV != 4))) 8).l.length:Nat) : Int)/2)),(aQ.mk c 0 0 0 0 0 0 0 C.wordV 0 0 0 ((((C.wordsC 1).need ((eg C.wordV)&&((dir==0)||(C.wordV != 4))) 8).need ((((((((C.wordsC 1).need ((eg C.wordV)&&((dir==0)||(C.wordV != 4))) 8).l.length:Nat) : Int)%2)==0)&&(decide (2≤((((C.wordsC 1).need ((eg C.wordV)&&((dir==0)||(C.wordV != 4))) 8).l.length:Nat) : Int))))&&(decide (((((C.wordsC 1).need ((eg C.wordV)&&((dir==0)||(C.wordV != 4))) 8).l.length:Nat) : Int)≤250))) 5).wordsR (((((C.wordsC 1).need ((eg C.wordV)&&((dir==0)||(C.wordV != 4))) 8).l.length:Nat) : Int)/2)) [] [] [] 0 0 0 0 0 [])):=by
   unfold ef fd ju
   (try simp only[f,bs,if_true,if_false,decide_true,decide_false,reduceIte])
   all_goals rfl
 rw[hs]
 exact⟨rfl,(aj.upd aY I (aa hne ay) (ak (aM a3 (by decide)) aG)),⟨_,⟨aZ,rfl⟩,⟨_,_,_,_,_,rfl,((ax a1 I (fun x hx=>(aa (fun e=>(aA (am hm) (le (le (le (le t.size L.size) r.size) y.size) a0.size) a1) (e▸hx)) ay)) (fun _ _ h=>h))).rd,aK.nil ..,aK.nil ..,aK.nil ..,aK.nil ..,⟨(b8 (x:=c) (by omega)),(b8 (x:=0) (by omega)),(aB (x:=0) (by omega)),(aB (x:=0) (by omega)),(aB (x:=0) (by omega)),(aB (x:=0) (by omega)),(aB (x:=0) (by omega)),(aB (x:=0) (by omega)),(aB (x:=C.wordV) (by omega)),(aB (x:=0) (by omega)),(aB (x:=0) (by omega)),(aB (x:=0) (by omega)),(b8 (x:=0) (by omega)),(b8 (x:=0) (by omega)),(b8 (x:=0) (by omega)),(b8 (x:=0) (by omega)),(b8 (x:=0) (by omega))⟩⟩⟩,(aD.mono (S':=[g,gm]) (ut d (us a2 I) (ac im (ac im au))) (xx (Or.inl (by simp)) (Or.inl (by simp))))⟩
theorem gf{g gm:Nat}{c:Int}{C:ah}{w:World}(hcode:B8 c)(hC:aj w g C)(hm:w.heap[gm]? = some (.cells #[.int .u8 c,.int .u8 0,.int .u16 0,.int .u16 0,.int .u16 0,.int .u16 0,.int .u16 0,.int .u16 0,.int .u16 0,.int .u16 0,.int .u16 0,.int .u16 0,.slice none 0 0,.slice none 0 0,.slice none 0 0,.slice none 0 0,.int .u8 0,.int .u8 0,.int .u8 0,.int .u8 0,.int .u8 0,.slice none 0 0] 30 (0,0)))(hne:g≠gm) :
    Calls Tryz.prog 207 #[.pointer (some ⟨g,0,none⟩),.pointer (some ⟨gm,0,none⟩)] w (cE g gm (bZ c C).1 (bZ c C).2 w):=by
 obtain⟨hcode1,hcode2⟩:=hcode
 have hlen:=hC.len
 refine en 84 Tryz.func207 rfl<|sg<|Pl 3<|L0<|aU hm 0<|nt<|bk<|sg<|Pl 2<|nt<|cb ((c==7)) (fun a=>?_) (fun a=>?_)
 have N:=al a
 refine go<|Pl 2<|L0<|Oc<|m3 (bS hC) fun aO O m aP=>L0<|xo C.byteV<|Pl 2<|?_
 have o:=aX m (Ne.symm hne) hm
 refine L0<|bX o 4 (mG c 0 0 0 C.byteV 0 0 0 0 0 0 0 nS nS nS nS 0 0 0 0 0 nS) fun aR P p=>nl<|bn<|rm (.tuple #[])<|?_
 have hs:bZ c C=((C.bytesC 1),(aQ.mk c 0 0 0 C.byteV 0 0 0 0 0 0 0 [] [] [] [] 0 0 0 0 0 [])):=by
   unfold bZ i3 gH
   (try simp only[a,bs,if_true,if_false,decide_true,decide_false,reduceIte])
   all_goals rfl
 rw[hs]
 exact⟨rfl,(aj.upd O p (aa hne ay) (ak (aM o (by decide)) aG)),⟨_,⟨P,rfl⟩,⟨_,_,_,_,_,rfl,aK.nil ..,aK.nil ..,aK.nil ..,aK.nil ..,aK.nil ..,⟨(b8 (x:=c) (by omega)),(b8 (x:=0) (by omega)),(aB (x:=0) (by omega)),(aB (x:=0) (by omega)),(aB (x:=C.byteV) (by omega)),(aB (x:=0) (by omega)),(aB (x:=0) (by omega)),(aB (x:=0) (by omega)),(aB (x:=0) (by omega)),(aB (x:=0) (by omega)),(aB (x:=0) (by omega)),(aB (x:=0) (by omega)),(b8 (x:=0) (by omega)),(b8 (x:=0) (by omega)),(b8 (x:=0) (by omega)),(b8 (x:=0) (by omega)),(b8 (x:=0) (by omega))⟩⟩⟩,(us m p)⟩
 have N:=ap a
 refine sg<|Pl 2<|nt<|cb ((c==11)) (fun b=>?_) (fun b=>?_)
 have Q:=al b
 refine sg<|Pl 2<|L0<|Oc<|m3 (o4 hC) fun aS R q aV=>Pl 2<|?_
 have r:=aX q (Ne.symm hne) hm
 refine L0<|bX r 9 (mG c 0 0 0 0 0 0 0 0 C.wordV 0 0 nS nS nS nS 0 0 0 0 0 nS) fun aW S s=>nt<|go<|Pl 2<|?_
 refine L0<|Oc<|m3 (bR (aj.upd R s (aa hne ay) (ak (aM r (by decide)) aG))) fun aY T t aZ=>Pl 2<|?_
 have u:=aX t (Ne.symm hne) S
 refine L0<|bX u 10 (mG c 0 0 0 0 0 0 0 0 C.wordV ((dG C).wordV) 0 nS nS nS nS 0 0 0 0 0 nS) fun b0 U v=>nl<|bn<|rm (.tuple #[])<|?_
 have hs:bZ c C=(((dG C).wordsC 1),(aQ.mk c 0 0 0 0 0 0 0 0 C.wordV ((dG C).wordV) 0 [] [] [] [] 0 0 0 0 0 [])):=by
   unfold bZ i3 gH
   (try simp only[a,b,bs,if_true,if_false,decide_true,decide_false,reduceIte])
   all_goals rfl
 rw[hs]
 exact⟨rfl,(aj.upd T v (aa hne ay) (ak (aM u (by decide)) aG)),⟨_,⟨U,rfl⟩,⟨_,_,_,_,_,rfl,aK.nil ..,aK.nil ..,aK.nil ..,aK.nil ..,aK.nil ..,⟨(b8 (x:=c) (by omega)),(b8 (x:=0) (by omega)),(aB (x:=0) (by omega)),(aB (x:=0) (by omega)),(aB (x:=0) (by omega)),(aB (x:=0) (by omega)),(aB (x:=0) (by omega)),(aB (x:=0) (by omega)),(aB (x:=0) (by omega)),(aB (x:=C.wordV) (by omega)),(aB (x:=(dG C).wordV) (by omega)),(aB (x:=0) (by omega)),(b8 (x:=0) (by omega)),(b8 (x:=0) (by omega)),(b8 (x:=0) (by omega)),(b8 (x:=0) (by omega)),(b8 (x:=0) (by omega))⟩⟩⟩,(ui q (ui s (us t v)))⟩
 have Q:=ap b
 refine sg<|Pl 2<|nt<|cb ((c==12)) (fun d=>?_) (fun d=>?_)
 have V:=al d
 refine sg<|Pl 1<|L0<|Oc<|m3 (bS hC) fun b1 W X b2=>L0<|Oi C.byteV<|Pl 1<|ng<|Pl 4<|cu 3 [38] 41 (((decide (6≤C.byteV))&&(decide (C.byteV≤70)))) (fun K y=>?_) ?_
 refine bl 38 ((decide (6≤C.byteV))) (fun e=>?_) (fun e=>?_)
 have Y:=of_decide_eq_true e
 exact Pl 3<|ce y (decide (C.byteV≤70)) (by rw[e];rfl)
 have Y:=of_decide_eq_false e
 exact Pl 3<|ce y false (by rw[e];rfl)
 refine L0<|Oc<|m2 (bf (((decide (6≤C.byteV))&&(decide (C.byteV≤70)))) 5 W) fun b3 Z a0=>?_
 refine ab Z fun x53 a1 a2=>?_
 refine ng<|Pl 2<|L0<|Oc<|m3 (o4 a2) fun b4 a3 a4 b5=>Pl 2<|?_
 have z:=u1 X (u1 a0 a4 im) im
 have A:=aX z (Ne.symm hne) hm
 refine L0<|bX A 9 (mG c 0 0 0 0 0 0 0 0 x53.wordV 0 0 nS nS nS nS 0 0 0 0 0 nS) fun b6 a5 B=>ng<|Pl 3<|?_
 refine L0<|Oc<|m3 (bR (aj.upd a3 B (aa hne ay) (ak (aM A (by decide)) aG))) fun b7 a6 a7 b9=>Pl 1<|L0<|Oc<|m3 (bR a6) fun ba a8 a9 bb=>?_
 refine ab a8 fun jG ac ad=>?_
 refine Pl 2<|?_
 have D:=u1 a7 a9 im
 have E:=aX D (Ne.symm hne) a5
 refine L0<|bX E 10 (mG c 0 0 0 0 0 0 0 0 x53.wordV ((dG x53).wordV) 0 nS nS nS nS 0 0 0 0 0 nS) fun bc ae af=>Pl 2<|L0<|bX ae 11 (mG c 0 0 0 0 0 0 0 0 x53.wordV ((dG x53).wordV) (((dG x53).wordsC 1).wordV) nS nS nS nS 0 0 0 0 0 nS) fun bd ag ai=>nt<|go<|Pl 3<|L0<|Oi (C.byteV-6)<|?_
 have F:=u1 af ai im
 have G:=aj.upd ad F (aa hne ay) (ak (aM E (by decide)) aG)
 refine L0<|Oc<|s3 (cD (n:=(C.byteV-6)) G) fun am an be ao bg bh aq H=>?_
 have bi:=Nat.le_trans (ah.bytesR_le jG (C.byteV-6)) (aj.len G)
 refine Pl 2<|?_
 have i:=aX H (Ne.symm hne) ag
 refine L0<|bX i 14 (mG c 0 0 0 0 0 0 0 0 x53.wordV ((dG x53).wordV) (((dG x53).wordsC 1).wordV) nS nS (.slice am ((jG.bytesR (C.byteV-6)).length) an) nS 0 0 0 0 0 nS) fun bj ar j=>nl<|bn<|rm (.tuple #[])<|?_
 subst ac a1
 have hs:bZ c C=(((((dG ((C.bytesC 1).need ((decide (6≤C.byteV))&&(decide (C.byteV≤70))) 5)).wordsC 1).wordsC 1).bytesC (C.byteV-6)),(aQ.mk c 0 0 0 0 0 0 0 0 (((C.bytesC 1).need ((decide (6≤C.byteV))&&(decide (C.byteV≤70))) 5).wordV) ((dG ((C.bytesC 1).need ((decide (6≤C.byteV))&&(decide (C.byteV≤70))) 5)).wordV) (((dG ((C.bytesC 1).need ((decide (6≤C.byteV))&&(decide (C.byteV≤70))) 5)).wordsC 1).wordV) [] [] ((((dG ((C.bytesC 1).need ((decide (6≤C.byteV))&&(decide (C.byteV≤70))) 5)).wordsC 1).wordsC 1).bytesR (C.byteV-6)) [] 0 0 0 0 0 [])):=by
   unfold bZ i3 gH
   (try simp only[a,b,d,bs,if_true,if_false,decide_true,decide_false,reduceIte])
   all_goals rfl
 rw[hs]
 exact⟨rfl,(aj.upd aq j (aa hne ay) (ak (aM i (by decide)) aG)),⟨_,⟨ar,rfl⟩,⟨_,_,_,_,_,rfl,aK.nil ..,aK.nil ..,(aT.upd' ao j (ak (aM i (by decide)) aG)),aK.nil ..,aK.nil ..,⟨(b8 (x:=c) (by omega)),(b8 (x:=0) (by omega)),(aB (x:=0) (by omega)),(aB (x:=0) (by omega)),(aB (x:=0) (by omega)),(aB (x:=0) (by omega)),(aB (x:=0) (by omega)),(aB (x:=0) (by omega)),(aB (x:=0) (by omega)),(aB (x:=((C.bytesC 1).need ((decide (6≤C.byteV))&&(decide (C.byteV≤70))) 5).wordV) (by omega)),(aB (x:=(dG ((C.bytesC 1).need ((decide (6≤C.byteV))&&(decide (C.byteV≤70))) 5)).wordV) (by omega)),(aB (x:=((dG ((C.bytesC 1).need ((decide (6≤C.byteV))&&(decide (C.byteV≤70))) 5)).wordsC 1).wordV) (by omega)),(b8 (x:=0) (by omega)),(b8 (x:=0) (by omega)),(b8 (x:=0) (by omega)),(b8 (x:=0) (by omega)),(b8 (x:=0) (by omega))⟩⟩⟩,(ui z (ui B (ui D (ui F (us H j)))))⟩
 have V:=ap d
 refine sg<|Pl 2<|nt<|cb ((c==17)) (fun f=>?_) (fun f=>?_)
 have av:=al f
 refine sg<|Pl 1<|L0<|Oc<|m3 (bS hC) fun bm aw ax bo=>L0<|Oi C.byteV<|Pl 1<|ng<|Pl 4<|cu 3 [73] 76 (((decide (1≤C.byteV))&&(decide (C.byteV≤251)))) (fun K I=>?_) ?_
 refine bl 73 ((decide (1≤C.byteV))) (fun h=>?_) (fun h=>?_)
 have az:=of_decide_eq_true h
 exact Pl 3<|ce I (decide (C.byteV≤251)) (by rw[h];rfl)
 have az:=of_decide_eq_false h
 exact Pl 3<|ce I false (by rw[h];rfl)
 refine L0<|Oc<|m2 (bf (((decide (1≤C.byteV))&&(decide (C.byteV≤251)))) 5 aw) fun bp aA aC=>?_
 refine ab aA fun J aE L=>?_
 refine nt<|go<|Pl 3<|L0<|Oc<|s3 (cD (n:=C.byteV) L) fun aF aH bq aI br bt aJ aL=>?_
 have bu:=Nat.le_trans (ah.bytesR_le J C.byteV) (aj.len L)
 refine Pl 2<|?_
 have M:=u1 ax (u1 aC aL im) im
 have k:=aX M (Ne.symm hne) hm
 refine L0<|bX k 14 (mG c 0 0 0 0 0 0 0 0 0 0 0 nS nS (.slice aF ((J.bytesR C.byteV).length) aH) nS 0 0 0 0 0 nS) fun bv aN l=>nl<|bn<|rm (.tuple #[])<|?_
 subst aE
 have hs:bZ c C=((((C.bytesC 1).need ((decide (1≤C.byteV))&&(decide (C.byteV≤251))) 5).bytesC C.byteV),(aQ.mk c 0 0 0 0 0 0 0 0 0 0 0 [] [] (((C.bytesC 1).need ((decide (1≤C.byteV))&&(decide (C.byteV≤251))) 5).bytesR C.byteV) [] 0 0 0 0 0 [])):=by
   unfold bZ i3 gH
   (try simp only[a,b,d,f,bs,if_true,if_false,decide_true,decide_false,reduceIte])
   all_goals rfl
 rw[hs]
 exact⟨rfl,(aj.upd aJ l (aa hne ay) (ak (aM k (by decide)) aG)),⟨_,⟨aN,rfl⟩,⟨_,_,_,_,_,rfl,aK.nil ..,aK.nil ..,(aT.upd' aI l (ak (aM k (by decide)) aG)),aK.nil ..,aK.nil ..,⟨(b8 (x:=c) (by omega)),(b8 (x:=0) (by omega)),(aB (x:=0) (by omega)),(aB (x:=0) (by omega)),(aB (x:=0) (by omega)),(aB (x:=0) (by omega)),(aB (x:=0) (by omega)),(aB (x:=0) (by omega)),(aB (x:=0) (by omega)),(aB (x:=0) (by omega)),(aB (x:=0) (by omega)),(aB (x:=0) (by omega)),(b8 (x:=0) (by omega)),(b8 (x:=0) (by omega)),(b8 (x:=0) (by omega)),(b8 (x:=0) (by omega)),(b8 (x:=0) (by omega))⟩⟩⟩,(us M l)⟩
 have av:=ap f
 refine sk<|bn<|rm (.tuple #[])<|?_
 have hs:bZ c C=(C,(aQ.mk c 0 0 0 0 0 0 0 0 0 0 0 [] [] [] [] 0 0 0 0 0 [])):=by
   unfold bZ i3 gH
   (try simp only[a,b,d,f,bs,if_true,if_false,decide_true,decide_false,reduceIte])
   all_goals rfl
 rw[hs]
 exact⟨rfl,hC,⟨_,⟨hm,rfl⟩,⟨_,_,_,_,_,rfl,aK.nil ..,aK.nil ..,aK.nil ..,aK.nil ..,aK.nil ..,⟨(b8 (x:=c) (by omega)),(b8 (x:=0) (by omega)),(aB (x:=0) (by omega)),(aB (x:=0) (by omega)),(aB (x:=0) (by omega)),(aB (x:=0) (by omega)),(aB (x:=0) (by omega)),(aB (x:=0) (by omega)),(aB (x:=0) (by omega)),(aB (x:=0) (by omega)),(aB (x:=0) (by omega)),(aB (x:=0) (by omega)),(b8 (x:=0) (by omega)),(b8 (x:=0) (by omega)),(b8 (x:=0) (by omega)),(b8 (x:=0) (by omega)),(b8 (x:=0) (by omega))⟩⟩⟩,(aD.mono (S':=[g,gm]) (aD.refl [] _) au)⟩
end Go.Proofs.YtogbnemojakcpaaGreat
