/- Contracts of functions, part CAscWrites2. -/
import Derived.Test.YtogbnemojakcpaaGreatCAscWrites1
import Derived.Laws.BytesArg
import Derived.Stop.BytesEq
import Derived.Laws.BitsAllLaws
set_option linter.unusedVariables false
set_option linter.unusedSimpArgs false
set_option maxRecDepth 100000
set_option maxHeartbeats 4000000
namespace Go.Proofs.YtogbnemojakcpaaGreat
open Go.RowKit
theorem oO{ev:Operand→Value}{o:Oper}{x y:Operand}{t:TypeId}{a b:Int}{w:World}(ho:o.op = .binOp .neq 154 x y t)
    (hx:ev x = .agg #[.int .u8 a,.int .u8 b]) (hy:ev y = .agg #[.int .u8 0,.int .u8 0]) : (execOp ev o).run Tryz.prog w = .ok (.value (.bool ((a != 0)||(b != 0)))) w:=by
  unfold execOp
  rw[ho]
  simp only[hx,hy]
  cases a with
  | ofNat a =>
    cases a with
    | zero =>
      cases b with
      | ofNat b =>
        cases b with
        | zero=>kernel_rfl
        | succ b=>kernel_rfl
      | negSucc b=>kernel_rfl
    | succ a=>kernel_rfl
  | negSucc a=>kernel_rfl
def gv (a b:Int) : aP:={ aP.zero with code:=a,fail:=b }
def fj (a b:Int) : Bool:=(((a != 0)||(b != 0))&&dJ a)&&cF b
theorem lK{a b:Int}{w:World}:Calls Tryz.prog 137 #[.agg #[.int .u8 a,.int .u8 b]] w (cG (.agg #[.int .u8 a,.int .u8 b,.int .u16 0,.int .u16 0,.int .u16 0,.int .u16 0,.int .u16 0,.int .u16 0,.int .u16 0,.int .u16 0,.int .u16 0,.int .u16 0,.slice none 0 0,.slice none 0 0,.slice none 0 0,.slice none 0 0,.int .u8 0,.int .u8 0,.int .u8 0,.int .u8 0,.int .u8 0,.slice none 0 0]) w):=by
 refine en 8 Tryz.func137 rfl<|sg<|L0<|dv #[.int .u8 a,.int .u8 b] fun k l m e f=>L0<|bH mZ fun n o g h c=>ng<|Pl 1<|?_
 have d:=ub c e
 refine L0<|aO d 0<|Pl 1<|L0<|aO d 1<|Pl 1<|L0<|b7 h (mG a b 0 0 0 0 0 0 0 0 0 0 nS nS nS nS 0 0 0 0 0 nS) fun p i j=>nt<|rt<|yn i<|?_
 exact⟨rfl,(aD f (ud c j g))⟩
theorem sI{a b:Int}{w:World}:Calls Tryz.prog 164 #[.agg #[.int .u8 a,.int .u8 b]] w (cG (.bool (fj a b)) w):=by
 refine en 16 Tryz.func164 rfl<|sg<|L0<|dv #[.int .u8 a,.int .u8 b] fun l m n d f=>Pl 1<|ng<|L0<|bO d<|Pl 1<|L0<|iP (.bool ((a != 0)||(b != 0))) (oO rfl (by kernel_rfl) (by kernel_rfl))<|Pl 1<|bl 6 (((a != 0)||(b != 0))) (fun c=>?_) (fun c=>?_)
 refine Pl 1<|L1<|aO d 0<|L1<|Oc<|m1 (lu (x:=a) (w:=_)) fun o g=>Pl 2<|?_
 have h:=aD f g
 refine bl 11 ((dJ a)) (fun e=>?_) (fun e=>?_)
 refine Pl 1<|?_
 refine L1<|aO (ub g d) 1<|L1<|Oc<|m1 (kD (x:=b) (w:=_)) fun p k=>Pl 2<|nt<|rt<|rr (.bool (cF b))<|?_
 have hs:fj a b=(cF b):=by
   unfold fj
   (try simp only[c,e,bs,if_true,if_false,decide_true,decide_false])
   done
 rw[hs]
 exact⟨rfl,(aD h k)⟩
 refine Pl 5<|nt<|rt<|rr (.bool false)<|?_
 have hs:fj a b=false:=by
   unfold fj
   (try simp only[c,e,bs,if_true,if_false,decide_true,decide_false])
   done
 rw[hs]
 exact⟨rfl,h⟩
 have i:=(aE c).1
 have j:=(aE c).2
 have q:=ag i
 have r:=ag j
 refine Pl 10<|nt<|rt<|rr (.bool false)<|?_
 have hs:fj a b=false:=by
   unfold fj
   (try simp only[c,i,j,bs,if_true,if_false,decide_true,decide_false])
   done
 rw[hs]
 exact⟨rfl,f⟩
def ee (b:List Int) : aP × Int :=
  if (b.length:Int)==0 then (aP.zero,2)
  else if decide (b.getD 0 0<128) then (aP.zero,4)
  else if !(dJ ((b.getD 0 0-128)%256)) then (aP.zero,4)
  else if (b.length:Int)==1 then (aP.zero,2)
  else if !(cF (b.getD 1 0)) then (aP.zero,6)
  else if decide (2<(b.length:Int)) then (aP.zero,3)
  else (gv ((b.getD 0 0-128)%256) (b.getD 1 0),0)
theorem qL{m:Md}{A:Option Addr}{cp:Nat}{b:List Int}{w:World}(hsl:b9 m w (.slice A b.length cp) b)(hb:b.length≤1048576) :
    Calls Tryz.prog 90 #[.slice A b.length cp] w (dX (ee b) w):=by
 have hln:(b.length:Int)≤1048576:=by omega
 refine en 49 Tryz.func90 rfl<|sg<|L0<|bH mZ fun ai ak g h q=>Pl 1<|nt<|sq<|bk<|sg<|Pl 4<|nt<|?_
 refine cb ((((b.length:Nat) : Int)==0)) (fun c=>?_) (fun c=>?_)
 have Q:=ah c
 refine sg<|Pl 1<|L0<|b7 h mZ fun al R S=>Pl 1<|nt<|rt<|br<|tr<|bJ R (.int .i64 2)<|?_
 have hs:ee b=(aP.zero,2):=by
   unfold ee
   (try simp only[c,bs,if_true,if_false,decide_true,decide_false,Bool.not_eq_true,reduceIte])
   all_goals rfl
 rw[hs]
 exact cA (ud q S g)
 have Q:=aj c
 refine sg<|Pl 1<|?_
 have B:=b9.old hsl q
 refine gh (b9.at_ B 0 (by omega)) fun C D E F am=>L0<|m8 b.length 0 E (by omega)<|L0<|ei (p:=⟨C,D+0,none⟩) (v:=.int .u8 (b.getD 0 0)) F<|Pl 2<|bl 14 ((decide ((b.getD 0 0)<128))) (fun d=>?_) (fun d=>?_)
 have T:=of_decide_eq_true d
 refine Pl 8<|nt<|c1<|sg<|Pl 1<|L0<|b7 h mZ fun an U V=>Pl 1<|nt<|rt<|br<|tr<|?_
 refine bJ U (.int .i64 4)<|?_
 have hs:ee b=(aP.zero,4):=by
   unfold ee
   (try simp only[c,d,bs,if_true,if_false,decide_true,decide_false,Bool.not_eq_true,reduceIte])
   all_goals rfl
 rw[hs]
 exact cA (ud q V g)
 have T:=of_decide_eq_false d
 refine Pl 1<|L1<|m8 b.length 0 E (by omega)<|L1<|ei (p:=⟨C,D+0,none⟩) (v:=.int .u8 (b.getD 0 0)) F<|Pl 1<|L1<|Oc<|m1 (lu (x:=(((b.getD 0 0)-128)%256)) (w:=_)) fun ao i=>Pl 3<|nt<|?_
 have t:=aD q i
 refine cb ((!(dJ (((b.getD 0 0)-128)%256)))) (fun e=>?_) (fun e=>?_)
 have k:(dJ (((b.getD 0 0)-128)%256))=false:=by simpa using e
 refine sg<|Pl 1<|?_
 refine L0<|b7 (ub i h) mZ fun ap W X=>Pl 1<|nt<|rt<|br<|tr<|bJ W (.int .i64 4)<|?_
 have hs:ee b=(aP.zero,4):=by
   unfold ee
   (try simp only[c,d,e,k,bs,if_true,if_false,decide_true,decide_false,Bool.not_eq_true,reduceIte])
   all_goals rfl
 rw[hs]
 exact cA (ud t X g)
 have k:(dJ (((b.getD 0 0)-128)%256))=true:=by simpa using e
 refine sg<|Pl 4<|nt<|cb ((((b.length:Nat) : Int)==1)) (fun j=>?_) (fun j=>?_)
 have Y:=ah j
 refine sg<|Pl 1<|?_
 refine L0<|b7 (ub i h) mZ fun aq Z a0=>Pl 1<|nt<|rt<|br<|tr<|bJ Z (.int .i64 2)<|?_
 have hs:ee b=(aP.zero,2):=by
   unfold ee
   (try simp only[c,d,e,k,j,bs,if_true,if_false,decide_true,decide_false,Bool.not_eq_true,reduceIte])
   all_goals rfl
 rw[hs]
 exact cA (ud t a0 g)
 have Y:=aj j
 refine sg<|Pl 1<|?_
 have G:=b9.old B i
 refine gh (b9.at_ G 1 (by omega)) fun a1 a2 a3 a4 ar=>L0<|m8 b.length 1 a3 (by omega)<|L0<|ei (p:=⟨a1,a2+1,none⟩) (v:=.int .u8 (b.getD 1 0)) a4<|L0<|Oc<|m1 (kD (x:=(b.getD 1 0)) (w:=_)) fun au n=>Pl 2<|nt<|?_
 have u:=aD t n
 refine cb ((!(cF (b.getD 1 0)))) (fun l=>?_) (fun l=>?_)
 have r:(cF (b.getD 1 0))=false:=by simpa using l
 refine sg<|Pl 1<|?_
 refine L0<|b7 (ub (aD i n) h) mZ fun av a5 a6=>Pl 1<|nt<|rt<|br<|tr<|bJ a5 (.int .i64 6)<|?_
 have hs:ee b=(aP.zero,6):=by
   unfold ee
   (try simp only[c,d,e,k,j,l,r,bs,if_true,if_false,decide_true,decide_false,Bool.not_eq_true,reduceIte])
   all_goals rfl
 rw[hs]
 exact cA (ud u a6 g)
 have r:(cF (b.getD 1 0))=true:=by simpa using l
 refine sg<|Pl 4<|nt<|cb ((decide (2<((b.length:Nat) : Int)))) (fun o=>?_) (fun o=>?_)
 have a7:=of_decide_eq_true o
 refine sg<|Pl 1<|?_
 refine L0<|b7 (ub (aD i n) h) mZ fun aw a8 a9=>Pl 1<|nt<|rt<|br<|tr<|bJ a8 (.int .i64 3)<|?_
 have hs:ee b=(aP.zero,3):=by
   unfold ee
   (try simp only[c,d,e,k,j,l,r,o,bs,if_true,if_false,decide_true,decide_false,Bool.not_eq_true,reduceIte])
   all_goals rfl
 rw[hs]
 exact cA (ud u a9 g)
 have a7:=of_decide_eq_false o
 refine sk<|bn<|tn<|sq<|?_
 have H:=b9.old G n
 refine gh (b9.at_ H 0 (by omega)) fun aa ab I J ax=>gh (b9.at_ H 1 (by omega)) fun ac ad K L ay=>Rg 11 (fun w'=>w'.cell? ⟨aa,ab+0,none⟩=some (.int .u8 (b.getD 0 0))∧w'.cell? ⟨ac,ad+1,none⟩=some (.int .u8 (b.getD 1 0))) fun az y=>bi ⟨(uc y J),(uc y L)⟩ fun f=>Rt 0 f<|nK 1 f b.length 0 0 rfl I (by omega)<|Rl 2 f (fun _ hs=>hs.1)<|Rt 3 f<|Rt 4 f<|nK 5 f b.length 1 1 rfl K (by omega)<|Rl 6 f (fun _ hs=>hs.2)<|Rt 7 f<|R0 8 rfl<|Oc<|m1 (lK (a:=(((b.getD 0 0)-128)%256)) (b:=(b.getD 1 0)) (w:=_)) fun aA ae=>?_
 have s:=aD y ae
 refine bi ⟨(uc s J),(uc s L)⟩ fun aB=>?_
 have M:=aD n s
 have N:=aD i M
 refine R0 9 rfl<|b7 (ub N h) (mG (((b.getD 0 0)-128)%256) (b.getD 1 0) 0 0 0 0 0 0 0 0 0 0 nS nS nS nS 0 0 0 0 0 nS) fun aC af z=>?_
 have aE:=uz M z
 have aF:=uz N z
 have O:=ud u (uz s z) g
 have P:=b9.old hsl O
 refine bi ⟨(cB P I 0 (by omega)),(cB P K 1 (by omega))⟩ fun ag=>Rt 10 ag<|re<|tn<|rt<|bJ af (.int .i64 0)<|?_
 have hs:ee b=((aP.mk (((b.getD 0 0)-128)%256) (b.getD 1 0) 0 0 0 0 0 0 0 0 0 0 [] [] [] [] 0 0 0 0 0 []),0):=by
   unfold ee
   (try simp only[c,d,e,k,j,l,r,o,bs,if_true,if_false,decide_true,decide_false,Bool.not_eq_true,reduceIte])
   all_goals rfl
 rw[hs]
 exact⟨_,rfl,⟨_,_,_,_,_,rfl,aL.nil ..,aL.nil ..,aL.nil ..,aL.nil ..,aL.nil ..,(cj (by omega))⟩,O⟩
theorem t6{m:Md}{v:Value}{b:List Int}{w:World}(h:b9 m w v b)(hb:b.length≤1048576) : Calls Tryz.prog 90 #[v] w (dX (ee b) w):=by
  obtain⟨A,cp,rfl,_,_⟩:=h.shape
  exact qL h hb
open Go.RowKit
def bM (dir:Int)(M:aP) : List Int :=
  if M.code==5 then aJ [M.addr,M.value]
  else if M.code==15&&dir==0 then ((aJ [M.addr,M.count]++[((bL M.bits).length:Int)%256])++bL M.bits)
  else if dir==1&&M.code != 15 then [(M.data.length:Int)%256]++M.data
  else aJ [M.addr,M.count]
theorem pT{m:Md}{cs:Array Value}{M:aP}{w:World}{dir:Int}(h:aH m w cs.toList M)(hf:bS M)(hd0:(dir==0)=true) : Calls Tryz.prog 203 #[.int .i64 dir,.agg cs] w (ik (bM dir M) w):=by
 obtain⟨vw,vb,vd,vr,vo,h0,hw,hbt,hd,hr,ho,hR⟩:=h
 obtain rfl:cs=(bu M vw vb vd vr vo).toArray:=by apply Array.toList_inj.1;simpa using h0
 clear h0
 obtain⟨Aw,kw,rfl,_,_⟩:=hw.shape
 obtain⟨Ab,kb,rfl,_,_⟩:=hbt.shape
 obtain⟨Ad,kd,rfl,_,_⟩:=hd.shape
 obtain⟨Ar,kr,rfl,_,_⟩:=hr.shape
 obtain⟨Ao,ko,rfl,_,_⟩:=ho.shape
 obtain⟨q0,q1,q2,q3,q4,q5,q6,q7,q8,q9,H,I,J,L,N,O,P⟩:=hR
 simp only[B8,dp] at q0 q1 q2 q3 q4 q5 q6 q7 q8 q9 H I J L N O P
 have hf1:=hf.words
 have hf2:=hf.bits
 have hf3:=hf.data
 have hf4:=hf.recs
 have hf5:=hf.objects
 refine en 62 Tryz.func203 rfl<|sg<|L0<|dv (mG M.code M.fail M.addr M.count M.value M.and_ M.or_ M.addr2 M.sub M.status M.events M.messages (.slice Aw M.words.length kw) (.slice Ab M.bits.length kb) (.slice Ad M.data.length kd) (.slice Ar M.recs.length kr) M.mei M.kind M.level M.more M.next (.slice Ao M.objects.length ko)) fun aE aF aG a b=>Pl 1<|nt<|sq<|bk<|sg<|Pl 1<|L0<|aO a 0<|Pl 2<|nl<|?_
 refine tn<|cb ((M.code==5)) (fun c=>?_) (fun c=>?_)
 have Q:=ah c
 refine sg<|Pl 1<|L0<|aO a 2<|Pl 1<|L0<|aO a 4<|L0<|cL (m:=2) (e:=24) #[.int .u16 M.addr,.int .u16 M.value] fun aI aL R S q=>?_
 have T:=dL R (xs:=[M.addr,M.value]) (by as_aux_lemma=>kernel_rfl) (au (by omega) (au (by omega) aK)) (by(try simp only[List.length_cons,List.length_nil]);omega) S
 refine L0<|Oc<|dG (bU (xs:=[M.addr,M.value]) (T).rd (by(try simp only[List.length_cons,List.length_nil]);omega)) fun U V aM W aQ aR X=>Pl 1<|nt<|rt<|br<|tr<|rr (.slice U ((aJ ([M.addr,M.value])).length) V)<|?_
 have hs:bM dir M=(aJ ([M.addr,M.value])):=by
   unfold bM
   (try simp only[hd0,c,bs,if_true,if_false,decide_true,decide_false,reduceIte])
   all_goals rfl
 rw[hs]
 exact⟨_,rfl,(aS.weaken W (le b.size q.size)),(aD b (aD q X))⟩
 have Q:=aj c
 refine sg<|Pl 1<|L0<|aO a 0<|Pl 2<|cu 3 [20] 23 (((M.code==15)&&(dir==0))) (fun K r=>?_) ?_
 refine bl 20 ((M.code==15)) (fun g=>?_) (fun g=>?_)
 have Y:=ah g
 exact Pl 3<|ce r (dir==0) (by rw[g];rfl)
 have Y:=aj g
 exact Pl 3<|ce r false (by rw[g];rfl)
 refine Pl 1<|nt<|cb (((M.code==15)&&(dir==0))) (fun d=>?_) (fun d=>?_)
 have f:=(aT d).1
 have s:=(aT d).2
 have Z:=ah f
 have aU:=ah s
 refine sg<|Pl 1<|L0<|aO a 13<|?_
 refine L0<|Oc<|dG (vj (l:=M.bits) (ii.old hbt b) (by omega)) fun aV aW aX a0 aY b0 k=>?_
 have b1:=vm M.bits
 refine Pl 1<|ng<|Pl 1<|?_
 have t:=ub k a
 refine L0<|aO t 2<|Pl 1<|L0<|aO t 3<|L0<|cL (m:=2) (e:=24) #[.int .u16 M.addr,.int .u16 M.count] fun b2 b3 a1 a2 n=>?_
 have a3:=dL a1 (xs:=[M.addr,M.count]) (by as_aux_lemma=>kernel_rfl) (au (by omega) (au (by omega) aK)) (by(try simp only[List.length_cons,List.length_nil]);omega) a2
 refine L0<|Oc<|dG (bU (xs:=[M.addr,M.count]) (a3).rd (by(try simp only[List.length_cons,List.length_nil]);omega)) fun a4 b4 b5 u b6 b7 v=>Pl 3<|L0<|cL (m:=1) (e:=5) #[.int .u8 ((((bL M.bits).length:Nat) : Int)%256)] fun b8 ba a5 a6 o=>?_
 have a7:=cC a5 (xs:=[((((bL M.bits).length:Nat) : Int)%256)]) (by as_aux_lemma=>kernel_rfl) (au (by omega) aK) (by(try simp only[List.length_cons,List.length_nil]);omega) a6
 refine L0<|bR aZ (xs:=(aJ ([M.addr,M.count]))) (ys:=([((((bL M.bits).length:Nat) : Int)%256)])) (.int .u8 0) 1 (ap u o (fun x hx=>az) (fun _ _ h=>h)) (a7).rd (by(try simp only[List.length_append,List.length_cons,List.length_nil,aA]);omega) (le v.size o.size) fun bb bc bd y a8=>Pl 1<|?_
 have z:=ut v (ut (aC.mono (S':=(ob a4++[])) o ay) a8 (av il ay)) (av (aN u lr) ay)
 have A:=aD n z
 refine L0<|bR aZ (xs:=((aJ ([M.addr,M.count]))++[((((bL M.bits).length:Nat) : Int)%256)])) (ys:=(bL M.bits)) (.int .u8 0) 1 y ((ap a0 A (fun x hx=>az) (fun _ _ h=>h))).rd (by(try simp only[List.length_append,List.length_cons,List.length_nil,aA]);omega) z.size fun a9 aa be ab ac=>Pl 1<|nt<|rt<|br<|tr<|rr (.slice a9 ((((aJ ([M.addr,M.count]))++[((((bL M.bits).length:Nat) : Int)%256)])++(bL M.bits)).length) aa)<|?_
 have hs:bM dir M=(((aJ ([M.addr,M.count]))++[((((bL M.bits).length:Nat) : Int)%256)])++(bL M.bits)):=by
   unfold bM
   (try simp only[s,c,d,f,bs,if_true,if_false,decide_true,decide_false,reduceIte])
   all_goals rfl
 rw[hs]
 exact⟨_,rfl,(aS.weaken ab (le (le b.size k.size) n.size)),(aD b (aD k (ut A ac (av (aN y n.size) ay))))⟩
 have f:(M.code==15)=false:=by simpa only[hd0,bs] using d
 have Z:=aj f
 refine sg<|Pl 3<|cu 4 [43] 47 (((dir==1)&&(M.code != 15))) (fun K B=>?_) ?_
 refine bl 43 ((dir==1)) (fun i=>?_) (fun i=>?_)
 have ad:=ah i
 exact Pl 1<|L1<|aO a 0<|Pl 2<|ce B (M.code != 15) (by rw[i];rfl)
 have ad:=aj i
 exact Pl 4<|ce B false (by rw[i];rfl)
 refine Pl 1<|nt<|cb (((dir==1)&&(M.code != 15))) (fun j=>?_) (fun j=>?_)
 have C:=(aT j).1
 have D:=(aT j).2
 have bf:=ah C
 have bg:=ax D
 refine sg<|Pl 1<|L0<|aO a 14<|Pl 2<|L0<|cL (m:=1) (e:=5) #[.int .u8 (((M.data.length:Nat) : Int)%256)] fun bh bi ae af p=>?_
 have E:=cC ae (xs:=[(((M.data.length:Nat) : Int)%256)]) (by as_aux_lemma=>kernel_rfl) (au (by omega) aK) (by(try simp only[List.length_cons,List.length_nil]);omega) af
 refine Pl 1<|?_
 refine L0<|aO (ub p a) 14<|?_
 have F:=aD b p
 refine L0<|bR aZ (xs:=([(((M.data.length:Nat) : Int)%256)])) (ys:=M.data) (.int .u8 0) 1 E (b9.old hd F) (by(try simp only[List.length_append,List.length_cons,List.length_nil,aA]);omega) p.size fun ag ai bj ak al=>Pl 1<|nt<|rt<|br<|tr<|rr (.slice ag (([(((M.data.length:Nat) : Int)%256)]++M.data).length) ai)<|?_
 have hs:bM dir M=([(((M.data.length:Nat) : Int)%256)]++M.data):=by
   unfold bM
   (try simp only[hd0,c,d,f,j,C,D,bs,if_true,if_false,decide_true,decide_false,reduceIte])
   all_goals rfl
 rw[hs]
 exact⟨_,rfl,(aS.weaken ak b.size),(ut F al (av (aN E b.size) ay))⟩
 refine sk<|bn<|tn<|sg<|Pl 1<|L0<|aO a 2<|Pl 1<|L0<|aO a 3<|L0<|cL (m:=2) (e:=24) #[.int .u16 M.addr,.int .u16 M.count] fun bm bo am an G=>?_
 have ao:=dL am (xs:=[M.addr,M.count]) (by as_aux_lemma=>kernel_rfl) (au (by omega) (au (by omega) aK)) (by(try simp only[List.length_cons,List.length_nil]);omega) an
 refine L0<|Oc<|dG (bU (xs:=[M.addr,M.count]) (ao).rd (by(try simp only[List.length_cons,List.length_nil]);omega)) fun aq ar bp aw bq bt aB=>Pl 1<|nt<|rt<|rr (.slice aq ((aJ ([M.addr,M.count])).length) ar)<|?_
 have hs:bM dir M=(aJ ([M.addr,M.count])):=by
   unfold bM
   (try simp only[hd0,c,d,f,j,bs,if_true,if_false,decide_true,decide_false,reduceIte])
   all_goals rfl
 rw[hs]
 exact⟨_,rfl,(aS.weaken aw (le b.size G.size)),(aD b (aD G aB))⟩
theorem oC{m:Md}{cs:Array Value}{M:aP}{w:World}{dir:Int}(h:aH m w cs.toList M)(hf:bS M)(hd0:(dir==0)=false) : Calls Tryz.prog 203 #[.int .i64 dir,.agg cs] w (ik (bM dir M) w):=by
 obtain⟨vw,vb,vd,vr,vo,h0,hw,hbt,hd,hr,ho,hR⟩:=h
 obtain rfl:cs=(bu M vw vb vd vr vo).toArray:=by apply Array.toList_inj.1;simpa using h0
 clear h0
 obtain⟨Aw,kw,rfl,_,_⟩:=hw.shape
 obtain⟨Ab,kb,rfl,_,_⟩:=hbt.shape
 obtain⟨Ad,kd,rfl,_,_⟩:=hd.shape
 obtain⟨Ar,kr,rfl,_,_⟩:=hr.shape
 obtain⟨Ao,ko,rfl,_,_⟩:=ho.shape
 obtain⟨q0,q1,q2,q3,q4,q5,q6,q7,q8,q9,t,u,v,x,y,z,A⟩:=hR
 simp only[B8,dp] at q0 q1 q2 q3 q4 q5 q6 q7 q8 q9 t u v x y z A
 have hf1:=hf.words
 have hf2:=hf.bits
 have hf3:=hf.data
 have hf4:=hf.recs
 have hf5:=hf.objects
 refine en 62 Tryz.func203 rfl<|sg<|L0<|dv (mG M.code M.fail M.addr M.count M.value M.and_ M.or_ M.addr2 M.sub M.status M.events M.messages (.slice Aw M.words.length kw) (.slice Ab M.bits.length kb) (.slice Ad M.data.length kd) (.slice Ar M.recs.length kr) M.mei M.kind M.level M.more M.next (.slice Ao M.objects.length ko)) fun a0 a1 a2 a b=>Pl 1<|nt<|sq<|bk<|sg<|Pl 1<|L0<|aO a 0<|Pl 2<|nl<|?_
 refine tn<|cb ((M.code==5)) (fun c=>?_) (fun c=>?_)
 have B:=ah c
 refine sg<|Pl 1<|L0<|aO a 2<|Pl 1<|L0<|aO a 4<|L0<|cL (m:=2) (e:=24) #[.int .u16 M.addr,.int .u16 M.value] fun a3 a4 C D k=>?_
 have E:=dL C (xs:=[M.addr,M.value]) (by as_aux_lemma=>kernel_rfl) (au (by omega) (au (by omega) aK)) (by(try simp only[List.length_cons,List.length_nil]);omega) D
 refine L0<|Oc<|dG (bU (xs:=[M.addr,M.value]) (E).rd (by(try simp only[List.length_cons,List.length_nil]);omega)) fun F G a5 H a6 a7 I=>Pl 1<|nt<|rt<|br<|tr<|rr (.slice F ((aJ ([M.addr,M.value])).length) G)<|?_
 have hs:bM dir M=(aJ ([M.addr,M.value])):=by
   unfold bM
   (try simp only[hd0,c,bs,if_true,if_false,decide_true,decide_false,reduceIte])
   all_goals rfl
 rw[hs]
 exact⟨_,rfl,(aS.weaken H (le b.size k.size)),(aD b (aD k I))⟩
 have B:=aj c
 refine sg<|Pl 1<|L0<|aO a 0<|Pl 2<|cu 3 [20] 23 (((M.code==15)&&(dir==0))) (fun K l=>?_) ?_
 refine bl 20 ((M.code==15)) (fun d=>?_) (fun d=>?_)
 have J:=ah d
 exact Pl 3<|ce l (dir==0) (by rw[d];rfl)
 have J:=aj d
 exact Pl 3<|ce l false (by rw[d];rfl)
 refine Pl 1<|nt<|?_
 have i:((M.code==15)&&(dir==0))=false:=by simp only[hd0,bs]
 refine cf i<|sg<|Pl 3<|cu 4 [43] 47 (((dir==1)&&(M.code != 15))) (fun K n=>?_) ?_
 refine bl 43 ((dir==1)) (fun f=>?_) (fun f=>?_)
 have L:=ah f
 exact Pl 1<|L1<|aO a 0<|Pl 2<|ce n (M.code != 15) (by rw[f];rfl)
 have L:=aj f
 exact Pl 4<|ce n false (by rw[f];rfl)
 refine Pl 1<|nt<|cb (((dir==1)&&(M.code != 15))) (fun g=>?_) (fun g=>?_)
 have o:=(aT g).1
 have p:=(aT g).2
 have a8:=ah o
 have a9:=ax p
 refine sg<|Pl 1<|L0<|aO a 14<|Pl 2<|L0<|cL (m:=1) (e:=5) #[.int .u8 (((M.data.length:Nat) : Int)%256)] fun aa ab N O j=>?_
 have q:=cC N (xs:=[(((M.data.length:Nat) : Int)%256)]) (by as_aux_lemma=>kernel_rfl) (au (by omega) aK) (by(try simp only[List.length_cons,List.length_nil]);omega) O
 refine Pl 1<|?_
 refine L0<|aO (ub j a) 14<|?_
 have r:=aD b j
 refine L0<|bR aZ (xs:=([(((M.data.length:Nat) : Int)%256)])) (ys:=M.data) (.int .u8 0) 1 q (b9.old hd r) (by(try simp only[List.length_append,List.length_cons,List.length_nil,aA]);omega) j.size fun P Q ac R S=>Pl 1<|nt<|rt<|br<|tr<|rr (.slice P (([(((M.data.length:Nat) : Int)%256)]++M.data).length) Q)<|?_
 have hs:bM dir M=([(((M.data.length:Nat) : Int)%256)]++M.data):=by
   unfold bM
   (try simp only[hd0,c,i,g,o,p,bs,if_true,if_false,decide_true,decide_false,reduceIte])
   all_goals rfl
 rw[hs]
 exact⟨_,rfl,(aS.weaken R b.size),(ut r S (av (aN q b.size) ay))⟩
 refine sk<|bn<|tn<|sg<|Pl 1<|L0<|aO a 2<|Pl 1<|L0<|aO a 3<|L0<|cL (m:=2) (e:=24) #[.int .u16 M.addr,.int .u16 M.count] fun ad ae T U s=>?_
 have V:=dL T (xs:=[M.addr,M.count]) (by as_aux_lemma=>kernel_rfl) (au (by omega) (au (by omega) aK)) (by(try simp only[List.length_cons,List.length_nil]);omega) U
 refine L0<|Oc<|dG (bU (xs:=[M.addr,M.count]) (V).rd (by(try simp only[List.length_cons,List.length_nil]);omega)) fun W X af Y ag ai Z=>Pl 1<|nt<|rt<|rr (.slice W ((aJ ([M.addr,M.count])).length) X)<|?_
 have hs:bM dir M=(aJ ([M.addr,M.count])):=by
   unfold bM
   (try simp only[hd0,c,i,g,bs,if_true,if_false,decide_true,decide_false,reduceIte])
   all_goals rfl
 rw[hs]
 exact⟨_,rfl,(aS.weaken Y (le b.size s.size)),(aD b (aD s Z))⟩
theorem tB{m:Md}{cs:Array Value}{M:aP}{w:World}{dir:Int}(h:aH m w cs.toList M)(hf:bS M) : Calls Tryz.prog 203 #[.int .i64 dir,.agg cs] w (ik (bM dir M) w):=by
  rcases ej (dir==0) with h0|h0
  · exact pT h hf h0
  · exact oC h hf h0
open Go.RowKit
def dO (x:Bool)(w:World)(e:Ending)(w':World) : Prop:=e = .returned (.bool x)∧aC [] w w'
theorem nf{α:Type} [DecidableEq α]{xs ys:List α}{d:α}(h:xs.length=ys.length){k:Nat}(hk:k<xs.length)(hp:xs.take k=ys.take k)(hx:xs.getD k d=ys.getD k d) : xs.take (k+1)=ys.take (k+1):=by
  rw[List.take_add_one,List.take_add_one,hp]
  simp only[List.getD_eq_getElem?_getD,List.getElem?_eq_getElem hk,List.getElem?_eq_getElem (h▸hk),Option.getD_some] at hx
  simp[List.getElem?_eq_getElem hk,List.getElem?_eq_getElem (h▸hk),hx]
theorem sU{α:Type} [DecidableEq α]{xs ys:List α}{d:α}(k:Nat)(hx:xs.getD k d≠ys.getD k d) : xs≠ys:=fun h=>hx (by rw[h])
theorem rz{m m':Md}{u v:Value}{xs ys:List Int}{w:World}(hx:dU m w u xs)(hy:dU m' w v ys) : Calls Tryz.prog 220 #[u,v] w (dO (decide (xs=ys)) w):=by
  have hhx:=hx
  have hhy:=hy
  obtain⟨A,c,rfl,hc1,hc2⟩:=hx.shape
  obtain⟨B,c',rfl,ig,iO⟩:=hy.shape
  have hn:xs.length≤9223372036854775807:=by have:=hc2;unfold maxLen at this;omega
  by_cases hl:xs.length=ys.length
  case neg =>
    have hno:∀ W,aC [] w W→dO (decide (xs=ys)) w (.returned (.bool false)) W:=by
      intro W hW
      rw[decide_eq_false (fun h=>hl (by rw[h]))]
      exact⟨rfl,hW⟩
    have hli:((xs.length:Int)!=(ys.length:Int))=true:=by simp;omega
    clear hx hy hhx hhy hl
    go_enter Tryz.func220,Tryz.ntmps220
    go_wp2
    go_ret
    exact hno _ (aC.refl _ _)
  have hno:∀ W k,xs.getD k 0≠ys.getD k 0→aC [] w W→dO (decide (xs=ys)) w (.returned (.bool false)) W:=by
    intro W k hk hW
    rw[decide_eq_false (sU k hk)]
    exact⟨rfl,hW⟩
  have hyes:∀ W,xs.take xs.length=ys.take xs.length→aC [] w W→dO (decide (xs=ys)) w (.returned (.bool true)) W:=by
    intro W hk hW
    rw[List.take_length,hl,List.take_length] at hk
    rw[decide_eq_true hk]
    exact⟨rfl,hW⟩
  revert hno hyes
  generalize dO (decide (xs=ys)) w=P
  intro hno hyes
  have hli:((xs.length:Int)!=(ys.length:Int))=false:=by simp;omega
  have hL:=Lib.hid hl
  clear hx hy hl
  go_enter Tryz.func220,Tryz.ntmps220
  go_wp2
  go_loopw [13] (fun i wr=>∃ k:Nat,k≤xs.length∧i = .int .i64 (k:Int)∧xs.take k=ys.take k∧aC [] w wr) (fun i _=>xs.length-(intOf i).toNat)
  case atStart=>exact⟨0,by omega,rfl,by simp,aC.refl _ _⟩
  case round =>
    obtain⟨k,hk,rfl,hpre,hu⟩:=hrel
    by_cases hlt:k<xs.length
    · obtain⟨b,off,rfl,cw0,hr0⟩:=dU.at_ hhx k hlt
      obtain⟨b',off',rfl,cw1,hr1⟩:=dU.at_ hhy k (by have:=hL.out;omega)
      have hlt':k<ys.length:=by have:=hL.out;omega
      have hstep:=fun h=>nf (d:=0) hL.out hlt hpre h
      have hno':=fun W h=>hno W k h
      revert cw0 cw1 hstep hno' hr0 hr1
      generalize xs.getD k 0=x0
      generalize ys.getD k 0=y0
      intro cw0 hr0 cw1 hr1 hstep hno'
      have hc0:=hu.cell (by simp) cw0
      have hc1:=hu.cell (by simp) cw1
      have hstep:=Lib.hid hstep
      have hno':=Lib.hid hno'
      clear cw0 cw1 hhx hhy hpre hno hyes
      have hc0:wr.drew.cell? ⟨b,off+k,none⟩=some (.int .u16 x0):=hc0
      have hc1:wr.drew.cell? ⟨b',off'+k,none⟩=some (.int .u16 y0):=hc1
      go_wp2
      refine p2 (S:=fun w'=>w'.cell? ⟨b,off+k,none⟩=some (.int .u16 x0)∧w'.cell? ⟨b',off'+k,none⟩=some (.int .u16 y0)) (n:=9) #[false,false,false,false,false,false,false,false,false] (by kernel_rfl) rfl rfl ⟨hc0,hc1⟩ (fun hHeld=>?_)
      refine du (i:=0) (N:=some 16) (v:=?_) (a':=?_) #[true,false,false,false,false,false,false,false,false] rfl rfl (by kernel_rfl) (fun _ _ _ h=>h) (Or.inl ⟨by rfl,?_⟩) hHeld ?_ ?_
      rotate_left
      · rintro w' ⟨hs0,hs1⟩
        go_simp
        with_reducible rfl
      rotate_left
      · simp only[Act.put,List.setIfInBounds_toArray,List.set_cons_zero,List.set_cons_succ]
        rfl
      refine du (i:=1) (N:=some 17) (v:=?_) (a':=?_) #[true,true,false,false,false,false,false,false,false] rfl rfl (by kernel_rfl) (fun _ _ _ h=>h) (Or.inl ⟨by rfl,?_⟩) hHeld ?_ ?_
      rotate_left
      · rintro w' ⟨hs0,hs1⟩
        go_simp
        with_reducible rfl
      rotate_left
      · simp only[Act.put,List.setIfInBounds_toArray,List.set_cons_zero,List.set_cons_succ]
        rfl
      refine du (i:=2) (N:=some 18) (v:=?_) (a':=?_) #[true,true,true,false,false,false,false,false,false] rfl rfl (by kernel_rfl) (fun _ _ _ h=>h) (Or.inl ⟨by rfl,?_⟩) hHeld ?_ ?_
      rotate_left
      · rintro w' ⟨hs0,hs1⟩
        go_simp
        with_reducible rfl
      rotate_left
      · simp only[Act.put,List.setIfInBounds_toArray,List.set_cons_zero,List.set_cons_succ]
        rfl
      refine du (i:=3) (N:=some 19) (v:=?_) (a':=?_) #[true,true,true,true,false,false,false,false,false] rfl rfl (by kernel_rfl) (fun _ _ _ h=>h) (Or.inl ⟨by rfl,?_⟩) hHeld ?_ ?_
      rotate_left
      · rintro w' ⟨hs0,hs1⟩
        go_simp
        with_reducible rfl
      rotate_left
      · simp only[Act.put,List.setIfInBounds_toArray,List.set_cons_zero,List.set_cons_succ]
        rfl
      refine du (i:=4) (N:=some 20) (v:=?_) (a':=?_) #[true,true,true,true,true,false,false,false,false] rfl rfl (by kernel_rfl) (fun _ _ _ h=>h) (Or.inl ⟨by rfl,?_⟩) hHeld ?_ ?_
      rotate_left
      · rintro w' ⟨hs0,hs1⟩
        go_simp
        with_reducible rfl
      rotate_left
      · simp only[Act.put,List.setIfInBounds_toArray,List.set_cons_zero,List.set_cons_succ]
        rfl
      refine du (i:=5) (N:=some 21) (v:=?_) (a':=?_) #[true,true,true,true,true,true,false,false,false] rfl rfl (by kernel_rfl) (fun _ _ _ h=>h) (Or.inl ⟨by rfl,?_⟩) hHeld ?_ ?_
      rotate_left
      · rintro w' ⟨hs0,hs1⟩
        go_simp
        with_reducible rfl
      rotate_left
      · simp only[Act.put,List.setIfInBounds_toArray,List.set_cons_zero,List.set_cons_succ]
        rfl
      refine du (i:=6) (N:=some 22) (v:=?_) (a':=?_) #[true,true,true,true,true,true,true,false,false] rfl rfl (by kernel_rfl) (fun _ _ _ h=>h) (Or.inl ⟨by rfl,?_⟩) hHeld ?_ ?_
      rotate_left
      · rintro w' ⟨hs0,hs1⟩
        go_simp
        with_reducible rfl
      rotate_left
      · simp only[Act.put,List.setIfInBounds_toArray,List.set_cons_zero,List.set_cons_succ]
        rfl
      refine du (i:=7) (N:=some 23) (v:=?_) (a':=?_) #[true,true,true,true,true,true,true,true,false] rfl rfl (by kernel_rfl) (fun _ _ _ h=>h) (Or.inl ⟨by rfl,?_⟩) hHeld ?_ ?_
      rotate_left
      · rintro w' ⟨hs0,hs1⟩
        go_simp
        with_reducible rfl
      rotate_left
      · simp only[Act.put,List.setIfInBounds_toArray,List.set_cons_zero,List.set_cons_succ]
        rfl
      refine du (i:=8) (N:=some 24) (v:=?_) (a':=?_) #[true,true,true,true,true,true,true,true,true] rfl rfl (by kernel_rfl) (fun _ _ _ h=>h) (Or.inl ⟨by rfl,?_⟩) hHeld ?_ ?_
      rotate_left
      · rintro w' ⟨hs0,hs1⟩
        go_simp
        with_reducible rfl
      rotate_left
      · simp only[Act.put,List.setIfInBounds_toArray,List.set_cons_zero,List.set_cons_succ]
        rfl
      refine rG (by kernel_rfl) ?_
      clear hc0 hc1 hHeld
      go_wp2
      · exact hno'.out _ (by simpa using (show(x0 != y0)=true by assumption)) (hu.drew)
      · go_roundw
        case rel=>exact⟨k+1,by omega,by go_num,hstep.out (by simpa using (show(x0 != y0)=false by assumption)),hu.drew⟩
        case measure=>simp[intOf];omega
    · have hj3:k=xs.length:=by omega
      have H3:=Lib.hid hj3
      rw[hj3] at hpre
      clear hj3 hhx hhy
      go_wp2
      exact hyes _ hpre hu
theorem wT{m m':Md}{u v:Value}{xs ys:List Bool}{w:World}(hx:ii m w u xs)(hy:ii m' w v ys) : Calls Tryz.prog 221 #[u,v] w (dO (decide (xs=ys)) w):=by
  have hhx:=hx
  have hhy:=hy
  obtain⟨A,c,rfl,hc1,hc2⟩:=hx.shape
  obtain⟨B,c',rfl,ig,iO⟩:=hy.shape
  have hn:xs.length≤9223372036854775807:=by have:=hc2;unfold maxLen at this;omega
  by_cases hl:xs.length=ys.length
  case neg =>
    have hno:∀ W,aC [] w W→dO (decide (xs=ys)) w (.returned (.bool false)) W:=by
      intro W hW
      rw[decide_eq_false (fun h=>hl (by rw[h]))]
      exact⟨rfl,hW⟩
    have hli:((xs.length:Int)!=(ys.length:Int))=true:=by simp;omega
    clear hx hy hhx hhy hl
    go_enter Tryz.func221,Tryz.ntmps221
    go_wp2
    go_ret
    exact hno _ (aC.refl _ _)
  have hno:∀ W k,xs.getD k false≠ys.getD k false→aC [] w W→dO (decide (xs=ys)) w (.returned (.bool false)) W:=by
    intro W k hk hW
    rw[decide_eq_false (sU k hk)]
    exact⟨rfl,hW⟩
  have hyes:∀ W,xs.take xs.length=ys.take xs.length→aC [] w W→dO (decide (xs=ys)) w (.returned (.bool true)) W:=by
    intro W hk hW
    rw[List.take_length,hl,List.take_length] at hk
    rw[decide_eq_true hk]
    exact⟨rfl,hW⟩
  revert hno hyes
  generalize dO (decide (xs=ys)) w=P
  intro hno hyes
  have hli:((xs.length:Int)!=(ys.length:Int))=false:=by simp;omega
  have hL:=Lib.hid hl
  clear hx hy hl
  go_enter Tryz.func221,Tryz.ntmps221
  go_wp2
  go_loopw [13] (fun i wr=>∃ k:Nat,k≤xs.length∧i = .int .i64 (k:Int)∧xs.take k=ys.take k∧aC [] w wr) (fun i _=>xs.length-(intOf i).toNat)
  case atStart=>exact⟨0,by omega,rfl,by simp,aC.refl _ _⟩
  case round =>
    obtain⟨k,hk,rfl,hpre,hu⟩:=hrel
    by_cases hlt:k<xs.length
    · obtain⟨b,off,rfl,cw0⟩:=ii.at_ hhx k hlt
      obtain⟨b',off',rfl,cw1⟩:=ii.at_ hhy k (by have:=hL.out;omega)
      have hlt':k<ys.length:=by have:=hL.out;omega
      have hstep:=fun h=>nf (d:=false) hL.out hlt hpre h
      have hno':=fun W h=>hno W k h
      revert cw0 cw1 hstep hno'
      generalize xs.getD k false=x0
      generalize ys.getD k false=y0
      intro cw0 cw1 hstep hno'
      have hc0:=hu.cell (by simp) cw0
      have hc1:=hu.cell (by simp) cw1
      have hstep:=Lib.hid hstep
      have hno':=Lib.hid hno'
      clear cw0 cw1 hhx hhy hpre hno hyes
      have hc0:wr.drew.cell? ⟨b,off+k,none⟩=some (.bool x0):=hc0
      have hc1:wr.drew.cell? ⟨b',off'+k,none⟩=some (.bool y0):=hc1
      go_wp2
      refine p2 (S:=fun w'=>w'.cell? ⟨b,off+k,none⟩=some (.bool x0)∧w'.cell? ⟨b',off'+k,none⟩=some (.bool y0)) (n:=9) #[false,false,false,false,false,false,false,false,false] (by kernel_rfl) rfl rfl ⟨hc0,hc1⟩ (fun hHeld=>?_)
      refine du (i:=0) (N:=some 16) (v:=?_) (a':=?_) #[true,false,false,false,false,false,false,false,false] rfl rfl (by kernel_rfl) (fun _ _ _ h=>h) (Or.inl ⟨by rfl,?_⟩) hHeld ?_ ?_
      rotate_left
      · rintro w' ⟨hs0,hs1⟩
        go_simp
        with_reducible rfl
      rotate_left
      · simp only[Act.put,List.setIfInBounds_toArray,List.set_cons_zero,List.set_cons_succ]
        rfl
      refine du (i:=1) (N:=some 17) (v:=?_) (a':=?_) #[true,true,false,false,false,false,false,false,false] rfl rfl (by kernel_rfl) (fun _ _ _ h=>h) (Or.inl ⟨by rfl,?_⟩) hHeld ?_ ?_
      rotate_left
      · rintro w' ⟨hs0,hs1⟩
        go_simp
        with_reducible rfl
      rotate_left
      · simp only[Act.put,List.setIfInBounds_toArray,List.set_cons_zero,List.set_cons_succ]
        rfl
      refine du (i:=2) (N:=some 18) (v:=?_) (a':=?_) #[true,true,true,false,false,false,false,false,false] rfl rfl (by kernel_rfl) (fun _ _ _ h=>h) (Or.inl ⟨by rfl,?_⟩) hHeld ?_ ?_
      rotate_left
      · rintro w' ⟨hs0,hs1⟩
        go_simp
        with_reducible rfl
      rotate_left
      · simp only[Act.put,List.setIfInBounds_toArray,List.set_cons_zero,List.set_cons_succ]
        rfl
      refine du (i:=3) (N:=some 19) (v:=?_) (a':=?_) #[true,true,true,true,false,false,false,false,false] rfl rfl (by kernel_rfl) (fun _ _ _ h=>h) (Or.inl ⟨by rfl,?_⟩) hHeld ?_ ?_
      rotate_left
      · rintro w' ⟨hs0,hs1⟩
        go_simp
        with_reducible rfl
      rotate_left
      · simp only[Act.put,List.setIfInBounds_toArray,List.set_cons_zero,List.set_cons_succ]
        rfl
      refine du (i:=4) (N:=some 20) (v:=?_) (a':=?_) #[true,true,true,true,true,false,false,false,false] rfl rfl (by kernel_rfl) (fun _ _ _ h=>h) (Or.inl ⟨by rfl,?_⟩) hHeld ?_ ?_
      rotate_left
      · rintro w' ⟨hs0,hs1⟩
        go_simp
        with_reducible rfl
      rotate_left
      · simp only[Act.put,List.setIfInBounds_toArray,List.set_cons_zero,List.set_cons_succ]
        rfl
      refine du (i:=5) (N:=some 21) (v:=?_) (a':=?_) #[true,true,true,true,true,true,false,false,false] rfl rfl (by kernel_rfl) (fun _ _ _ h=>h) (Or.inl ⟨by rfl,?_⟩) hHeld ?_ ?_
      rotate_left
      · rintro w' ⟨hs0,hs1⟩
        go_simp
        with_reducible rfl
      rotate_left
      · simp only[Act.put,List.setIfInBounds_toArray,List.set_cons_zero,List.set_cons_succ]
        rfl
      refine du (i:=6) (N:=some 22) (v:=?_) (a':=?_) #[true,true,true,true,true,true,true,false,false] rfl rfl (by kernel_rfl) (fun _ _ _ h=>h) (Or.inl ⟨by rfl,?_⟩) hHeld ?_ ?_
      rotate_left
      · rintro w' ⟨hs0,hs1⟩
        go_simp
        with_reducible rfl
      rotate_left
      · simp only[Act.put,List.setIfInBounds_toArray,List.set_cons_zero,List.set_cons_succ]
        rfl
      refine du (i:=7) (N:=some 23) (v:=?_) (a':=?_) #[true,true,true,true,true,true,true,true,false] rfl rfl (by kernel_rfl) (fun _ _ _ h=>h) (Or.inl ⟨by rfl,?_⟩) hHeld ?_ ?_
      rotate_left
      · rintro w' ⟨hs0,hs1⟩
        go_simp
        with_reducible rfl
      rotate_left
      · simp only[Act.put,List.setIfInBounds_toArray,List.set_cons_zero,List.set_cons_succ]
        rfl
      refine du (i:=8) (N:=some 24) (v:=?_) (a':=?_) #[true,true,true,true,true,true,true,true,true] rfl rfl (by kernel_rfl) (fun _ _ _ h=>h) (Or.inl ⟨by rfl,?_⟩) hHeld ?_ ?_
      rotate_left
      · rintro w' ⟨hs0,hs1⟩
        go_simp
        with_reducible rfl
      rotate_left
      · simp only[Act.put,List.setIfInBounds_toArray,List.set_cons_zero,List.set_cons_succ]
        rfl
      refine rG (by kernel_rfl) ?_
      clear hc0 hc1 hHeld
      go_wp2
      · exact hno'.out _ (by simpa using (show(x0 != y0)=true by assumption)) (hu.drew)
      · go_roundw
        case rel=>exact⟨k+1,by omega,by go_num,hstep.out (by simpa using (show(x0 != y0)=false by assumption)),hu.drew⟩
        case measure=>simp[intOf];omega
    · have hj3:k=xs.length:=by omega
      have H3:=Lib.hid hj3
      rw[hj3] at hpre
      clear hj3 hhx hhy
      go_wp2
      exact hyes _ hpre hu
open Go.RowKit
theorem b9.cells{m:Md}{w:World}{A:Option Addr}{n c:Nat}{xs:List Int}(h:b9 m w (.slice A n c) xs) : (A=none∧xs=[])∨xs=[]∨∃ b off,A=some ⟨b,off,none⟩∧∀ i,i<xs.length→w.cell? ⟨b,off+i,none⟩=some (.int .u8 (xs.getD i 0)):=by
  by_cases h0:xs=[]
  · exact .inr (.inl h0)
  · have hl:0<xs.length:=List.length_pos_iff.2 h0
    obtain⟨b,off,rfl,_⟩:=b9.at_ h 0 hl
    refine .inr (.inr ⟨b,off,rfl,fun i hi=>?_⟩)
    obtain⟨b',off',hA,hc,_⟩:=b9.at_ h i hi
    injection hA with hA
    injection hA with h1 h2
    subst h1 h2
    exact hc
theorem rH{m:Md}{w:World}{v:Value}{xs:List Int}(h:b9 m w v xs) : (convert 22 9 v).run Tryz.prog w = .ok (.string (strOfNums xs)) w:=by
  have hh:=h
  obtain⟨A,c,rfl,h1,h2,h0,h3⟩:=hh
  rcases Nat.eq_zero_or_pos xs.length with hz|hz
  · obtain rfl:xs=[]:=List.eq_nil_of_length_eq_zero hz
    cases A with
    | none=>exact run_convert_bytes_nil w _ _ Tryz.underlying22 Tryz.underlying5 _ _ _ Tryz.underlying9
    | some a =>
      rw[run_convert_bytes_string w _ _ _ _ _ _ Tryz.underlying22 Tryz.underlying5 Tryz.underlying9]
      rw[run_bytesToString w a _ c [] (by simp[loadCells,loadCellsFrom,Sem.run_pure])]
      rfl
  · obtain⟨b,off,cells,t,fr,rfl,hb,ht,hx⟩:=h3 hz
    exact run_convert_bytes_arg w _ _ Tryz.underlying22 Tryz.underlying5 b off _ c xs rfl (fun i hi=>by
      obtain⟨b',off',hA,hc,_⟩:=b9.at_ h i hi
      injection hA with hA
      injection hA with h1 h2
      subst h1 h2
      exact hc) _ Tryz.underlying9
theorem rN:∀ {xs ys:List Int},(∀ x,x∈xs→0≤x∧x<256)→(∀ x,x∈ys→0≤x∧x<256)→(xs.map fun n=>UInt8.ofNat n.toNat)=(ys.map fun n=>UInt8.ofNat n.toNat)→xs=ys
  | [],[],_,_,_=>rfl
  | [],_ :: _,_,_,h=>by simp at h
  | _ :: _,[],_,_,h=>by simp at h
  | x :: xs,y :: ys,hx,hy,h=>by
    simp only[List.map_cons,List.cons.injEq] at h
    have h1:=hx x (by simp)
    have h2:=hy y (by simp)
    have h3:x=y:=by
      have:=congrArg UInt8.toNat h.1
      simp at this
      omega
    rw[h3,rN (fun z hz=>hx z (by simp[hz])) (fun z hz=>hy z (by simp[hz])) h.2]
theorem tz{m m':Md}{w w' W:World}{u v:Value}{xs ys:List Int}(hx:b9 m w u xs)(hy:b9 m' w' v ys) : (binOp .eql 9 (.string (strOfNums xs)) (.string (strOfNums ys))).run Tryz.prog W = .ok (.bool (decide (xs=ys))) W:=by
  have e:((strOfNums xs).toList==(strOfNums ys).toList)=decide (xs=ys):=by
    by_cases h:xs=ys
    · subst h;simp
    · rw[decide_eq_false h,beq_eq_false_iff_ne]
      intro h2
      rw[ByteArray.toList_eq,ByteArray.toList_eq] at h2
      exact h (rN hx.rng hy.rng h2)
  rw[binOp_string_eql,e]
  rfl
theorem xz{A B:dj}:decide (A=B)=(decide (A.file=B.file)&&(decide (A.record=B.record)&&(decide (A.count=B.count)&&decide (A.words=B.words)))):=by
  rw[Bool.eq_iff_iff]
  cases A;cases B
  simp
theorem xD{m m':Md}{ca cb:List Value}{A B:dj}{w:World}(ha:bq m w A ca)(hb:bq m' w B cb) : Calls Tryz.prog 223 #[.agg ca.toArray,.agg cb.toArray] w (dO (decide (A=B)) w):=by
  obtain⟨va,rfl,hwa,hra⟩:=ha
  obtain⟨vb,rfl,hwb,hrb⟩:=hb
  rw[xz]
  generalize A.file=f1 at *
  generalize A.record=f2 at *
  generalize A.count=f3 at *
  generalize A.words=f4 at *
  generalize B.file=g1 at *
  generalize B.record=g2 at *
  generalize B.count=g3 at *
  generalize B.words=g4 at *
  clear hra hrb
  have hpost:∀ W,aC [] w W→dO (decide (f1=g1)&&(decide (f2=g2)&&(decide (f3=g3)&&decide (f4=g4)))) w (.returned (.bool (decide (f1=g1)&&(decide (f2=g2)&&(decide (f3=g3)&&decide (f4=g4)))))) W:=fun W h=>⟨rfl,h⟩
  revert hpost
  generalize dO (decide (f1=g1)&&(decide (f2=g2)&&(decide (f3=g3)&&decide (f4=g4)))) w=P
  intro hpost
  by_cases h1:f1=g1
  case neg =>
    have e:(decide (f1=g1)&&(decide (f2=g2)&&(decide (f3=g3)&&decide (f4=g4))))=false:=by simp[h1]
    rw[e] at hpost
    have e1:(f1==g1)=false:=by simpa using h1
    clear h1 e hwa hwb
    replace hpost:=Lib.hid hpost
    go_enter Tryz.func223,Tryz.ntmps223
    go_wp2
    exact hpost.out _ (((aC.refl [] w).alloc _).alloc _)
  subst h1
  by_cases h1:f2=g2
  case neg =>
    have e:(decide (f1=f1)&&(decide (f2=g2)&&(decide (f3=g3)&&decide (f4=g4))))=false:=by simp[h1]
    rw[e] at hpost
    have e1:(f2==g2)=false:=by simpa using h1
    clear h1 e hwa hwb
    replace hpost:=Lib.hid hpost
    go_enter Tryz.func223,Tryz.ntmps223
    go_wp2
    exact hpost.out _ (((aC.refl [] w).alloc _).alloc _)
  subst h1
  by_cases h1:f3=g3
  case neg =>
    have e:(decide (f1=f1)&&(decide (f2=f2)&&(decide (f3=g3)&&decide (f4=g4))))=false:=by simp[h1]
    rw[e] at hpost
    have e1:(f3==g3)=false:=by simpa using h1
    clear h1 e hwa hwb
    replace hpost:=Lib.hid hpost
    go_enter Tryz.func223,Tryz.ntmps223
    go_wp2
    exact hpost.out _ (((aC.refl [] w).alloc _).alloc _)
  subst h1
  have e:(decide (f1=f1)&&(decide (f2=f2)&&(decide (f3=f3)&&decide (f4=g4))))=decide (f4=g4):=by simp
  rw[e] at hpost
  clear e
  have hcall:=fun(W:World) (h:aC [] w W)=>rz (hwa.old h) (hwb.old h)
  replace hpost:=Lib.hid hpost
  go_enter Tryz.func223,Tryz.ntmps223
  go_wp2_with (go_at_call 220;refine(hcall _ (((aC.refl [] w).alloc _).alloc _)).mono ?_;rintro e w1 ⟨rfl,hu1⟩)
  exact hpost.out _ ((((aC.refl [] w).alloc _).alloc _).step hu1)
theorem wz{A B:Obj}:decide (A=B)=(decide (A.id=B.id)&&decide (A.value=B.value)):=by
  rw[Bool.eq_iff_iff]
  cases A;cases B
  simp
theorem qO{m m':Md}{ca cb:List Value}{A B:Obj}{w:World}(ha:dg m w A ca)(hb:dg m' w B cb) : Calls Tryz.prog 225 #[.agg ca.toArray,.agg cb.toArray] w (dO (decide (A=B)) w):=by
  obtain⟨va,rfl,hwa,hra⟩:=ha
  obtain⟨vb,rfl,hwb,hrb⟩:=hb
  rw[wz]
  generalize A.id=f1 at *
  generalize A.value=f4 at *
  generalize B.id=g1 at *
  generalize B.value=g4 at *
  clear hra hrb
  have hpost:∀ W,aC [] w W→dO (decide (f1=g1)&&decide (f4=g4)) w (.returned (.bool (decide (f1=g1)&&decide (f4=g4)))) W:=fun W h=>⟨rfl,h⟩
  revert hpost
  generalize dO (decide (f1=g1)&&decide (f4=g4)) w=P
  intro hpost
  by_cases h1:f1=g1
  case neg =>
    have e:(decide (f1=g1)&&decide (f4=g4))=false:=by simp[h1]
    rw[e] at hpost
    have e1:(f1==g1)=false:=by simpa using h1
    clear h1 e hwa hwb
    replace hpost:=Lib.hid hpost
    go_enter Tryz.func225,Tryz.ntmps225
    go_wp2
    exact hpost.out _ (((aC.refl [] w).alloc _).alloc _)
  subst h1
  have e:(decide (f1=f1)&&decide (f4=g4))=decide (f4=g4):=by simp
  rw[e] at hpost
  have hu0:aC [] w ((w.alloc (.cells #[.int .u8 f1,va] 111)).alloc (.cells #[.int .u8 f1,vb] 111)):=((aC.refl [] w).alloc _).alloc _
  have c1:=rH (hwa.old hu0)
  have c2:=rH (hwb.old hu0)
  have c3:=tz (hwa.old hu0) (hwb.old hu0) (W:=(w.alloc (.cells #[.int .u8 f1,va] 111)).alloc (.cells #[.int .u8 f1,vb] 111))
  replace hpost:=hpost _ hu0
  generalize strOfNums f4=s1 at *
  generalize strOfNums g4=s2 at *
  generalize decide (f4=g4)=D at *
  clear hu0 hwa hwb e
  rw[binOp_string_eql] at c3
  have c4:(s1.toList==s2.toList)=D:=by simpa [Sem.run_pure] using c3
  clear c3
  replace hpost:=Lib.hid hpost
  go_enter Tryz.func225,Tryz.ntmps225
  go_wp2
  exact hpost.out
open Go.RowKit
theorem aL.at_{α:Type}{m:Md}{e:TypeId}{sz:Nat}{R:World→α→List Value→Prop}{w:World}{A:Option Addr}{n c:Nat}{xs:List α}(h:aL m e sz R w (.slice A n c) xs)(d:α)(j:Nat)(hj:j<xs.length) :
    ∃ b off cs,A=some ⟨b,off,none⟩∧w.rangeAt b (off+j*sz) cs∧R w (xs.getD j d) cs∧cs.length=sz:=by
  obtain⟨A',c',hv,h1,h2,h0,h3⟩:=h
  injection hv with e1 e2 e3
  subst e1 e3
  obtain⟨b,off,cells,t,fr,rfl,hb,ht,hx⟩:=h3 (by omega)
  obtain⟨cs,h4,h5,h6⟩:=hx j (xs.getD j d) (by simp[List.getD_eq_getElem?_getD,List.getElem?_eq_getElem hj])
  exact⟨b,off,cs,rfl,fun i u hi=>by rw[bt hb];exact h6 i u hi,h5,h4⟩
theorem bq.upd0{m:Md}{w w':World}(hu:aC [] w w'){r:dj}{cs:List Value}(h:bq m w r cs) : bq m w' r cs:=bq.upd hu (de.nil _ _ _) r cs h
theorem dg.upd0{m:Md}{w w':World}(hu:aC [] w w'){r:Obj}{cs:List Value}(h:dg m w r cs) : dg m w' r cs:=dg.upd hu (de.nil _ _ _) r cs h
theorem fH{w w':World}{b o:Nat}{cs:List Value}(h:w.rangeAt b o cs){S:List Nat}(hu:aC S w w')(hb:b∉S) : w'.rangeAt b o cs:=fun j v hj=>hu.cell hb (h j v hj)
theorem pE:(Tryz.prog.info? 109).map (·.zero)=some (some (.agg #[.int .u16 0,.int .u16 0,.int .u16 0,.slice none 0 0])):=by kernel_rfl
theorem gF:(Tryz.prog.info? 109).map (·.size)=some 4:=by kernel_rfl
theorem pq:(Tryz.prog.info? 111).map (·.zero)=some (some (.agg #[.int .u8 0,.slice none 0 0])):=by kernel_rfl
theorem gD:(Tryz.prog.info? 111).map (·.size)=some 2:=by kernel_rfl
theorem bq.one{m:Md}{w:World}{r:dj}{cs:List Value}(h:bq m w r cs) : cs.toArray.all (·.oneCell')=true∧cs.length=4:=by
  obtain⟨v,rfl,h1,_⟩:=h
  obtain⟨A,c,rfl,_⟩:=h1
  exact⟨by simp[Value.oneCell'],rfl⟩
theorem dg.one{m:Md}{w:World}{r:Obj}{cs:List Value}(h:dg m w r cs) : cs.toArray.all (·.oneCell')=true∧cs.length=2:=by
  obtain⟨v,rfl,h1,_⟩:=h
  obtain⟨A,c,rfl,_⟩:=h1
  exact⟨by simp[Value.oneCell'],rfl⟩
theorem wY{m m':Md}{u v:Value}{xs ys:List dj}{w:World}(hx:ma m w u xs)(hy:ma m' w v ys) :
    Calls Tryz.prog 222 #[u,v,.func (.func 223) #[] #[]] w (dO (decide (xs=ys)) w):=by
  have hhx:=hx
  have hhy:=hy
  obtain⟨A,c,rfl,hc1,hc2⟩:=hx.shape
  obtain⟨B,c',rfl,ig,iO⟩:=hy.shape
  have hn:xs.length≤9223372036854775807:=by have:=hc2;unfold maxLen at this;omega
  by_cases hl:xs.length=ys.length
  case neg =>
    have hno:∀ W,aC [] w W→dO (decide (xs=ys)) w (.returned (.bool false)) W:=by
      intro W hW
      rw[decide_eq_false (fun h=>hl (by rw[h]))]
      exact⟨rfl,hW⟩
    have hli:((xs.length:Int)!=(ys.length:Int))=true:=by simp;omega
    clear hx hy hhx hhy hl
    go_enter Tryz.func222,Tryz.ntmps222
    go_wp2
    go_ret
    exact hno _ (aC.refl _ _)
  have hno:∀ W k,xs.getD k ⟨0,0,0,[]⟩≠ys.getD k ⟨0,0,0,[]⟩→aC [] w W→dO (decide (xs=ys)) w (.returned (.bool false)) W:=by
    intro W k hk hW
    rw[decide_eq_false (sU k hk)]
    exact⟨rfl,hW⟩
  have hyes:∀ W,xs.take xs.length=ys.take xs.length→aC [] w W→dO (decide (xs=ys)) w (.returned (.bool true)) W:=by
    intro W hk hW
    rw[List.take_length,hl,List.take_length] at hk
    rw[decide_eq_true hk]
    exact⟨rfl,hW⟩
  revert hno hyes
  generalize dO (decide (xs=ys)) w=P
  intro hno hyes
  have hli:((xs.length:Int)!=(ys.length:Int))=false:=by simp;omega
  have hL:=Lib.hid hl
  clear hx hy hl
  go_enter Tryz.func222,Tryz.ntmps222
  go_wp2
  go_loopw [17] (fun i wr=>∃ k:Nat,k≤xs.length∧i = .int .i64 (k:Int)∧xs.take k=ys.take k∧aC [] w wr) (fun i _=>xs.length-(intOf i).toNat)
  case atStart=>exact⟨0,by omega,rfl,by simp,aC.refl _ _⟩
  case round =>
    obtain⟨k,hk,rfl,hpre,hu⟩:=hrel
    by_cases hlt:k<xs.length
    · obtain⟨b,off,ca,rfl,cw0,hr0,hl0⟩:=aL.at_ hhx ⟨0,0,0,[]⟩ k hlt
      obtain⟨b',off',cb,rfl,cw1,hr1,hl1⟩:=aL.at_ hhy ⟨0,0,0,[]⟩ k (by have:=hL.out;omega)
      have hlt':k<ys.length:=by have:=hL.out;omega
      have hstep:=fun h=>nf (d:=⟨0,0,0,[]⟩) hL.out hlt hpre h
      have hno':=fun W h=>hno W k h
      revert hstep hno' hr0 hr1
      generalize xs.getD k ⟨0,0,0,[]⟩=x0
      generalize ys.getD k ⟨0,0,0,[]⟩=y0
      intro hr0 hr1 hstep hno'
      have hc0:=Lib.hid (fH cw0 hu (by simp))
      have hc1:=Lib.hid (fH cw1 hu (by simp))
      replace hstep:=Lib.hid hstep
      replace hno':=Lib.hid hno'
      have ha:=Lib.hid hr0
      have hb:=Lib.hid hr1
      clear cw0 cw1 hhx hhy hpre hno hyes hr0 hr1
      have tok1_0:True:=trivial
      have tok1_1:True:=trivial
      have tok1_2:True:=trivial
      have tok1_3:True:=trivial
      have tok1_4:True:=trivial
      have tok1_5:True:=trivial
      have tok1_6:True:=trivial
      have tok1_7:True:=trivial
      have tok1_8:True:=trivial
      go_wp2_with (first | (have _t:=tok1_0;refine wpList_load_mid rfl 109 _ rfl b (off+k*4) rfl ca _ hc0.out Tryz.underlying109 rfl (by rw[hl0];exact gF) ?_;clear _t tok1_0) | (have _t:=tok1_1;refine gU rfl 109 rfl _ pE ?_;intro g1 w1 hg1 hB1 hu1;clear _t tok1_1) | (have _t:=tok1_2;refine gH rfl 109 _ _ rfl g1 rfl ca.toArray rfl _ _ hB1 (by simp only[List.size_toArray,hl0];exact gF) (by simp only[List.size_toArray,hl0];rfl) (bq.one ha.out).1 ?_;intro w2 hB2 hu2;have U2:=hu1.fresh1 hu2 hg1;clear _t tok1_2) | (have _t:=tok1_3;refine wpList_load_mid rfl 109 _ rfl b' (off'+k*4) rfl cb _ (fH hc1.out U2 (by simp)) Tryz.underlying109 rfl (by rw[hl1];exact gF) ?_;clear _t tok1_3) | (have _t:=tok1_4;refine gU rfl 109 rfl _ pE ?_;intro g3 w3 hg3 hB3 hu3;clear _t tok1_4) | (have _t:=tok1_5;refine gH rfl 109 _ _ rfl g3 rfl cb.toArray rfl _ _ hB3 (by simp only[List.size_toArray,hl1];exact gF) (by simp only[List.size_toArray,hl1];rfl) (bq.one hb.out).1 ?_;intro w4 hB4 hu4;have U4:=hu3.fresh1 hu4 hg3;have a:=U4.blk (by simp) hB2;have V4:=hu.step (U2.step U4);clear _t tok1_5) | (have _t:=tok1_6;refine wpList_load_row rfl 109 _ rfl g1 rfl _ _ _ _ a Tryz.underlying109 rfl (by simp only[List.size_toArray,hl0];exact gF) ?_;clear _t tok1_6) | (have _t:=tok1_7;refine wpList_load_row rfl 109 _ rfl g3 rfl _ _ _ _ hB4 Tryz.underlying109 rfl (by simp only[List.size_toArray,hl1];exact gF) ?_;clear _t tok1_7) | (have _t:=tok1_8;go_at_call 223;refine(xD (bq.upd0 V4 ha.out) (bq.upd0 V4 hb.out)).mono ?_;rintro e w5 ⟨rfl,hu5⟩;generalize hD:decide (x0=y0)=D;have HD:=Lib.hid hD;clear hD a hB4;clear _t tok1_8))
      · have hD0:(!D)=true:=by assumption
        exact hno'.out _ (by have:=HD.out;intro h;rw[← this,h] at hD0;simp at hD0) (V4.step hu5)
      · have hD0:(!D)=false:=by assumption
        have hxy:x0=y0:=by have:=HD.out;rw[← this] at hD0;simpa using hD0
        go_roundw
        case rel=>exact⟨k+1,by omega,by go_num,hstep.out hxy,V4.step hu5⟩
        case measure=>simp[intOf];omega
    · have hj3:k=xs.length:=by omega
      have H3:=Lib.hid hj3
      rw[hj3] at hpre
      clear hj3 hhx hhy
      go_wp2
      exact hyes _ hpre hu
theorem xe{m m':Md}{u v:Value}{xs ys:List Obj}{w:World}(hx:nv m w u xs)(hy:nv m' w v ys) :
    Calls Tryz.prog 224 #[u,v,.func (.func 225) #[] #[]] w (dO (decide (xs=ys)) w):=by
  have hhx:=hx
  have hhy:=hy
  obtain⟨A,c,rfl,hc1,hc2⟩:=hx.shape
  obtain⟨B,c',rfl,ig,iO⟩:=hy.shape
  have hn:xs.length≤9223372036854775807:=by have:=hc2;unfold maxLen at this;omega
  by_cases hl:xs.length=ys.length
  case neg =>
    have hno:∀ W,aC [] w W→dO (decide (xs=ys)) w (.returned (.bool false)) W:=by
      intro W hW
      rw[decide_eq_false (fun h=>hl (by rw[h]))]
      exact⟨rfl,hW⟩
    have hli:((xs.length:Int)!=(ys.length:Int))=true:=by simp;omega
    clear hx hy hhx hhy hl
    go_enter Tryz.func224,Tryz.ntmps224
    go_wp2
    go_ret
    exact hno _ (aC.refl _ _)
  have hno:∀ W k,xs.getD k ⟨0,[]⟩≠ys.getD k ⟨0,[]⟩→aC [] w W→dO (decide (xs=ys)) w (.returned (.bool false)) W:=by
    intro W k hk hW
    rw[decide_eq_false (sU k hk)]
    exact⟨rfl,hW⟩
  have hyes:∀ W,xs.take xs.length=ys.take xs.length→aC [] w W→dO (decide (xs=ys)) w (.returned (.bool true)) W:=by
    intro W hk hW
    rw[List.take_length,hl,List.take_length] at hk
    rw[decide_eq_true hk]
    exact⟨rfl,hW⟩
  revert hno hyes
  generalize dO (decide (xs=ys)) w=P
  intro hno hyes
  have hli:((xs.length:Int)!=(ys.length:Int))=false:=by simp;omega
  have hL:=Lib.hid hl
  clear hx hy hl
  go_enter Tryz.func224,Tryz.ntmps224
  go_wp2
  go_loopw [17] (fun i wr=>∃ k:Nat,k≤xs.length∧i = .int .i64 (k:Int)∧xs.take k=ys.take k∧aC [] w wr) (fun i _=>xs.length-(intOf i).toNat)
  case atStart=>exact⟨0,by omega,rfl,by simp,aC.refl _ _⟩
  case round =>
    obtain⟨k,hk,rfl,hpre,hu⟩:=hrel
    by_cases hlt:k<xs.length
    · obtain⟨b,off,ca,rfl,cw0,hr0,hl0⟩:=aL.at_ hhx ⟨0,[]⟩ k hlt
      obtain⟨b',off',cb,rfl,cw1,hr1,hl1⟩:=aL.at_ hhy ⟨0,[]⟩ k (by have:=hL.out;omega)
      have hlt':k<ys.length:=by have:=hL.out;omega
      have hstep:=fun h=>nf (d:=⟨0,[]⟩) hL.out hlt hpre h
      have hno':=fun W h=>hno W k h
      revert hstep hno' hr0 hr1
      generalize xs.getD k ⟨0,[]⟩=x0
      generalize ys.getD k ⟨0,[]⟩=y0
      intro hr0 hr1 hstep hno'
      have hc0:=Lib.hid (fH cw0 hu (by simp))
      have hc1:=Lib.hid (fH cw1 hu (by simp))
      replace hstep:=Lib.hid hstep
      replace hno':=Lib.hid hno'
      have ha:=Lib.hid hr0
      have hb:=Lib.hid hr1
      clear cw0 cw1 hhx hhy hpre hno hyes hr0 hr1
      have tok2_0:True:=trivial
      have tok2_1:True:=trivial
      have tok2_2:True:=trivial
      have tok2_3:True:=trivial
      have tok2_4:True:=trivial
      have tok2_5:True:=trivial
      have tok2_6:True:=trivial
      have tok2_7:True:=trivial
      have tok2_8:True:=trivial
      go_wp2_with (first | (have _t:=tok2_0;refine wpList_load_mid rfl 111 _ rfl b (off+k*2) rfl ca _ hc0.out Tryz.underlying111 rfl (by rw[hl0];exact gD) ?_;clear _t tok2_0) | (have _t:=tok2_1;refine gU rfl 111 rfl _ pq ?_;intro g1 w1 hg1 hB1 hu1;clear _t tok2_1) | (have _t:=tok2_2;refine gH rfl 111 _ _ rfl g1 rfl ca.toArray rfl _ _ hB1 (by simp only[List.size_toArray,hl0];exact gD) (by simp only[List.size_toArray,hl0];rfl) (dg.one ha.out).1 ?_;intro w2 hB2 hu2;have U2:=hu1.fresh1 hu2 hg1;clear _t tok2_2) | (have _t:=tok2_3;refine wpList_load_mid rfl 111 _ rfl b' (off'+k*2) rfl cb _ (fH hc1.out U2 (by simp)) Tryz.underlying111 rfl (by rw[hl1];exact gD) ?_;clear _t tok2_3) | (have _t:=tok2_4;refine gU rfl 111 rfl _ pq ?_;intro g3 w3 hg3 hB3 hu3;clear _t tok2_4) | (have _t:=tok2_5;refine gH rfl 111 _ _ rfl g3 rfl cb.toArray rfl _ _ hB3 (by simp only[List.size_toArray,hl1];exact gD) (by simp only[List.size_toArray,hl1];rfl) (dg.one hb.out).1 ?_;intro w4 hB4 hu4;have U4:=hu3.fresh1 hu4 hg3;have a:=U4.blk (by simp) hB2;have V4:=hu.step (U2.step U4);clear _t tok2_5) | (have _t:=tok2_6;refine wpList_load_row rfl 111 _ rfl g1 rfl _ _ _ _ a Tryz.underlying111 rfl (by simp only[List.size_toArray,hl0];exact gD) ?_;clear _t tok2_6) | (have _t:=tok2_7;refine wpList_load_row rfl 111 _ rfl g3 rfl _ _ _ _ hB4 Tryz.underlying111 rfl (by simp only[List.size_toArray,hl1];exact gD) ?_;clear _t tok2_7) | (have _t:=tok2_8;go_at_call 225;refine(qO (dg.upd0 V4 ha.out) (dg.upd0 V4 hb.out)).mono ?_;rintro e w5 ⟨rfl,hu5⟩;generalize hD:decide (x0=y0)=D;have HD:=Lib.hid hD;clear hD a hB4;clear _t tok2_8))
      · have hD0:(!D)=true:=by assumption
        exact hno'.out _ (by have:=HD.out;intro h;rw[← this,h] at hD0;simp at hD0) (V4.step hu5)
      · have hD0:(!D)=false:=by assumption
        have hxy:x0=y0:=by have:=HD.out;rw[← this] at hD0;simpa using hD0
        go_roundw
        case rel=>exact⟨k+1,by omega,by go_num,hstep.out hxy,V4.step hu5⟩
        case measure=>simp[intOf];omega
    · have hj3:k=xs.length:=by omega
      have H3:=Lib.hid hj3
      rw[hj3] at hpre
      clear hj3 hhx hhy
      go_wp2
      exact hyes _ hpre hu
open Go.RowKit
def dY (M:aP) : List Int:=[M.code,M.fail,M.addr,M.count,M.value,M.and_,M.or_,M.addr2,M.sub,M.status,M.events,M.messages,M.mei*256+M.kind,M.level*256+M.more,M.next]
def hG (M:aP) : Array Value:=((dY M).map (Value.int .u16)).toArray
theorem qf:(Tryz.prog.info? 225).map (·.zero)=some (some (.agg ((List.replicate 15 (Value.int .u16 0)).toArray))):=by kernel_rfl
theorem ll:(Tryz.prog.info? 225).map (·.size)=some 15:=by kernel_rfl
theorem oJ(a0 a1 a2 a3 a4 a5 a6 a7 a8 a9 a b c d e:Int)(w:World) : (Instr.build 225 #[(0,.int .u16 a0),(1,.int .u16 a1),(2,.int .u16 a2),(3,.int .u16 a3),(4,.int .u16 a4),(5,.int .u16 a5),(6,.int .u16 a6),(7,.int .u16 a7),(8,.int .u16 a8),(9,.int .u16 a9),(10,.int .u16 a),(11,.int .u16 b),(12,.int .u16 c),(13,.int .u16 d),(14,.int .u16 e)]).run Tryz.prog w
    = .ok (.agg #[.int .u16 a0,.int .u16 a1,.int .u16 a2,.int .u16 a3,.int .u16 a4,.int .u16 a5,.int .u16 a6,.int .u16 a7,.int .u16 a8,.int .u16 a9,.int .u16 a,.int .u16 b,.int .u16 c,.int .u16 d,.int .u16 e]) w:=by kernel_rfl
theorem uL{P:Program}{fn:Func}{p:Tmp}{ty:TypeId}(h:fn.results = #[.cell p ty]){R:Ending→World→Prop}{a:Act}{w:World}(hd0:a.defers=[])(g:Nat)(t:TypeId)(cs:Array Value)(fr:Nat × Nat)(d:TypeDesc)
    (hp:a.tmps.getD p undef = .pointer (some ⟨g,0,none⟩)) (hg:w.heap[g]? = some (.cells cs t fr))
    (hu:P.underlying ty=some d) (hd:(match d with | .struct _ | .array _ _=>true | _=>false)=true) (hi:(P.info? ty).map (·.size)=some cs.size)
    (hR:R (.returned (.agg cs)) w) : bodyPost P fn R .ret a w:=by
  have hp':a.tmps[p]?.getD undef = .pointer (some ⟨g,0,none⟩):=by simpa using hp
  exact bodyPost_ret (by simp[results,h,hp',asAddr,run_loadVar_row w g t ty cs fr d hg hu hd hi]) hd0 hR
theorem nw{m:Md}{cs:Array Value}{M:aP}{w:World}(h:aH m w cs.toList M) : Calls Tryz.prog 219 #[.agg cs] w (cG (.agg (hG M)) w):=by
  obtain⟨vw,vb,vd,vr,vo,h0,_,_,_,_,_,hR⟩:=h
  obtain⟨c0,c1,c2,c3,c4,c5,c6,c7,c8,c9,f,i,l1,l2,l3,l4,a,c,b,d,e,l5⟩:=M
  obtain⟨r0,r1,r2,r3,r4,r5,r6,r7,r8,r9,o,p,j,k,l,n,q⟩:=hR
  simp only[B8,dp] at r0 r1 r2 r3 r4 r5 r6 r7 r8 r9 o p j k l n q
  have hpost:∀ W,aC [] w W→cG (.agg (hG ⟨c0,c1,c2,c3,c4,c5,c6,c7,c8,c9,f,i,l1,l2,l3,l4,a,c,b,d,e,l5⟩)) w (.returned (.agg #[.int .u16 c0,.int .u16 c1,.int .u16 c2,.int .u16 c3,.int .u16 c4,.int .u16 c5,.int .u16 c6,.int .u16 c7,.int .u16 c8,.int .u16 c9,.int .u16 f,.int .u16 i,.int .u16 (a*256+c),.int .u16 (b*256+d),.int .u16 e])) W:=fun W hW=>⟨rfl,hW⟩
  revert hpost
  generalize cG (.agg (hG ⟨c0,c1,c2,c3,c4,c5,c6,c7,c8,c9,f,i,l1,l2,l3,l4,a,c,b,d,e,l5⟩)) w=P
  intro hpost
  replace hpost:=Lib.hid hpost
  have w0:IntKind.u16.wrap c0=c0:=by show c0%65536=c0;omega
  have w1:IntKind.u16.wrap c1=c1:=by show c1%65536=c1;omega
  have r:IntKind.u16.wrap a=a:=by show a%65536=a;omega
  have s:IntKind.u16.wrap c=c:=by show c%65536=c;omega
  have t:IntKind.u16.wrap b=b:=by show b%65536=b;omega
  have u:IntKind.u16.wrap d=d:=by show d%65536=d;omega
  have v:IntKind.u16.wrap e=e:=by show e%65536=e;omega
  have x1:IntKind.u16.wrap (a*256)=a*256:=by show(a*256)%65536=a*256;omega
  have x2:IntKind.u16.wrap (b*256)=b*256:=by show(b*256)%65536=b*256;omega
  have o1:=o6 j k
  have o2:=o6 l n
  have hcs:cs = #[.int .u8 c0,.int .u8 c1,.int .u16 c2,.int .u16 c3,.int .u16 c4,.int .u16 c5,.int .u16 c6,.int .u16 c7,.int .u16 c8,.int .u16 c9,.int .u16 f,.int .u16 i,vw,vb,vd,vr,.int .u8 a,.int .u8 c,.int .u8 b,.int .u8 d,.int .u8 e,vo]:=by
    apply Array.toList_inj.1
    exact h0
  subst hcs
  have hbp:=oJ
  clear h0 r0 r1 r2 r3 r4 r5 r6 r7 r8 r9 o p j k l n q
  go_enter Tryz.func219,Tryz.ntmps219
  have tok1_0:True:=trivial
  have tok1_1:True:=trivial
  have tok1_2:True:=trivial
  go_wp2_with (first | (have _t:=tok1_0;refine xu rfl 30 _ rfl (.agg #[.int .u8 c0,.int .u8 c1,.int .u16 c2,.int .u16 c3,.int .u16 c4,.int .u16 c5,.int .u16 c6,.int .u16 c7,.int .u16 c8,.int .u16 c9,.int .u16 f,.int .u16 i,vw,vb,vd,vr,.int .u8 a,.int .u8 c,.int .u8 b,.int .u8 d,.int .u8 e,vo]) rfl ?_;intro g w1 hg hB hu1;clear _t tok1_0) | (have _t:=tok1_1;refine gU rfl 225 rfl _ qf ?_;intro gp w2 hgp hBp hu2;replace hB:=hu2.blk (by simp) hB;have k0:w2.cell? ⟨g,0,none⟩=some (.int .u8 c0):=(bt hB 0).trans rfl;have k1:w2.cell? ⟨g,1,none⟩=some (.int .u8 c1):=(bt hB 1).trans rfl;have k2:w2.cell? ⟨g,2,none⟩=some (.int .u16 c2):=(bt hB 2).trans rfl;have k3:w2.cell? ⟨g,3,none⟩=some (.int .u16 c3):=(bt hB 3).trans rfl;have k4:w2.cell? ⟨g,4,none⟩=some (.int .u16 c4):=(bt hB 4).trans rfl;have k5:w2.cell? ⟨g,5,none⟩=some (.int .u16 c5):=(bt hB 5).trans rfl;have k6:w2.cell? ⟨g,6,none⟩=some (.int .u16 c6):=(bt hB 6).trans rfl;have k7:w2.cell? ⟨g,7,none⟩=some (.int .u16 c7):=(bt hB 7).trans rfl;have k8:w2.cell? ⟨g,8,none⟩=some (.int .u16 c8):=(bt hB 8).trans rfl;have k9:w2.cell? ⟨g,9,none⟩=some (.int .u16 c9):=(bt hB 9).trans rfl;have x:w2.cell? ⟨g,10,none⟩=some (.int .u16 f):=(bt hB 10).trans rfl;have y:w2.cell? ⟨g,11,none⟩=some (.int .u16 i):=(bt hB 11).trans rfl;have z:w2.cell? ⟨g,16,none⟩=some (.int .u8 a):=(bt hB 16).trans rfl;have A:w2.cell? ⟨g,17,none⟩=some (.int .u8 c):=(bt hB 17).trans rfl;have B:w2.cell? ⟨g,18,none⟩=some (.int .u8 b):=(bt hB 18).trans rfl;have C:w2.cell? ⟨g,19,none⟩=some (.int .u8 d):=(bt hB 19).trans rfl;have D:w2.cell? ⟨g,20,none⟩=some (.int .u8 e):=(bt hB 20).trans rfl;clear hB;clear _t tok1_1) | (have _t:=tok1_2;refine gH rfl 225 _ _ rfl gp rfl _ rfl _ _ hBp ll rfl (by simp[Value.oneCell']) ?_;intro w3 hB3 hu3;clear _t tok1_2))
  refine uL rfl rfl gp _ _ _ _ rfl hB3 Tryz.underlying225 rfl ll ?_
  exact hpost.out _ (hu1.step (hu2.fresh1 hu3 hgp))
open Go.RowKit
theorem iS:∀ (xs ys:List Int),xs.length=ys.length→((List.range xs.length).all fun i=>xs.getD i 0==ys.getD i 0)=(xs==ys)
  | [],[],_=>rfl
  | x :: xs,y :: ys,h=>by
    have ih:=iS xs ys (by simpa using h)
    rw[List.length_cons,List.range_succ_eq_map,List.all_cons,List.all_map]
    simp only[List.getD_cons_zero,Function.comp_def,List.getD_cons_succ,ih]
    simp[List.cons_beq_cons]
  | [],_ :: _,h=>by simp at h
  | _ :: _,[],h=>by simp at h
theorem nO{P:Program}(w:World)(t e:TypeId)(k:IntKind)(n:Nat)(ht:P.underlying t=some (.array n e))(he:P.underlying e=some (.int k))(hsz:∀ w,(sizeOf e).run P w = .ok 1 w)
    (xs ys:List Int) (hx:xs.length=n) (hy:ys.length=n) :
    (binOp .eql t (.agg (xs.map (Value.int k)).toArray) (.agg (ys.map (Value.int k)).toArray)).run P w = .ok (.bool (xs==ys)) w:=by
  rw[run_eql_struct]
  suffices h:(Op.equalIn 10000 t (.agg (xs.map (Value.int k)).toArray) (.agg (ys.map (Value.int k)).toArray)).run P w = .ok (xs==ys) w by
    rw[h]
    rfl
  rw[show(10000:Nat)=9998+2 from rfl]
  rw[← iS xs ys (hx.trans hy.symm),hx,List.range_eq_range',Op.equalIn]
  simp only[Sem.run_bind,run_underlying ht,Result.andThen_ok,hsz,Std.Legacy.Range.forIn_eq_forIn_range',Std.Legacy.Range.size,Nat.sub_zero,Nat.add_sub_cancel,Nat.div_one]
  have hl:∀ i∈List.range' 0 n 1,i<n:=fun i hi=>by simpa using (List.mem_range'_1.1 hi).2
  generalize List.range' 0 n 1=l at hl ⊢
  induction l with
  | nil=>simp
  | cons i l ih =>
    have hi:i<n:=hl i (by simp)
    have px:(part e (xs.map (Value.int k)).toArray (i*1)).run P w = .ok (Value.int k (xs.getD i 0)) w:=by
      simp[part,isAgg,run_underlying he,List.getD,List.getElem?_eq_getElem (show i<xs.length by omega)]
    have py:(part e (ys.map (Value.int k)).toArray (i*1)).run P w = .ok (Value.int k (ys.getD i 0)) w:=by
      simp[part,isAgg,run_underlying he,List.getD,List.getElem?_eq_getElem (show i<ys.length by omega)]
    have pe:(Op.equalIn (9998+1) e (Value.int k (xs.getD i 0)) (Value.int k (ys.getD i 0))).run P w = .ok (xs.getD i 0==ys.getD i 0) w:=run_equalIn_int w 9998 e k k _ _ he
    simp only[List.forIn_cons,Sem.run_bind,px,py,pe,Result.andThen_ok,List.all_cons]
    cases hb:(xs.getD i 0==ys.getD i 0)
    · simp
    · simp only[Bool.not_true,Bool.false_eq_true,if_false,Sem.run_pure,Result.andThen_ok,Bool.true_and]
      exact ih fun j hj=>hl j (by simp[hj])
theorem uV{A B:aP}(ha:fb A)(hb:fb B) : dY A=dY B↔A = { B with words:=A.words,bits:=A.bits,data:=A.data,recs:=A.recs,objects:=A.objects }:=by
  obtain⟨_,_,_,_,_,_,_,_,_,_,_,_,a1,a2,a3,a4,_⟩:=ha
  obtain⟨_,_,_,_,_,_,_,_,_,_,_,_,b1,b2,b3,b4,_⟩:=hb
  cases A;cases B
  simp only[B8] at a1 a2 a3 a4 b1 b2 b3 b4
  simp only[dY,List.cons.injEq,and_true,aP.mk.injEq,true_and]
  constructor
  · rintro⟨h1,h2,h3,h4,h5,h6,h7,h8,h9,a,b,c,e,f,d⟩
    refine⟨h1,h2,h3,h4,h5,h6,h7,h8,h9,a,b,c,?_,?_,?_,?_,d⟩<;>omega
  · rintro⟨h1,h2,h3,h4,h5,h6,h7,h8,h9,a,b,c,e,f,d,h,g⟩
    refine⟨h1,h2,h3,h4,h5,h6,h7,h8,h9,a,b,c,?_,?_,g⟩<;>omega
theorem yy{A B:aP}(ha:fb A)(hb:fb B) : A=B↔dY A=dY B∧A.words=B.words∧A.bits=B.bits∧A.data=B.data∧A.recs=B.recs∧A.objects=B.objects:=by
  rw[uV ha hb]
  constructor
  · rintro rfl
    exact⟨rfl,rfl,rfl,rfl,rfl,rfl⟩
  · rintro⟨h1,h2,h3,h4,h5,h6⟩
    rw[h1,h2,h3,h4,h5,h6]
open Go.RowKit
theorem p5{ev:Operand→Value}{o:Oper}{x y:Operand}{t:TypeId}{A B:aP}{w:World}(ho:o.op = .binOp .eql 225 x y t)(hx:ev x = .agg (hG A))(hy:ev y = .agg (hG B)) :
    (execOp ev o).run Tryz.prog w = .ok (.value (.bool (dY A==dY B))) w:=by
  have hg:(eqGuard .eql 225 x y (.agg (hG A)) (.agg (hG B))).run Tryz.prog w = .ok () w:=run_eqGuard_agg w .eql _ x y _ _ (by kernel_rfl)
  have he:(binOp .eql 225 (.agg (hG A)) (.agg (hG B))).run Tryz.prog w = .ok (.bool (dY A==dY B)) w:=nO (P:=Tryz.prog) w 225 24 .u16 15 Tryz.underlying225 Tryz.underlying24 (fun w=>by kernel_rfl) (dY A) (dY B) rfl rfl
  unfold execOp
  simp only[ho,hx,hy,Sem.run_bind,hg,he,Sem.run_pure,Result.andThen]
theorem gR{A B:aP}(ha:fb A)(hb:fb B) : decide (A=B)=(dY A==dY B&&(decide (A.words=B.words)&&(decide (A.bits=B.bits)&&(decide (A.data=B.data)&&(decide (A.recs=B.recs)&&decide (A.objects=B.objects)))))):=by
  rw[Bool.eq_iff_iff]
  simp only[Bool.and_eq_true,decide_eq_true_eq,beq_iff_eq]
  exact yy ha hb
theorem gT{m m':Md}{pc qc:Array Value}{A B:aP}{w:World}(ha:aH m w pc.toList A)(hb:aH m' w qc.toList B) :
    Calls Tryz.prog 165 #[.agg pc,.agg qc] w (dO (decide (A=B)) w):=by
 have pM:=ha
 obtain⟨pvw,pvb,pvd,pvr,pvo,ph0,phw,phb,phd,phr,pho,pR⟩:=ha
 obtain rfl:pc=(bu A pvw pvb pvd pvr pvo).toArray:=by apply Array.toList_inj.1;simpa using ph0
 clear ph0
 obtain⟨pw,pkw,rfl,_,_⟩:=phw.shape
 obtain⟨pb,pkb,rfl,_,_⟩:=phb.shape
 obtain⟨pd,pkd,rfl,_,_⟩:=phd.shape
 obtain⟨pr,pkr,rfl,_,_⟩:=phr.shape
 obtain⟨po,pko,rfl,_,_⟩:=pho.shape
 have qM:=hb
 obtain⟨qvw,qvb,qvd,qvr,qvo,qh0,qhw,qhb,qhd,qhr,qho,qR⟩:=hb
 obtain rfl:qc=(bu B qvw qvb qvd qvr qvo).toArray:=by apply Array.toList_inj.1;simpa using qh0
 clear qh0
 obtain⟨qw,qkw,rfl,_,_⟩:=qhw.shape
 obtain⟨qb,qkb,rfl,_,_⟩:=qhb.shape
 obtain⟨qd,qkd,rfl,_,_⟩:=qhd.shape
 obtain⟨qr,qkr,rfl,_,_⟩:=qhr.shape
 obtain⟨qo,qko,rfl,_,_⟩:=qho.shape
 refine en 47 Tryz.func165 rfl<|sg<|L0<|dv (mG A.code A.fail A.addr A.count A.value A.and_ A.or_ A.addr2 A.sub A.status A.events A.messages (.slice pw A.words.length pkw) (.slice pb A.bits.length pkb) (.slice pd A.data.length pkd) (.slice pr A.recs.length pkr) A.mei A.kind A.level A.more A.next (.slice po A.objects.length pko)) fun k aj ak ab ac=>L0<|dv (mG B.code B.fail B.addr B.count B.value B.and_ B.or_ B.addr2 B.sub B.status B.events B.messages (.slice qw B.words.length qkw) (.slice qb B.bits.length qkb) (.slice qd B.data.length qkd) (.slice qr B.recs.length qkr) B.mei B.kind B.level B.more B.next (.slice qo B.objects.length qko)) fun l al am ad X=>Pl 1<|nt<|sq<|Rg 43 (fun w'=>w'.heap[k]? = some (.cells (mG A.code A.fail A.addr A.count A.value A.and_ A.or_ A.addr2 A.sub A.status A.events A.messages (.slice pw A.words.length pkw) (.slice pb A.bits.length pkb) (.slice pd A.data.length pkd) (.slice pr A.recs.length pkr) A.mei A.kind A.level A.more A.next (.slice po A.objects.length pko)) 30 (0,0))∧w'.heap[l]? = some (.cells (mG B.code B.fail B.addr B.count B.value B.and_ B.or_ B.addr2 B.sub B.status B.events B.messages (.slice qw B.words.length qkw) (.slice qb B.bits.length qkb) (.slice qd B.data.length qkd) (.slice qr B.recs.length qkr) B.mei B.kind B.level B.more B.next (.slice qo B.objects.length qko)) 30 (0,0))∧w'.cell? ⟨k,12,none⟩=some (.slice pw A.words.length pkw)∧w'.cell? ⟨l,12,none⟩=some (.slice qw B.words.length qkw)∧w'.cell? ⟨k,13,none⟩=some (.slice pb A.bits.length pkb)∧w'.cell? ⟨l,13,none⟩=some (.slice qb B.bits.length qkb)∧w'.cell? ⟨k,14,none⟩=some (.slice pd A.data.length pkd)∧b9 false w' (.slice pd A.data.length pkd) A.data∧w'.cell? ⟨l,14,none⟩=some (.slice qd B.data.length qkd)∧b9 false w' (.slice qd B.data.length qkd) B.data∧w'.cell? ⟨k,15,none⟩=some (.slice pr A.recs.length pkr)∧w'.cell? ⟨l,15,none⟩=some (.slice qr B.recs.length qkr)∧w'.cell? ⟨k,21,none⟩=some (.slice po A.objects.length pko)∧w'.cell? ⟨l,21,none⟩=some (.slice qo B.objects.length qko)) fun an U=>?_
 have o:=ub (aD X U) ab
 have p:=ub U ad
 have Q:=aD (aD ac X) U
 have Y:=b9.old phd Q
 have Z:=b9.old qhd Q
 refine bi ⟨o,p,(ae o rfl),(ae p rfl),(ae o rfl),(ae p rfl),(ae o rfl),(aL.any Y (fun _ _ h=>h)),(ae p rfl),(aL.any Z (fun _ _ h=>h)),(ae o rfl),(ae p rfl),(ae o rfl),(ae p rfl)⟩ fun a0=>Rr 0 a0 (.agg (mG A.code A.fail A.addr A.count A.value A.and_ A.or_ A.addr2 A.sub A.status A.events A.messages (.slice pw A.words.length pkw) (.slice pb A.bits.length pkb) (.slice pd A.data.length pkd) (.slice pr A.recs.length pkr) A.mei A.kind A.level A.more A.next (.slice po A.objects.length pko))) (fun w' hs=>m7 (g:=k) (off:=0) [.int .u8 A.code,.int .u8 A.fail,.int .u16 A.addr,.int .u16 A.count,.int .u16 A.value,.int .u16 A.and_,.int .u16 A.or_,.int .u16 A.addr2,.int .u16 A.sub,.int .u16 A.status,.int .u16 A.events,.int .u16 A.messages,.slice pw A.words.length pkw,.slice pb A.bits.length pkb,.slice pd A.data.length pkd,.slice pr A.recs.length pkr,.int .u8 A.mei,.int .u8 A.kind,.int .u8 A.level,.int .u8 A.more,.int .u8 A.next,.slice po A.objects.length pko] rfl (by kernel_rfl) hs.1 (by kernel_rfl) (by kernel_rfl) rfl)<|Rr 2 a0 (.agg (mG B.code B.fail B.addr B.count B.value B.and_ B.or_ B.addr2 B.sub B.status B.events B.messages (.slice qw B.words.length qkw) (.slice qb B.bits.length qkb) (.slice qd B.data.length qkd) (.slice qr B.recs.length qkr) B.mei B.kind B.level B.more B.next (.slice qo B.objects.length qko))) (fun w' hs=>m7 (g:=l) (off:=0) [.int .u8 B.code,.int .u8 B.fail,.int .u16 B.addr,.int .u16 B.count,.int .u16 B.value,.int .u16 B.and_,.int .u16 B.or_,.int .u16 B.addr2,.int .u16 B.sub,.int .u16 B.status,.int .u16 B.events,.int .u16 B.messages,.slice qw B.words.length qkw,.slice qb B.bits.length qkb,.slice qd B.data.length qkd,.slice qr B.recs.length qkr,.int .u8 B.mei,.int .u8 B.kind,.int .u8 B.level,.int .u8 B.more,.int .u8 B.next,.slice qo B.objects.length qko] rfl (by kernel_rfl) hs.2.1 (by kernel_rfl) (by kernel_rfl) rfl)<|?_
 refine R0 1 rfl<|Oc<|m1 (nw (aH.old pM Q)) fun ao I=>?_
 have q:=ub I o
 have r:=ub I p
 have a1:=b9.old Y I
 have a2:=b9.old Z I
 refine bi ⟨q,r,(ae q rfl),(ae r rfl),(ae q rfl),(ae r rfl),(ae q rfl),(aL.any a1 (fun _ _ h=>h)),(ae r rfl),(aL.any a2 (fun _ _ h=>h)),(ae q rfl),(ae r rfl),(ae q rfl),(ae r rfl)⟩ fun ap=>?_
 have a3:=aD Q I
 refine R0 3 rfl<|Oc<|m1 (nw (aH.old qM a3)) fun aq J=>?_
 have s:=ub J q
 have t:=ub J r
 have a4:=b9.old a1 J
 have a5:=b9.old a2 J
 refine bi ⟨s,t,(ae s rfl),(ae t rfl),(ae s rfl),(ae t rfl),(ae s rfl),(aL.any a4 (fun _ _ h=>h)),(ae t rfl),(aL.any a5 (fun _ _ h=>h)),(ae s rfl),(ae t rfl),(ae s rfl),(ae t rfl)⟩ fun e=>Rr 4 e (.bool (dY A==dY B)) (fun _ _=>p5 rfl (by kernel_rfl) (by kernel_rfl))<|Rt 5 e<|?_
 have R:=aD a3 J
 refine tJ 10 ((dY A==dY B)) (fun u=>?_) (fun u=>?_)
 refine Rt 6 e<|Rl 7 e (fun _ hs=>hs.2.2.1)<|Rt 8 e<|Rl 9 e (fun _ hs=>hs.2.2.2.1)<|?_
 refine R0 10 rfl<|Oc<|m1 (rz (dU.old phw R) (dU.old qhw R)) fun ar K=>?_
 have v:=ub K s
 have x:=ub K t
 have a6:=b9.old a4 K
 have a7:=b9.old a5 K
 refine bi ⟨v,x,(ae v rfl),(ae x rfl),(ae v rfl),(ae x rfl),(ae v rfl),(aL.any a6 (fun _ _ h=>h)),(ae x rfl),(aL.any a7 (fun _ _ h=>h)),(ae v rfl),(ae x rfl),(ae v rfl),(ae x rfl)⟩ fun f=>Rt 11 f<|Rt 12 f<|?_
 have S:=aD R K
 refine tJ 17 ((decide (A.words=B.words))) (fun j=>?_) (fun j=>?_)
 have af:=of_decide_eq_true j
 refine Rt 13 f<|Rl 14 f (fun _ hs=>hs.2.2.2.2.1)<|Rt 15 f<|Rl 16 f (fun _ hs=>hs.2.2.2.2.2.1)<|?_
 refine R0 17 rfl<|Oc<|m1 (wT (ii.old phb S) (ii.old qhb S)) fun au L=>?_
 have y:=ub L v
 have z:=ub L x
 have V:=b9.old a6 L
 have W:=b9.old a7 L
 refine bi ⟨y,z,(ae y rfl),(ae z rfl),(ae y rfl),(ae z rfl),(ae y rfl),(aL.any V (fun _ _ h=>h)),(ae z rfl),(aL.any W (fun _ _ h=>h)),(ae y rfl),(ae z rfl),(ae y rfl),(ae z rfl)⟩ fun d=>Rt 18 d<|Rt 19 d<|?_
 have M:=aD S L
 refine tJ 24 ((decide (A.bits=B.bits))) (fun C=>?_) (fun C=>?_)
 have ag:=of_decide_eq_true C
 refine Rt 20 d<|Rl 21 d (fun _ hs=>hs.2.2.2.2.2.2.1)<|Rr 22 d (.string (strOfNums A.data)) (fun _ hs=>dW (A:=pd) (n:=A.data.length) (c:=pkd) rfl (by kernel_rfl) Tryz.underlying22 Tryz.underlying5 Tryz.underlying9 hs.2.2.2.2.2.2.2.1)<|Rt 23 d<|Rl 24 d (fun _ hs=>hs.2.2.2.2.2.2.2.2.1)<|Rr 25 d (.string (strOfNums B.data)) (fun _ hs=>dW (A:=qd) (n:=B.data.length) (c:=qkd) rfl (by kernel_rfl) Tryz.underlying22 Tryz.underlying5 Tryz.underlying9 hs.2.2.2.2.2.2.2.2.2.1)<|Rr 26 d (.bool (decide (A.data=B.data))) (fun _ _=>je (a:=(strOfNums A.data)) (b:=(strOfNums B.data)) rfl (by kernel_rfl) (by kernel_rfl) (qX V W))<|Rt 27 d<|Rt 28 d<|tJ 33 ((decide (A.data=B.data))) (fun F=>?_) (fun F=>?_)
 have ah:=of_decide_eq_true F
 refine Rt 29 d<|Rl 30 d (fun _ hs=>hs.2.2.2.2.2.2.2.2.2.2.1)<|Rt 31 d<|Rl 32 d (fun _ hs=>hs.2.2.2.2.2.2.2.2.2.2.2.1)<|?_
 refine R0 33 rfl<|Oc<|m1 (wY (ma.old phr M) (ma.old qhr M)) fun av N=>?_
 have D:=ub N y
 have E:=ub N z
 have a8:=b9.old V N
 have a9:=b9.old W N
 refine bi ⟨D,E,(ae D rfl),(ae E rfl),(ae D rfl),(ae E rfl),(ae D rfl),(aL.any a8 (fun _ _ h=>h)),(ae E rfl),(aL.any a9 (fun _ _ h=>h)),(ae D rfl),(ae E rfl),(ae D rfl),(ae E rfl)⟩ fun i=>Rt 34 i<|Rt 35 i<|?_
 have T:=aD M N
 refine tJ 40 ((decide (A.recs=B.recs))) (fun O=>?_) (fun O=>?_)
 have ai:=of_decide_eq_true O
 refine Rt 36 i<|Rl 37 i (fun _ hs=>hs.2.2.2.2.2.2.2.2.2.2.2.2.1)<|Rt 38 i<|Rl 39 i (fun _ hs=>hs.2.2.2.2.2.2.2.2.2.2.2.2.2)<|?_
 refine R0 40 rfl<|Oc<|m1 (xe (nv.old pho T) (nv.old qho T)) fun aw P=>?_
 have G:=ub P D
 have H:=ub P E
 refine bi ⟨G,H,(ae G rfl),(ae H rfl),(ae G rfl),(ae H rfl),(ae G rfl),(aL.any (b9.old a8 P) (fun _ _ h=>h)),(ae H rfl),(aL.any (b9.old a9 P) (fun _ _ h=>h)),(ae G rfl),(ae H rfl),(ae G rfl),(ae H rfl)⟩ fun aa=>Rt 41 aa<|Rt 42 aa<|re<|tn<|rt<|rr (.bool (decide (A.objects=B.objects)))<|?_
 have hs:decide (A=B)=(decide (A.objects=B.objects)):=by
   rw[gR pR qR]
   (try simp only[u,j,C,F,O,bs,if_true,if_false,decide_true,decide_false])
 rw[hs]
 exact⟨rfl,(aD T P)⟩
 have ai:=of_decide_eq_false O
 refine Ro 36 i<|Ro 37 i<|Ro 38 i<|Ro 39 i<|Ro 40 i<|Rt 41 i<|Rt 42 i<|re<|tn<|rt<|rr (.bool false)<|?_
 have hs:decide (A=B)=false:=by
   rw[gR pR qR]
   (try simp only[u,j,C,F,O,bs,if_true,if_false,decide_true,decide_false])
 rw[hs]
 exact⟨rfl,T⟩
 have ah:=of_decide_eq_false F
 refine Ro 29 d<|Ro 30 d<|Ro 31 d<|Ro 32 d<|Ro 33 d<|Rt 34 d<|Rt 35 d<|Ro 36 d<|Ro 37 d<|Ro 38 d<|Ro 39 d<|Ro 40 d<|Rt 41 d<|Rt 42 d<|?_
 refine re<|tn<|rt<|rr (.bool false)<|?_
 have hs:decide (A=B)=false:=by
   rw[gR pR qR]
   (try simp only[u,j,C,F,bs,if_true,if_false,decide_true,decide_false])
 rw[hs]
 exact⟨rfl,M⟩
 have ag:=of_decide_eq_false C
 refine Ro 20 d<|Ro 21 d<|Ro 22 d<|Ro 23 d<|Ro 24 d<|Ro 25 d<|Ro 26 d<|Rt 27 d<|Rt 28 d<|Ro 29 d<|Ro 30 d<|Ro 31 d<|Ro 32 d<|Ro 33 d<|?_
 refine Rt 34 d<|Rt 35 d<|Ro 36 d<|Ro 37 d<|Ro 38 d<|Ro 39 d<|Ro 40 d<|Rt 41 d<|Rt 42 d<|re<|tn<|rt<|rr (.bool false)<|?_
 have hs:decide (A=B)=false:=by
   rw[gR pR qR]
   (try simp only[u,j,C,bs,if_true,if_false,decide_true,decide_false])
 rw[hs]
 exact⟨rfl,M⟩
 have af:=of_decide_eq_false j
 refine Ro 13 f<|Ro 14 f<|Ro 15 f<|Ro 16 f<|Ro 17 f<|Rt 18 f<|Rt 19 f<|Ro 20 f<|Ro 21 f<|Ro 22 f<|Ro 23 f<|Ro 24 f<|Ro 25 f<|Ro 26 f<|?_
 refine Rt 27 f<|Rt 28 f<|Ro 29 f<|Ro 30 f<|Ro 31 f<|Ro 32 f<|Ro 33 f<|Rt 34 f<|Rt 35 f<|Ro 36 f<|Ro 37 f<|Ro 38 f<|Ro 39 f<|Ro 40 f<|?_
 refine Rt 41 f<|Rt 42 f<|re<|tn<|rt<|rr (.bool false)<|?_
 have hs:decide (A=B)=false:=by
   rw[gR pR qR]
   (try simp only[u,j,bs,if_true,if_false,decide_true,decide_false])
 rw[hs]
 exact⟨rfl,S⟩
 refine Ro 6 e<|Ro 7 e<|Ro 8 e<|Ro 9 e<|Ro 10 e<|Rt 11 e<|Rt 12 e<|Ro 13 e<|Ro 14 e<|Ro 15 e<|Ro 16 e<|Ro 17 e<|Rt 18 e<|Rt 19 e<|?_
 refine Ro 20 e<|Ro 21 e<|Ro 22 e<|Ro 23 e<|Ro 24 e<|Ro 25 e<|Ro 26 e<|Rt 27 e<|Rt 28 e<|Ro 29 e<|Ro 30 e<|Ro 31 e<|Ro 32 e<|Ro 33 e<|?_
 refine Rt 34 e<|Rt 35 e<|Ro 36 e<|Ro 37 e<|Ro 38 e<|Ro 39 e<|Ro 40 e<|Rt 41 e<|Rt 42 e<|re<|tn<|rt<|rr (.bool false)<|?_
 have hs:decide (A=B)=false:=by
   rw[gR pR qR]
   (try simp only[u,bs,if_true,if_false,decide_true,decide_false])
 rw[hs]
 exact⟨rfl,R⟩
open Go.RowKit
def jc (Q:World→Ending→World→Prop)(w:World)(e:Ending)(w':World) : Prop:=∃ F free,e = .returned (.func (.func F) #[] free)∧A8 Tryz.prog F=some (false,true)∧aC [] w w'∧Calls Tryz.prog F free w' (Q w')
theorem nd{g:Nat}{C:ak}{w:World}{a most:Int}(hC:al w g C)(ha:0≤a∧a<65536) :
    Calls Tryz.prog 237 #[.pointer (some ⟨g,0,none⟩),.int .u16 a,.int .i64 most] w (mP g .i64 65536 C.wordV (bG C a most) w):=by
 have hlen:=hC.len
 have hrr:=hC.wordV
 refine en 26 Tryz.func237 rfl<|sg<|Pl 1<|ng<|Pl 1<|L0<|Oc<|m3 (ci hC) fun l d e m=>L0<|Oi C.wordV<|Pl 1<|nt<|?_
 refine sg<|Pl 4<|cu 4 [14] 18 (((decide (1≤C.wordV))&&(decide (C.wordV≤most)))) (fun K c=>?_) ?_
 refine bl 14 ((decide (1≤C.wordV))) (fun b=>?_) (fun b=>?_)
 have f:=of_decide_eq_true b
 exact Pl 4<|ce c (decide (C.wordV≤most)) (by rw[b];rfl)
 have f:=of_decide_eq_false b
 exact Pl 4<|ce c false (by rw[b];rfl)
 refine L0<|Oc<|m2 (be (((decide (1≤C.wordV))&&(decide (C.wordV≤most)))) 5 d) fun o h i=>ng<|Pl 3<|L0<|Oc<|mq (j0 (a:=a) (n:=C.wordV) (by omega))<|L0<|Oc<|m2 (be ((dx a C.wordV)) 7 h) fun p j k=>ng<|Pl 2<|nl<|?_
 refine tn<|rt<|rr (.int .i64 C.wordV)<|?_
 have hs:bG C a most=(((C.wordsC 1).need ((decide (1≤C.wordV))&&(decide (C.wordV≤most))) 5).need (dx a C.wordV) 7):=by
   unfold bG
   (try simp only[bs,if_true,if_false,decide_true,decide_false,reduceIte])
   all_goals rfl
 rw[hs]
 exact⟨rfl,j,(u1 e (u1 i k im) im),hrr⟩
theorem kq{g:Nat}{C:ak}{w:World}{n:Int}(hC:al w g C)(hn:0≤n∧n<65536) :
    Calls Tryz.prog 242 #[.pointer (some ⟨g,0,none⟩),.int .i64 n] w (fun e w'=>∃ v,e = .returned v∧kQ w.heap.size w' v ((cU C n).wordsR n)∧al w' g ((cU C n).wordsC n)∧aC [g] w w'):=by
 have hlen:=hC.len
 refine en 16 Tryz.func242 rfl<|sg<|Pl 1<|ng<|Pl 2<|L0<|Oc<|m3 (bY hC) fun l c a m=>L0<|Oi C.byteV<|Pl 1<|L0<|Oi (2*n)<|Pl 1<|L0<|Oc<|m2 (be ((C.byteV==(2*n))) 5 c) fun o d b=>?_
 refine ng<|Pl 2<|L0<|Oc<|nW (eo (n:=n) d) fun f h p i q r j k=>Pl 1<|nt<|rt<|rr (.slice f ((((C.bytesC 1).need (C.byteV==(2*n)) 5).wordsR n).length) h)<|?_
 have hs:cU C n=((C.bytesC 1).need (C.byteV==(2*n)) 5):=by
   unfold cU
   (try simp only[bs,if_true,if_false,decide_true,decide_false,reduceIte])
   all_goals rfl
 rw[hs]
 exact⟨_,rfl,(aS.weaken i (le a.size b.size)),j,(u1 a (u1 b k im) im)⟩
theorem iE{most:Int}{g gm:Nat}{c:Int}{C:ak}{w:World}(hcode:B8 c)(hC:al w g C)(hm:w.heap[gm]? = some (.cells (mC c) 30 (0,0)))(hne:g≠gm){bc:Nat}{bm:Nat}(hbc:w.heap[bc]? = some (.cells #[.pointer (some ⟨g,0,none⟩)] 113 (0,0)))(n_bc_g:bc≠g)(n_bc_gm:bc≠gm)(hbm:w.heap[bm]? = some (.cells #[.pointer (some ⟨gm,0,none⟩)] 161 (0,0)))(n_bm_g:bm≠g)(n_bm_gm:bm≠gm) :
    Calls Tryz.prog 236 #[.int .i64 most,.pointer (some ⟨bc,0,none⟩),.pointer (some ⟨bm,0,none⟩)] w (qv g gm (bG (C.wordsC 1) C.wordV most) (mG c 0 C.wordV (C.wordsC 1).wordV 0 0 0 0 0 0 0 0 nS nS nS nS 0 0 0 0 0 nS) w):=by
 obtain⟨hcode1,hcode2⟩:=hcode
 have hlen:=hC.len
 refine en 20 Tryz.func236 rfl<|sq<|Rg 6 (fun w'=>w'.cell? ⟨bm,0,none⟩=some (.pointer (some ⟨gm,0,none⟩))∧w'.cell? ⟨bc,0,none⟩=some (.pointer (some ⟨g,0,none⟩))) fun I d=>?_
 have m:=ub d hbm
 have n:=ub d hbc
 refine bi ⟨(ae m rfl),(ae n rfl)⟩ fun o=>Rl 0 o (fun _ hs=>hs.1)<|Rl 1 o (fun _ hs=>hs.2)<|?_
 refine R0 2 rfl<|Oc<|m3 (ci (al.old hC d)) fun J F i K=>?_
 have p:=aW i n_bm_g m
 have q:=aW i n_bc_g n
 refine bi ⟨(ae p rfl),(ae q rfl)⟩ fun r=>Rt 3 r<|Rt 4 r<|?_
 have s:=uz d i
 have t:=aW s (Ne.symm hne) hm
 refine R0 5 rfl<|bX t 2 (mG c 0 C.wordV 0 0 0 0 0 0 0 0 0 nS nS nS nS 0 0 0 0 0 nS) fun L G j=>?_
 have u:=aW j n_bm_gm p
 have v:=aW j n_bc_gm q
 refine bi ⟨(ae u rfl),(ae v rfl)⟩ fun M=>re<|tn<|Rg 12 (fun w'=>w'.cell? ⟨bm,0,none⟩=some (.pointer (some ⟨gm,0,none⟩))∧w'.cell? ⟨bc,0,none⟩=some (.pointer (some ⟨g,0,none⟩))∧w'.cell? ⟨gm,2,none⟩=some (.int .u16 C.wordV)) fun N e=>?_
 have x:=ub e u
 have y:=ub e v
 have z:=ub e G
 refine bi ⟨(ae x rfl),(ae y rfl),(ae z rfl)⟩ fun b=>Rl 0 b (fun _ hs=>hs.1)<|Rl 1 b (fun _ hs=>hs.2.1)<|Rl 2 b (fun _ hs=>hs.1)<|Rt 3 b<|Rt 4 b<|Rl 5 b (fun _ hs=>hs.2.2)<|Rt 6 b<|?_
 have A:=aD j e
 refine R0 7 rfl<|Oc<|m3 (nd (a:=C.wordV) (most:=most) (al.upd F A (aa hne az) (aq (aU t (by decide)) aG)) (by omega)) fun O H f P=>?_
 have B:=aW f n_bm_g x
 have D:=aW f n_bc_g y
 have k:=aW f (Ne.symm hne) z
 refine bi ⟨(ae B rfl),(ae D rfl),(ae k rfl)⟩ fun l=>Rr 8 l (.int .u16 ((C.wordsC 1).wordV)) (fun _ _=>ch (.int .u16 (IntKind.u16.wrap ((C.wordsC 1).wordV))) (by kernel_rfl) (congrArg (Value.int .u16) (kY (by omega))))<|Rt 9 l<|Rt 10 l<|R0 11 rfl<|bX k 3 (mG c 0 C.wordV ((C.wordsC 1).wordV) 0 0 0 0 0 0 0 0 nS nS nS nS 0 0 0 0 0 nS) fun Q E h=>?_
 refine bi ⟨(ae (aW h n_bm_gm B) rfl),(ae (aW h n_bc_gm D) rfl),(ae E rfl)⟩ fun R=>re<|rm (.tuple #[])<|?_
 exact⟨rfl,(al.upd H h (aa hne az) (aq (aU k (by decide)) aG)),E,(ui s (ui A (us f h)))⟩
theorem Bc{g gm:Nat}{c:Int}{C:ak}{w:World}(hcode:B8 c)(hC:al w g C)(hm:w.heap[gm]? = some (.cells (mC c) 30 (0,0)))(hne:g≠gm){bc:Nat}{bm:Nat}{bw:Nat}(hbc:w.heap[bc]? = some (.cells #[.pointer (some ⟨g,0,none⟩)] 113 (0,0)))(n_bc_g:bc≠g)(n_bc_gm:bc≠gm)(hbm:w.heap[bm]? = some (.cells #[.pointer (some ⟨gm,0,none⟩)] 161 (0,0)))(n_bm_g:bm≠g)(n_bm_gm:bm≠gm)(hbw:w.heap[bw]? = some (.cells #[.func (.func 236) #[] #[.pointer (some ⟨bc,0,none⟩),.pointer (some ⟨bm,0,none⟩)]] 239 (0,0)))(n_bw_g:bw≠g)(n_bw_gm:bw≠gm) :
    Calls Tryz.prog 238 #[.pointer (some ⟨bw,0,none⟩)] w (cz g gm (bZ 125 c C).1 (bZ 125 c C).2 w):=by
 obtain⟨hcode1,hcode2⟩:=hcode
 have hlen:=hC.len
 refine en 3 Tryz.func238 rfl<|go<|L0<|aO hbw 0<|L0<|i2 #[] #[.pointer (some ⟨bc,0,none⟩),.pointer (some ⟨bm,0,none⟩)] (args:=#[.int .i64 125,.pointer (some ⟨bc,0,none⟩),.pointer (some ⟨bm,0,none⟩)])<|m3 (iE (most:=125) ⟨hcode1,hcode2⟩ hC hm hne hbc n_bc_g n_bc_gm hbm n_bm_g n_bm_gm) fun e a b d=>?_
 have f:=(hC).wordV
 have h:=bN (cD (hC).rng 1)
 refine nl<|rm (.tuple #[])<|?_
 have hs:bZ 125 c C=((bG (C.wordsC 1) C.wordV 125),(aP.mk c 0 C.wordV ((C.wordsC 1).wordV) 0 0 0 0 0 0 0 0 [] [] [] [] 0 0 0 0 0 [])):=by
   unfold bZ
   (try simp only[bs,if_true,if_false,decide_true,decide_false,reduceIte])
   all_goals rfl
 rw[hs]
 exact⟨rfl,a,⟨_,⟨b,rfl⟩,⟨_,_,_,_,_,rfl,aL.nil ..,aL.nil ..,aL.nil ..,aL.nil ..,aL.nil ..,(cj (by omega))⟩⟩,d⟩
theorem AD{g gm:Nat}{c:Int}{C:ak}{w:World}(hcode:B8 c)(hC:al w g C)(hm:w.heap[gm]? = some (.cells (mC c) 30 (0,0)))(hne:g≠gm){bc:Nat}{bm:Nat}(hbc:w.heap[bc]? = some (.cells #[.pointer (some ⟨g,0,none⟩)] 113 (0,0)))(n_bc_g:bc≠g)(n_bc_gm:bc≠gm)(hbm:w.heap[bm]? = some (.cells #[.pointer (some ⟨gm,0,none⟩)] 161 (0,0)))(n_bm_g:bm≠g)(n_bm_gm:bm≠gm) :
    Calls Tryz.prog 239 #[.pointer (some ⟨bc,0,none⟩),.pointer (some ⟨bm,0,none⟩)] w (cz g gm (cm c C).1 (cm c C).2 w):=by
 obtain⟨hcode1,hcode2⟩:=hcode
 have hlen:=hC.len
 refine en 26 Tryz.func239 rfl<|sg<|L0<|aO hbc 0<|L0<|Oc<|m3 (bY hC) fun N B k O=>L0<|Oi C.byteV<|Pl 1<|ng<|?_
 have l:=aW k n_bc_g hbc
 refine L0<|aO l 0<|Pl 1<|L0<|Oe (.int .i64 (Int.tmod C.byteV 2)) (.int .i64 (C.byteV%2)) (congrArg (Value.int .i64) (Int.tmod_eq_emod_of_nonneg (by omega)))<|Pl 2<|cu 3 [10] 13 ((((C.byteV%2)==0)&&(decide (2≤C.byteV)))) (fun K m=>?_) ?_
 refine bl 10 (((C.byteV%2)==0)) (fun a=>?_) (fun a=>?_)
 have D:=ah a
 exact Pl 3<|ce m (decide (2≤C.byteV)) (by rw[a];rfl)
 have D:=aj a
 exact Pl 3<|ce m false (by rw[a];rfl)
 refine Pl 1<|cu 3 [14] 17 (((((C.byteV%2)==0)&&(decide (2≤C.byteV)))&&(decide (C.byteV≤250)))) (fun K o=>?_) ?_
 refine bl 14 ((((C.byteV%2)==0)&&(decide (2≤C.byteV)))) (fun b=>?_) (fun b=>?_)
 have E:=(aT b).1
 have F:=(aT b).2
 have P:=ah E
 have Q:=of_decide_eq_true F
 exact Pl 3<|ce o (decide (C.byteV≤250)) (by rw[b];rfl)
 exact Pl 3<|ce o false (by rw[b];rfl)
 refine L0<|Oc<|m2 (be (((((C.byteV%2)==0)&&(decide (2≤C.byteV)))&&(decide (C.byteV≤250)))) 5 B) fun R G H=>nt<|Rg 8 (fun w'=>w'.cell? ⟨bm,0,none⟩=some (.pointer (some ⟨gm,0,none⟩))∧w'.cell? ⟨bc,0,none⟩=some (.pointer (some ⟨g,0,none⟩))) fun S p=>?_
 have q:=aD H p
 have i:=u1 k q im
 have r:=aW i n_bm_g hbm
 have s:=aW q n_bc_g l
 refine bi ⟨(ae r rfl),(ae s rfl)⟩ fun f=>Rl 0 f (fun _ hs=>hs.1)<|Rl 1 f (fun _ hs=>hs.2)<|Rt 2 f<|Rr 3 f (.int .i64 (C.byteV/2)) (fun _ _=>ch (.int .i64 (IntKind.i64.wrap (Int.tdiv C.byteV 2))) (by kernel_rfl) (congrArg (Value.int .i64) (gi (by omega) (by omega))))<|?_
 refine R0 4 rfl<|Oc<|nW (eo (n:=(C.byteV/2)) (al.old G p)) fun I J T t U V L j=>?_
 have u:=aW j n_bm_g r
 have v:=aW j n_bc_g s
 refine bi ⟨(ae u rfl),(ae v rfl)⟩ fun y=>Rt 5 y<|Rt 6 y<|?_
 have z:=u1 i j im
 have A:=aW z (Ne.symm hne) hm
 refine R0 7 rfl<|bX A 12 (mG c 0 0 0 0 0 0 0 0 0 0 0 (.slice I ((((C.bytesC 1).need ((((C.byteV%2)==0)&&(decide (2≤C.byteV)))&&(decide (C.byteV≤250))) 5).wordsR (C.byteV/2)).length) J) nS nS nS 0 0 0 0 0 nS) fun W M d=>?_
 refine bi ⟨(ae (aW d n_bm_gm u) rfl),(ae (aW d n_bc_gm v) rfl)⟩ fun X=>re<|rm (.tuple #[])<|?_
 have hs:cm c C=((((C.bytesC 1).need ((((C.byteV%2)==0)&&(decide (2≤C.byteV)))&&(decide (C.byteV≤250))) 5).wordsC (C.byteV/2)),(aP.mk c 0 0 0 0 0 0 0 0 0 0 0 (((C.bytesC 1).need ((((C.byteV%2)==0)&&(decide (2≤C.byteV)))&&(decide (C.byteV≤250))) 5).wordsR (C.byteV/2)) [] [] [] 0 0 0 0 0 [])):=by
   unfold cm kv iv
   (try simp only[bs,if_true,if_false,decide_true,decide_false,reduceIte])
   all_goals rfl
 rw[hs]
 exact⟨rfl,(al.upd L d (aa hne az) (aq (aU A (by decide)) aG)),⟨_,⟨M,rfl⟩,⟨_,_,_,_,_,rfl,((ap t d (fun x hx=>(aa (fun e=>(aB (am hm) i.size t) (e▸hx)) az)) (fun _ _ h=>h))).rd,aL.nil ..,aL.nil ..,aL.nil ..,aL.nil ..,(cj (by omega))⟩⟩,(us z d)⟩
theorem Bf{g gm:Nat}{c:Int}{C:ak}{w:World}(hcode:B8 c)(hC:al w g C)(hm:w.heap[gm]? = some (.cells (mC c) 30 (0,0)))(hne:g≠gm){bc:Nat}{bm:Nat}(hbc:w.heap[bc]? = some (.cells #[.pointer (some ⟨g,0,none⟩)] 113 (0,0)))(n_bc_g:bc≠g)(n_bc_gm:bc≠gm)(hbm:w.heap[bm]? = some (.cells #[.pointer (some ⟨gm,0,none⟩)] 161 (0,0)))(n_bm_g:bm≠g)(n_bm_gm:bm≠gm) :
    Calls Tryz.prog 240 #[.pointer (some ⟨bc,0,none⟩),.pointer (some ⟨bm,0,none⟩)] w (cz g gm (dN c C).1 (dN c C).2 w):=by
 obtain⟨hcode1,hcode2⟩:=hcode
 have hlen:=hC.len
 refine en 12 Tryz.func240 rfl<|Rg 12 (fun w'=>w'.cell? ⟨bm,0,none⟩=some (.pointer (some ⟨gm,0,none⟩))∧w'.cell? ⟨bc,0,none⟩=some (.pointer (some ⟨g,0,none⟩))) fun A a=>?_
 have i:=ub a hbm
 have j:=ub a hbc
 refine bi ⟨(ae i rfl),(ae j rfl)⟩ fun b=>Rl 0 b (fun _ hs=>hs.1)<|Rl 1 b (fun _ hs=>hs.1)<|Rl 2 b (fun _ hs=>hs.2)<|Rl 4 b (fun _ hs=>hs.2)<|?_
 refine R0 3 rfl<|Oc<|m3 (ci (al.old hC a)) fun B v d D=>?_
 have k:=aW d n_bm_g i
 have l:=aW d n_bc_g j
 refine bi ⟨(ae k rfl),(ae l rfl)⟩ fun E=>R0 5 rfl<|Oc<|m3 (ci v) fun F x e G=>?_
 have m:=aW e n_bm_g k
 have n:=aW e n_bc_g l
 refine bi ⟨(ae m rfl),(ae n rfl)⟩ fun o=>Rt 6 o<|Rt 7 o<|?_
 have p:=uz a (u1 d e im)
 have q:=aW p (Ne.symm hne) hm
 refine R0 8 rfl<|bX q 2 (mG c 0 C.wordV 0 0 0 0 0 0 0 0 0 nS nS nS nS 0 0 0 0 0 nS) fun H y f=>?_
 have r:=aW f n_bm_gm m
 have s:=aW f n_bc_gm n
 refine bi ⟨(ae r rfl),(ae s rfl)⟩ fun t=>Rt 9 t<|Rt 10 t<|R0 11 rfl<|bX y 4 (mG c 0 C.wordV 0 ((C.wordsC 1).wordV) 0 0 0 0 0 0 0 nS nS nS nS 0 0 0 0 0 nS) fun I z h=>?_
 refine bi ⟨(ae (aW h n_bm_gm r) rfl),(ae (aW h n_bc_gm s) rfl)⟩ fun J=>re<|rm (.tuple #[])<|?_
 have hs:dN c C=(((C.wordsC 1).wordsC 1),(aP.mk c 0 C.wordV 0 ((C.wordsC 1).wordV) 0 0 0 0 0 0 0 [] [] [] [] 0 0 0 0 0 [])):=by
   unfold dN
   (try simp only[bs,if_true,if_false,decide_true,decide_false,reduceIte])
   all_goals rfl
 rw[hs]
 have u:=u1 f h im
 exact⟨rfl,(al.upd x u (aa hne az) (aq (aU q (by decide)) aG)),⟨_,⟨z,rfl⟩,⟨_,_,_,_,_,rfl,aL.nil ..,aL.nil ..,aL.nil ..,aL.nil ..,aL.nil ..,(cj (by omega))⟩⟩,(us p u)⟩
theorem AG{ask:Bool}{g gm:Nat}{c:Int}{C:ak}{w:World}(hcode:B8 c)(hC:al w g C)(hm:w.heap[gm]? = some (.cells (mC c) 30 (0,0)))(hne:g≠gm){bc:Nat}{bm:Nat}{bw:Nat}{ba:Nat}(hbc:w.heap[bc]? = some (.cells #[.pointer (some ⟨g,0,none⟩)] 113 (0,0)))(n_bc_g:bc≠g)(n_bc_gm:bc≠gm)(hbm:w.heap[bm]? = some (.cells #[.pointer (some ⟨gm,0,none⟩)] 161 (0,0)))(n_bm_g:bm≠g)(n_bm_gm:bm≠gm)(hbw:w.heap[bw]? = some (.cells #[.func (.func 236) #[] #[.pointer (some ⟨bc,0,none⟩),.pointer (some ⟨bm,0,none⟩)]] 239 (0,0)))(n_bw_g:bw≠g)(n_bw_gm:bw≠gm)(hba:w.heap[ba]? = some (.cells #[.bool ask] 4 (0,0)))(n_ba_g:ba≠g)(n_ba_gm:ba≠gm)(hask:ask=true) :
    Calls Tryz.prog 241 #[.pointer (some ⟨bw,0,none⟩),.pointer (some ⟨ba,0,none⟩),.pointer (some ⟨bc,0,none⟩),.pointer (some ⟨bm,0,none⟩)] w (cz g gm (d8 c C).1 (d8 c C).2 w):=by
 obtain⟨hcode1,hcode2⟩:=hcode
 have hlen:=hC.len
 refine en 17 Tryz.func241 rfl<|sg<|L0<|aO hbw 0<|L0<|i2 #[] #[.pointer (some ⟨bc,0,none⟩),.pointer (some ⟨bm,0,none⟩)] (args:=#[.int .i64 123,.pointer (some ⟨bc,0,none⟩),.pointer (some ⟨bm,0,none⟩)])<|m3 (iE (most:=123) ⟨hcode1,hcode2⟩ hC hm hne hbc n_bc_g n_bc_gm hbm n_bm_g n_bm_gm) fun B u v k=>?_
 have D:=(hC).wordV
 have E:=bN (cD (hC).rng 1)
 refine ng<|?_
 refine L0<|aO (aC.blk k (aa n_ba_g (aa n_ba_gm az)) hba) 0<|nt<|ct hask<|Rg 11 (fun w'=>w'.cell? ⟨bm,0,none⟩=some (.pointer (some ⟨gm,0,none⟩))∧w'.cell? ⟨bc,0,none⟩=some (.pointer (some ⟨g,0,none⟩))∧w'.cell? ⟨gm,3,none⟩=some (.int .u16 ((C.wordsC 1).wordV))) fun F i=>?_
 have d:=aD k i
 have l:=aC.blk d (aa n_bm_g (aa n_bm_gm az)) hbm
 have m:=aC.blk d (aa n_bc_g (aa n_bc_gm az)) hbc
 have o:=ub i v
 refine bi ⟨(ae l rfl),(ae m rfl),(ae o rfl)⟩ fun a=>Rl 0 a (fun _ hs=>hs.1)<|Rl 1 a (fun _ hs=>hs.2.1)<|Rl 2 a (fun _ hs=>hs.1)<|Rt 3 a<|Rt 4 a<|Rl 5 a (fun _ hs=>hs.2.2)<|Rr 6 a (.int .i64 ((C.wordsC 1).wordV)) (fun _ _=>ch (.int .i64 (IntKind.i64.wrap ((C.wordsC 1).wordV))) (by kernel_rfl) (congrArg (Value.int .i64) (i64_in (by omega))))<|?_
 refine R0 7 rfl<|Oc<|nW (kq (n:=(C.wordsC 1).wordV) (al.old u i) (by omega)) fun y z G p H I A f=>?_
 have q:=aW f n_bm_g l
 have r:=aW f n_bc_g m
 have j:=aW f (Ne.symm hne) o
 refine bi ⟨(ae q rfl),(ae r rfl),(ae j rfl)⟩ fun s=>Rt 8 s<|Rt 9 s<|R0 10 rfl<|bX j 12 (mG c 0 C.wordV ((C.wordsC 1).wordV) 0 0 0 0 0 0 0 0 (.slice y (((cU (bG (C.wordsC 1) C.wordV 123) ((C.wordsC 1).wordV)).wordsR ((C.wordsC 1).wordV)).length) z) nS nS nS 0 0 0 0 0 nS) fun J t b=>?_
 refine bi ⟨(ae (aW b n_bm_gm q) rfl),(ae (aW b n_bc_gm r) rfl),(ae t rfl)⟩ fun K=>re<|rm (.tuple #[])<|?_
 have hs:d8 c C=(((cU (bG (C.wordsC 1) C.wordV 123) ((C.wordsC 1).wordV)).wordsC ((C.wordsC 1).wordV)),(aP.mk c 0 C.wordV ((C.wordsC 1).wordV) 0 0 0 0 0 0 0 0 ((cU (bG (C.wordsC 1) C.wordV 123) ((C.wordsC 1).wordV)).wordsR ((C.wordsC 1).wordV)) [] [] [] 0 0 0 0 0 [])):=by
   unfold d8 iq
   (try simp only[hask,bs,if_true,if_false,decide_true,decide_false,reduceIte])
   all_goals rfl
 rw[hs]
 exact⟨rfl,(al.upd A b (aa hne az) (aq (aU j (by decide)) aG)),⟨_,⟨t,rfl⟩,⟨_,_,_,_,_,rfl,((ap p b (fun x hx=>(aa (fun e=>(aB (am hm) d.size p) (e▸hx)) az)) (fun _ _ h=>h))).rd,aL.nil ..,aL.nil ..,aL.nil ..,aL.nil ..,(cj (by omega))⟩⟩,(ut d (us f b) (ac im (ac im ay)))⟩
theorem AR{ask:Bool}{g gm:Nat}{c:Int}{C:ak}{w:World}(hcode:B8 c)(hC:al w g C)(hm:w.heap[gm]? = some (.cells (mC c) 30 (0,0)))(hne:g≠gm){bc:Nat}{bm:Nat}{bw:Nat}{ba:Nat}(hbc:w.heap[bc]? = some (.cells #[.pointer (some ⟨g,0,none⟩)] 113 (0,0)))(n_bc_g:bc≠g)(n_bc_gm:bc≠gm)(hbm:w.heap[bm]? = some (.cells #[.pointer (some ⟨gm,0,none⟩)] 161 (0,0)))(n_bm_g:bm≠g)(n_bm_gm:bm≠gm)(hbw:w.heap[bw]? = some (.cells #[.func (.func 236) #[] #[.pointer (some ⟨bc,0,none⟩),.pointer (some ⟨bm,0,none⟩)]] 239 (0,0)))(n_bw_g:bw≠g)(n_bw_gm:bw≠gm)(hba:w.heap[ba]? = some (.cells #[.bool ask] 4 (0,0)))(n_ba_g:ba≠g)(n_ba_gm:ba≠gm)(hask:ask=false) :
    Calls Tryz.prog 241 #[.pointer (some ⟨bw,0,none⟩),.pointer (some ⟨ba,0,none⟩),.pointer (some ⟨bc,0,none⟩),.pointer (some ⟨bm,0,none⟩)] w (cz g gm (bZ 123 c C).1 (bZ 123 c C).2 w):=by
 obtain⟨hcode1,hcode2⟩:=hcode
 have hlen:=hC.len
 refine en 17 Tryz.func241 rfl<|sg<|L0<|aO hbw 0<|L0<|i2 #[] #[.pointer (some ⟨bc,0,none⟩),.pointer (some ⟨bm,0,none⟩)] (args:=#[.int .i64 123,.pointer (some ⟨bc,0,none⟩),.pointer (some ⟨bm,0,none⟩)])<|m3 (iE (most:=123) ⟨hcode1,hcode2⟩ hC hm hne hbc n_bc_g n_bc_gm hbm n_bm_g n_bm_gm) fun e b d a=>?_
 have f:=(hC).wordV
 have h:=bN (cD (hC).rng 1)
 refine ng<|?_
 refine L0<|aO (aC.blk a (aa n_ba_g (aa n_ba_gm az)) hba) 0<|nt<|cf hask<|sk<|rm (.tuple #[])<|?_
 have hs:bZ 123 c C=((bG (C.wordsC 1) C.wordV 123),(aP.mk c 0 C.wordV ((C.wordsC 1).wordV) 0 0 0 0 0 0 0 0 [] [] [] [] 0 0 0 0 0 [])):=by
   unfold bZ
   (try simp only[hask,bs,if_true,if_false,decide_true,decide_false,reduceIte])
   all_goals rfl
 rw[hs]
 exact⟨rfl,b,⟨_,⟨d,rfl⟩,⟨_,_,_,_,_,rfl,aL.nil ..,aL.nil ..,aL.nil ..,aL.nil ..,aL.nil ..,(cj (by omega))⟩⟩,a⟩
theorem Bk{g gm:Nat}{c:Int}{C:ak}{w:World}(hcode:B8 c)(hC:al w g C)(hm:w.heap[gm]? = some (.cells (mC c) 30 (0,0)))(hne:g≠gm){bc:Nat}{bm:Nat}(hbc:w.heap[bc]? = some (.cells #[.pointer (some ⟨g,0,none⟩)] 113 (0,0)))(n_bc_g:bc≠g)(n_bc_gm:bc≠gm)(hbm:w.heap[bm]? = some (.cells #[.pointer (some ⟨gm,0,none⟩)] 161 (0,0)))(n_bm_g:bm≠g)(n_bm_gm:bm≠gm) :
    Calls Tryz.prog 243 #[.pointer (some ⟨bc,0,none⟩),.pointer (some ⟨bm,0,none⟩)] w (cz g gm (cS c C).1 (cS c C).2 w):=by
 obtain⟨hcode1,hcode2⟩:=hcode
 have hlen:=hC.len
 refine en 17 Tryz.func243 rfl<|Rg 18 (fun w'=>w'.cell? ⟨bm,0,none⟩=some (.pointer (some ⟨gm,0,none⟩))∧w'.cell? ⟨bc,0,none⟩=some (.pointer (some ⟨g,0,none⟩))) fun K b=>?_
 have k:=ub b hbm
 have l:=ub b hbc
 refine bi ⟨(ae k rfl),(ae l rfl)⟩ fun a=>Rl 0 a (fun _ hs=>hs.1)<|Rl 1 a (fun _ hs=>hs.1)<|Rl 2 a (fun _ hs=>hs.1)<|Rl 3 a (fun _ hs=>hs.2)<|Rl 5 a (fun _ hs=>hs.2)<|Rl 7 a (fun _ hs=>hs.2)<|?_
 refine R0 4 rfl<|Oc<|m3 (ci (al.old hC b)) fun L E d M=>?_
 have m:=aW d n_bm_g k
 have n:=aW d n_bc_g l
 refine bi ⟨(ae m rfl),(ae n rfl)⟩ fun N=>R0 6 rfl<|Oc<|m3 (ci E) fun O F e P=>?_
 have o:=aW e n_bm_g m
 have p:=aW e n_bc_g n
 refine bi ⟨(ae o rfl),(ae p rfl)⟩ fun Q=>R0 8 rfl<|Oc<|m3 (ci F) fun R G f S=>?_
 have q:=aW f n_bm_g o
 have r:=aW f n_bc_g p
 refine bi ⟨(ae q rfl),(ae r rfl)⟩ fun s=>Rt 9 s<|Rt 10 s<|?_
 have t:=uz b (u1 d (u1 e f im) im)
 have u:=aW t (Ne.symm hne) hm
 refine R0 11 rfl<|bX u 2 (mG c 0 C.wordV 0 0 0 0 0 0 0 0 0 nS nS nS nS 0 0 0 0 0 nS) fun T H h=>?_
 have v:=aW h n_bm_gm q
 have x:=aW h n_bc_gm r
 refine bi ⟨(ae v rfl),(ae x rfl)⟩ fun y=>Rt 12 y<|Rt 13 y<|R0 14 rfl<|bX H 5 (mG c 0 C.wordV 0 0 ((C.wordsC 1).wordV) 0 0 0 0 0 0 nS nS nS nS 0 0 0 0 0 nS) fun U I i=>?_
 have z:=aW i n_bm_gm v
 have A:=aW i n_bc_gm x
 refine bi ⟨(ae z rfl),(ae A rfl)⟩ fun B=>Rt 15 B<|Rt 16 B<|R0 17 rfl<|bX I 6 (mG c 0 C.wordV 0 0 ((C.wordsC 1).wordV) (((C.wordsC 1).wordsC 1).wordV) 0 0 0 0 0 nS nS nS nS 0 0 0 0 0 nS) fun V J j=>?_
 refine bi ⟨(ae (aW j n_bm_gm z) rfl),(ae (aW j n_bc_gm A) rfl)⟩ fun W=>re<|rm (.tuple #[])<|?_
 have hs:cS c C=((((C.wordsC 1).wordsC 1).wordsC 1),(aP.mk c 0 C.wordV 0 0 ((C.wordsC 1).wordV) (((C.wordsC 1).wordsC 1).wordV) 0 0 0 0 0 [] [] [] [] 0 0 0 0 0 [])):=by
   unfold cS
   (try simp only[bs,if_true,if_false,decide_true,decide_false,reduceIte])
   all_goals rfl
 rw[hs]
 have D:=u1 h (u1 i j im) im
 exact⟨rfl,(al.upd G D (aa hne az) (aq (aU u (by decide)) aG)),⟨_,⟨J,rfl⟩,⟨_,_,_,_,_,rfl,aL.nil ..,aL.nil ..,aL.nil ..,aL.nil ..,aL.nil ..,(cj (by omega))⟩⟩,(us t D)⟩
theorem Bq{g gm:Nat}{c:Int}{C:ak}{w:World}(hcode:B8 c)(hC:al w g C)(hm:w.heap[gm]? = some (.cells (mC c) 30 (0,0)))(hne:g≠gm){bc:Nat}{bm:Nat}{bw:Nat}(hbc:w.heap[bc]? = some (.cells #[.pointer (some ⟨g,0,none⟩)] 113 (0,0)))(n_bc_g:bc≠g)(n_bc_gm:bc≠gm)(hbm:w.heap[bm]? = some (.cells #[.pointer (some ⟨gm,0,none⟩)] 161 (0,0)))(n_bm_g:bm≠g)(n_bm_gm:bm≠gm)(hbw:w.heap[bw]? = some (.cells #[.func (.func 236) #[] #[.pointer (some ⟨bc,0,none⟩),.pointer (some ⟨bm,0,none⟩)]] 239 (0,0)))(n_bw_g:bw≠g)(n_bw_gm:bw≠gm) :
    Calls Tryz.prog 244 #[.pointer (some ⟨bw,0,none⟩),.pointer (some ⟨bc,0,none⟩),.pointer (some ⟨bm,0,none⟩)] w (cz g gm (d9 c C).1 (d9 c C).2 w):=by
 obtain⟨hcode1,hcode2⟩:=hcode
 have hlen:=hC.len
 refine en 21 Tryz.func244 rfl<|sg<|L0<|aO hbw 0<|L0<|i2 #[] #[.pointer (some ⟨bc,0,none⟩),.pointer (some ⟨bm,0,none⟩)] (args:=#[.int .i64 125,.pointer (some ⟨bc,0,none⟩),.pointer (some ⟨bm,0,none⟩)])<|m3 (iE (most:=125) ⟨hcode1,hcode2⟩ hC hm hne hbc n_bc_g n_bc_gm hbm n_bm_g n_bm_gm) fun X P Q q=>?_
 have Y:=(hC).wordV
 have Z:=bN (cD (hC).rng 1)
 refine nt<|sq<|Rg 6 (fun w'=>w'.cell? ⟨bm,0,none⟩=some (.pointer (some ⟨gm,0,none⟩))∧w'.cell? ⟨bc,0,none⟩=some (.pointer (some ⟨g,0,none⟩))) fun a0 k=>?_
 have o:=aD q k
 have r:=aC.blk o (aa n_bm_g (aa n_bm_gm az)) hbm
 have s:=aC.blk o (aa n_bc_g (aa n_bc_gm az)) hbc
 refine bi ⟨(ae r rfl),(ae s rfl)⟩ fun t=>Rl 0 t (fun _ hs=>hs.1)<|Rl 1 t (fun _ hs=>hs.2)<|?_
 refine R0 2 rfl<|Oc<|m3 (ci (al.old P k)) fun a1 R d a2=>?_
 have u:=aW d n_bm_g r
 have v:=aW d n_bc_g s
 refine bi ⟨(ae u rfl),(ae v rfl)⟩ fun y=>Rt 3 y<|Rt 4 y<|?_
 have z:=aW (uz k d) (Ne.symm hne) Q
 refine R0 5 rfl<|bX z 7 (mG c 0 C.wordV ((C.wordsC 1).wordV) 0 0 0 ((bG (C.wordsC 1) C.wordV 125).wordV) 0 0 0 0 nS nS nS nS 0 0 0 0 0 nS) fun a3 S l=>?_
 have A:=aW l n_bm_gm u
 have B:=aW l n_bc_gm v
 refine bi ⟨(ae A rfl),(ae B rfl)⟩ fun a4=>re<|tn<|Rg 12 (fun w'=>w'.cell? ⟨bm,0,none⟩=some (.pointer (some ⟨gm,0,none⟩))∧w'.cell? ⟨bc,0,none⟩=some (.pointer (some ⟨g,0,none⟩))∧w'.cell? ⟨gm,7,none⟩=some (.int .u16 ((bG (C.wordsC 1) C.wordV 125).wordV))) fun a5 f=>?_
 have D:=ub f A
 have E:=ub f B
 have F:=ub f S
 refine bi ⟨(ae D rfl),(ae E rfl),(ae F rfl)⟩ fun b=>Rl 0 b (fun _ hs=>hs.1)<|Rl 1 b (fun _ hs=>hs.2.1)<|Rl 2 b (fun _ hs=>hs.2.1)<|Rl 3 b (fun _ hs=>hs.1)<|Rt 4 b<|Rt 5 b<|Rl 6 b (fun _ hs=>hs.2.2)<|?_
 have G:=aD l f
 refine R0 7 rfl<|Oc<|m3 (nd (a:=(bG (C.wordsC 1) C.wordV 125).wordV) (most:=121) (al.upd R G (aa hne az) (aq (aU z (by decide)) aG)) (by omega)) fun a6 T i a7=>?_
 have H:=aW i n_bm_g D
 have I:=aW i n_bc_g E
 have J:=aW i (Ne.symm hne) F
 refine bi ⟨(ae H rfl),(ae I rfl),(ae J rfl)⟩ fun a8=>R0 8 rfl<|Oc<|nW (kq (n:=((bG (C.wordsC 1) C.wordV 125).wordsC 1).wordV) T (by omega)) fun U V a9 K ab ad W m=>?_
 have L:=aW m n_bm_g H
 have M:=aW m n_bc_g I
 have p:=aW m (Ne.symm hne) J
 refine bi ⟨(ae L rfl),(ae M rfl),(ae p rfl)⟩ fun N=>Rt 9 N<|Rt 10 N<|R0 11 rfl<|bX p 12 (mG c 0 C.wordV ((C.wordsC 1).wordV) 0 0 0 ((bG (C.wordsC 1) C.wordV 125).wordV) 0 0 0 0 (.slice U (((cU (bG ((bG (C.wordsC 1) C.wordV 125).wordsC 1) ((bG (C.wordsC 1) C.wordV 125).wordV) 121) (((bG (C.wordsC 1) C.wordV 125).wordsC 1).wordV)).wordsR (((bG (C.wordsC 1) C.wordV 125).wordsC 1).wordV)).length) V) nS nS nS 0 0 0 0 0 nS) fun af O j=>?_
 refine bi ⟨(ae (aW j n_bm_gm L) rfl),(ae (aW j n_bc_gm M) rfl),(ae O rfl)⟩ fun ag=>re<|rm (.tuple #[])<|?_
 have hs:d9 c C=(((cU (bG ((bG (C.wordsC 1) C.wordV 125).wordsC 1) ((bG (C.wordsC 1) C.wordV 125).wordV) 121) (((bG (C.wordsC 1) C.wordV 125).wordsC 1).wordV)).wordsC (((bG (C.wordsC 1) C.wordV 125).wordsC 1).wordV)),(aP.mk c 0 C.wordV ((C.wordsC 1).wordV) 0 0 0 ((bG (C.wordsC 1) C.wordV 125).wordV) 0 0 0 0 ((cU (bG ((bG (C.wordsC 1) C.wordV 125).wordsC 1) ((bG (C.wordsC 1) C.wordV 125).wordV) 121) (((bG (C.wordsC 1) C.wordV 125).wordsC 1).wordV)).wordsR (((bG (C.wordsC 1) C.wordV 125).wordsC 1).wordV)) [] [] [] 0 0 0 0 0 [])):=by
   unfold d9 gZ pB fI
   (try simp only[bs,if_true,if_false,decide_true,decide_false,reduceIte])
   all_goals rfl
 rw[hs]
 exact⟨rfl,(al.upd W j (aa hne az) (aq (aU p (by decide)) aG)),⟨_,⟨O,rfl⟩,⟨_,_,_,_,_,rfl,((ap K j (fun x hx=>(aa (fun e=>(aB (am hm) (le (le (le (le (le q.size k.size) d.size) l.size) f.size) i.size) K) (e▸hx)) az)) (fun _ _ h=>h))).rd,aL.nil ..,aL.nil ..,aL.nil ..,aL.nil ..,(cj (by omega))⟩⟩,(ut o (ui d (ui G (ui i (us m j)))) (ac im (ac im ay)))⟩
theorem Br{g gm:Nat}{c:Int}{C:ak}{w:World}(hcode:B8 c)(hC:al w g C)(hm:w.heap[gm]? = some (.cells (mC c) 30 (0,0)))(hne:g≠gm){bc:Nat}{bm:Nat}(hbc:w.heap[bc]? = some (.cells #[.pointer (some ⟨g,0,none⟩)] 113 (0,0)))(n_bc_g:bc≠g)(n_bc_gm:bc≠gm)(hbm:w.heap[bm]? = some (.cells #[.pointer (some ⟨gm,0,none⟩)] 161 (0,0)))(n_bm_g:bm≠g)(n_bm_gm:bm≠gm) :
    Calls Tryz.prog 245 #[.pointer (some ⟨bc,0,none⟩),.pointer (some ⟨bm,0,none⟩)] w (cz g gm (d7 c C).1 (d7 c C).2 w):=by
 obtain⟨hcode1,hcode2⟩:=hcode
 have hlen:=hC.len
 refine en 7 Tryz.func245 rfl<|Rg 6 (fun w'=>w'.cell? ⟨bm,0,none⟩=some (.pointer (some ⟨gm,0,none⟩))∧w'.cell? ⟨bc,0,none⟩=some (.pointer (some ⟨g,0,none⟩))) fun p a=>?_
 have e:=ub a hbm
 have f:=ub a hbc
 refine bi ⟨(ae e rfl),(ae f rfl)⟩ fun h=>Rl 0 h (fun _ hs=>hs.1)<|Rl 1 h (fun _ hs=>hs.2)<|?_
 refine R0 2 rfl<|Oc<|m3 (ci (al.old hC a)) fun q n d r=>?_
 have i:=aW d n_bm_g e
 have j:=aW d n_bc_g f
 refine bi ⟨(ae i rfl),(ae j rfl)⟩ fun k=>Rt 3 k<|Rt 4 k<|?_
 have l:=uz a d
 have m:=aW l (Ne.symm hne) hm
 refine R0 5 rfl<|bX m 2 (mG c 0 C.wordV 0 0 0 0 0 0 0 0 0 nS nS nS nS 0 0 0 0 0 nS) fun s o b=>?_
 refine bi ⟨(ae (aW b n_bm_gm i) rfl),(ae (aW b n_bc_gm j) rfl)⟩ fun t=>re<|rm (.tuple #[])<|?_
 have hs:d7 c C=((C.wordsC 1),(aP.mk c 0 C.wordV 0 0 0 0 0 0 0 0 0 [] [] [] [] 0 0 0 0 0 [])):=by
   unfold d7
   (try simp only[bs,if_true,if_false,decide_true,decide_false,reduceIte])
   all_goals rfl
 rw[hs]
 exact⟨rfl,(al.upd n b (aa hne az) (aq (aU m (by decide)) aG)),⟨_,⟨o,rfl⟩,⟨_,_,_,_,_,rfl,aL.nil ..,aL.nil ..,aL.nil ..,aL.nil ..,aL.nil ..,(cj (by omega))⟩⟩,(us l b)⟩
theorem Bz{g gm:Nat}{c:Int}{C:ak}{w:World}(hcode:B8 c)(hC:al w g C)(hm:w.heap[gm]? = some (.cells (mC c) 30 (0,0)))(hne:g≠gm){bc:Nat}{bm:Nat}(hbc:w.heap[bc]? = some (.cells #[.pointer (some ⟨g,0,none⟩)] 113 (0,0)))(n_bc_g:bc≠g)(n_bc_gm:bc≠gm)(hbm:w.heap[bm]? = some (.cells #[.pointer (some ⟨gm,0,none⟩)] 161 (0,0)))(n_bm_g:bm≠g)(n_bm_gm:bm≠gm) :
    Calls Tryz.prog 246 #[.pointer (some ⟨bc,0,none⟩),.pointer (some ⟨bm,0,none⟩)] w (cz g gm (kN c C).1 (kN c C).2 w):=by
 obtain⟨hcode1,hcode2⟩:=hcode
 have hlen:=hC.len
 refine en 36 Tryz.func246 rfl<|sg<|L0<|aO hbc 0<|L0<|Oc<|m3 (ci hC) fun T G k U=>L0<|Oi C.wordV<|Pl 1<|ng<|?_
 have l:=aW k n_bc_g hbc
 refine L0<|aO l 0<|Pl 1<|L0<|Oe (.int .i64 (Int.tmod C.wordV 2)) (.int .i64 (C.wordV%2)) (congrArg (Value.int .i64) (Int.tmod_eq_emod_of_nonneg (by omega)))<|Pl 2<|cu 3 [11] 14 ((((C.wordV%2)==0)&&(decide (2≤C.wordV)))) (fun K m=>?_) ?_
 refine bl 11 (((C.wordV%2)==0)) (fun a=>?_) (fun a=>?_)
 have H:=ah a
 exact Pl 3<|ce m (decide (2≤C.wordV)) (by rw[a];rfl)
 have H:=aj a
 exact Pl 3<|ce m false (by rw[a];rfl)
 refine Pl 1<|cu 3 [15] 18 (((((C.wordV%2)==0)&&(decide (2≤C.wordV)))&&(decide (C.wordV≤64)))) (fun K o=>?_) ?_
 refine bl 15 ((((C.wordV%2)==0)&&(decide (2≤C.wordV)))) (fun b=>?_) (fun b=>?_)
 have I:=(aT b).1
 have J:=(aT b).2
 have V:=ah I
 have W:=of_decide_eq_true J
 exact Pl 3<|ce o (decide (C.wordV≤64)) (by rw[b];rfl)
 exact Pl 3<|ce o false (by rw[b];rfl)
 refine L0<|Oc<|m2 (be (((((C.wordV%2)==0)&&(decide (2≤C.wordV)))&&(decide (C.wordV≤64)))) 5 G) fun X L p=>ng<|?_
 have q:=aW p n_bc_g l
 refine L0<|aO q 0<|L0<|Oc<|m3 (ci L) fun Y M r Z=>L0<|Oi (((C.wordsC 1).need ((((C.wordV%2)==0)&&(decide (2≤C.wordV)))&&(decide (C.wordV≤64))) 5).wordV)<|Pl 1<|ng<|?_
 have s:=aW r n_bc_g q
 refine L0<|aO s 0<|Pl 1<|L0<|Oi (2*(((C.wordsC 1).need ((((C.wordV%2)==0)&&(decide (2≤C.wordV)))&&(decide (C.wordV≤64))) 5).wordV))<|L0<|Oi (2+(2*(((C.wordsC 1).need ((((C.wordV%2)==0)&&(decide (2≤C.wordV)))&&(decide (C.wordV≤64))) 5).wordV)))<|Pl 2<|L0<|Oc<|m2 (be (((2+(2*(((C.wordsC 1).need ((((C.wordV%2)==0)&&(decide (2≤C.wordV)))&&(decide (C.wordV≤64))) 5).wordV)))==C.wordV)) 5 M) fun a0 N O=>nt<|Rg 7 (fun w'=>w'.cell? ⟨bm,0,none⟩=some (.pointer (some ⟨gm,0,none⟩))∧w'.cell? ⟨bc,0,none⟩=some (.pointer (some ⟨g,0,none⟩))) fun a1 t=>?_
 have u:=aD O t
 have f:=u1 k (u1 p (u1 r u im) im) im
 have v:=aW f n_bm_g hbm
 have y:=aW u n_bc_g s
 refine bi ⟨(ae v rfl),(ae y rfl)⟩ fun i=>Rl 0 i (fun _ hs=>hs.1)<|Rl 1 i (fun _ hs=>hs.2)<|Rt 2 i<|?_
 refine R0 3 rfl<|Oc<|nW (eo (n:=((C.wordsC 1).need ((((C.wordV%2)==0)&&(decide (2≤C.wordV)))&&(decide (C.wordV≤64))) 5).wordV) (al.old N t)) fun P Q a2 z a3 a4 R j=>?_
 have A:=aW j n_bm_g v
 have B:=aW j n_bc_g y
 refine bi ⟨(ae A rfl),(ae B rfl)⟩ fun D=>Rt 4 D<|Rt 5 D<|?_
 have E:=u1 f j im
 have F:=aW E (Ne.symm hne) hm
 refine R0 6 rfl<|bX F 12 (mG c 0 0 0 0 0 0 0 0 0 0 0 (.slice P ((((((C.wordsC 1).need ((((C.wordV%2)==0)&&(decide (2≤C.wordV)))&&(decide (C.wordV≤64))) 5).wordsC 1).need ((2+(2*(((C.wordsC 1).need ((((C.wordV%2)==0)&&(decide (2≤C.wordV)))&&(decide (C.wordV≤64))) 5).wordV)))==C.wordV) 5).wordsR (((C.wordsC 1).need ((((C.wordV%2)==0)&&(decide (2≤C.wordV)))&&(decide (C.wordV≤64))) 5).wordV)).length) Q) nS nS nS 0 0 0 0 0 nS) fun a5 S d=>?_
 refine bi ⟨(ae (aW d n_bm_gm A) rfl),(ae (aW d n_bc_gm B) rfl)⟩ fun a6=>re<|rm (.tuple #[])<|?_
 have hs:kN c C=((((((C.wordsC 1).need ((((C.wordV%2)==0)&&(decide (2≤C.wordV)))&&(decide (C.wordV≤64))) 5).wordsC 1).need ((2+(2*(((C.wordsC 1).need ((((C.wordV%2)==0)&&(decide (2≤C.wordV)))&&(decide (C.wordV≤64))) 5).wordV)))==C.wordV) 5).wordsC (((C.wordsC 1).need ((((C.wordV%2)==0)&&(decide (2≤C.wordV)))&&(decide (C.wordV≤64))) 5).wordV)),(aP.mk c 0 0 0 0 0 0 0 0 0 0 0 (((((C.wordsC 1).need ((((C.wordV%2)==0)&&(decide (2≤C.wordV)))&&(decide (C.wordV≤64))) 5).wordsC 1).need ((2+(2*(((C.wordsC 1).need ((((C.wordV%2)==0)&&(decide (2≤C.wordV)))&&(decide (C.wordV≤64))) 5).wordV)))==C.wordV) 5).wordsR (((C.wordsC 1).need ((((C.wordV%2)==0)&&(decide (2≤C.wordV)))&&(decide (C.wordV≤64))) 5).wordV)) [] [] [] 0 0 0 0 0 [])):=by
   unfold kN xw rB iv
   (try simp only[bs,if_true,if_false,decide_true,decide_false,reduceIte])
   all_goals rfl
 rw[hs]
 exact⟨rfl,(al.upd R d (aa hne az) (aq (aU F (by decide)) aG)),⟨_,⟨S,rfl⟩,⟨_,_,_,_,_,rfl,((ap z d (fun x hx=>(aa (fun e=>(aB (am hm) f.size z) (e▸hx)) az)) (fun _ _ h=>h))).rd,aL.nil ..,aL.nil ..,aL.nil ..,aL.nil ..,(cj (by omega))⟩⟩,(us E d)⟩
open Go.RowKit
theorem sY{g gm:Nat}{C:ak}{w:World}(hC:al w g C)(hm:w.heap[gm]? = some (.cells (mC 3) 30 (0,0)))(hne:g≠gm) : Calls Tryz.prog 204 #[.int .i64 0,.pointer (some ⟨gm,0,none⟩),.pointer (some ⟨g,0,none⟩)] w (jc (fun W=>cz g gm (bZ 125 3 C).1 (bZ 125 3 C).2 W) w):=by
 refine en 67 Tryz.func204 rfl<|sg<|L0<|dv #[.pointer (some ⟨gm,0,none⟩)] fun n D f o a=>L0<|dv #[.pointer (some ⟨g,0,none⟩)] fun p E h q b=>Pl 1<|ng<|Pl 1<|L0<|bH #[.nilFunc] fun r F d s t=>L0<|bX s 0 #[.func (.func 236) #[] #[.pointer (some ⟨p,0,none⟩),.pointer (some ⟨n,0,none⟩)]] fun G u v=>nl<|?_
 refine tn<|sg<|Pl 2<|L0<|bH #[.bool false] fun H I x y z=>L0<|bX y 0 #[.bool true] fun J A B=>nt<|sq<|sg<|?_
 have i:=ud z B x
 have j:=ud t (aD v i) d
 have k:=aD b j
 have l:=ub k o
 refine L0<|aO l 0<|Pl 2<|?_
 have e:=aD a k
 have m:=ub e hm
 refine L0<|aO m 0<|Pl 1<|nt<|bk<|sg<|L0<|aO A 0<|Pl 9<|nt<|c1<|sg<|?_
 refine Pl 2<|nt<|rt<|br<|tr<|rr (.func (.func 238) #[] #[.pointer (some ⟨r,0,none⟩)])<|?_
 exact⟨_,_,rfl,by kernel_rfl,e,Bc (c:=3) ⟨by decide,by decide⟩ (al.old hC e) m hne (ub j q) (Ne.symm (nb (al.lt hC) a.size h)) (Ne.symm (nb (am hm) a.size h)) l (Ne.symm (nb (al.lt hC) lr f)) (Ne.symm (nb (am hm) lr f)) (ub i u) (Ne.symm (nb (al.lt hC) (le a.size b.size) d)) (Ne.symm (nb (am hm) (le a.size b.size) d))⟩
theorem tw{g gm:Nat}{C:ak}{w:World}(hC:al w g C)(hm:w.heap[gm]? = some (.cells (mC 4) 30 (0,0)))(hne:g≠gm) : Calls Tryz.prog 204 #[.int .i64 0,.pointer (some ⟨gm,0,none⟩),.pointer (some ⟨g,0,none⟩)] w (jc (fun W=>cz g gm (bZ 125 4 C).1 (bZ 125 4 C).2 W) w):=by
 refine en 67 Tryz.func204 rfl<|sg<|L0<|dv #[.pointer (some ⟨gm,0,none⟩)] fun n D f o a=>L0<|dv #[.pointer (some ⟨g,0,none⟩)] fun p E h q b=>Pl 1<|ng<|Pl 1<|L0<|bH #[.nilFunc] fun r F d s t=>L0<|bX s 0 #[.func (.func 236) #[] #[.pointer (some ⟨p,0,none⟩),.pointer (some ⟨n,0,none⟩)]] fun G u v=>nl<|?_
 refine tn<|sg<|Pl 2<|L0<|bH #[.bool false] fun H I x y z=>L0<|bX y 0 #[.bool true] fun J A B=>nt<|sq<|sg<|?_
 have i:=ud z B x
 have j:=ud t (aD v i) d
 have k:=aD b j
 have l:=ub k o
 refine L0<|aO l 0<|Pl 2<|?_
 have e:=aD a k
 have m:=ub e hm
 refine L0<|aO m 0<|Pl 1<|nt<|bk<|sg<|L0<|aO A 0<|Pl 9<|nt<|c1<|sg<|?_
 refine Pl 2<|nt<|rt<|br<|tr<|rr (.func (.func 238) #[] #[.pointer (some ⟨r,0,none⟩)])<|?_
 exact⟨_,_,rfl,by kernel_rfl,e,Bc (c:=4) ⟨by decide,by decide⟩ (al.old hC e) m hne (ub j q) (Ne.symm (nb (al.lt hC) a.size h)) (Ne.symm (nb (am hm) a.size h)) l (Ne.symm (nb (al.lt hC) lr f)) (Ne.symm (nb (am hm) lr f)) (ub i u) (Ne.symm (nb (al.lt hC) (le a.size b.size) d)) (Ne.symm (nb (am hm) (le a.size b.size) d))⟩
theorem tG{g gm:Nat}{C:ak}{w:World}(hC:al w g C)(hm:w.heap[gm]? = some (.cells (mC 3) 30 (0,0)))(hne:g≠gm) : Calls Tryz.prog 204 #[.int .i64 1,.pointer (some ⟨gm,0,none⟩),.pointer (some ⟨g,0,none⟩)] w (jc (fun W=>cz g gm (cm 3 C).1 (cm 3 C).2 W) w):=by
 refine en 67 Tryz.func204 rfl<|sg<|L0<|dv #[.pointer (some ⟨gm,0,none⟩)] fun d z e m a=>L0<|dv #[.pointer (some ⟨g,0,none⟩)] fun f A h n o=>Pl 1<|ng<|Pl 1<|L0<|bH #[.nilFunc] fun B D p q r=>L0<|bX q 0 #[.func (.func 236) #[] #[.pointer (some ⟨f,0,none⟩),.pointer (some ⟨d,0,none⟩)]] fun E F s=>nl<|?_
 refine tn<|sg<|Pl 2<|L0<|bH #[.bool false] fun G H t u v=>L0<|bX u 0 #[.bool false] fun I x y=>nt<|sq<|sg<|?_
 have i:=ud r (aD s (ud v y t)) p
 have j:=aD o i
 have k:=ub j m
 refine L0<|aO k 0<|Pl 2<|?_
 have b:=aD a j
 have l:=ub b hm
 refine L0<|aO l 0<|Pl 1<|nt<|bk<|sg<|L0<|aO x 0<|Pl 9<|nt<|c0<|sq<|sq<|?_
 refine go<|Pl 3<|nt<|c1<|bf<|c1<|sg<|Pl 2<|nt<|rt<|?_
 refine br<|tr<|rr (.func (.func 239) #[] #[.pointer (some ⟨f,0,none⟩),.pointer (some ⟨d,0,none⟩)])<|?_
 exact⟨_,_,rfl,by kernel_rfl,b,AD (c:=3) ⟨by decide,by decide⟩ (al.old hC b) l hne (ub i n) (Ne.symm (nb (al.lt hC) a.size h)) (Ne.symm (nb (am hm) a.size h)) k (Ne.symm (nb (al.lt hC) lr e)) (Ne.symm (nb (am hm) lr e))⟩
theorem sN{g gm:Nat}{C:ak}{w:World}(hC:al w g C)(hm:w.heap[gm]? = some (.cells (mC 4) 30 (0,0)))(hne:g≠gm) : Calls Tryz.prog 204 #[.int .i64 1,.pointer (some ⟨gm,0,none⟩),.pointer (some ⟨g,0,none⟩)] w (jc (fun W=>cz g gm (cm 4 C).1 (cm 4 C).2 W) w):=by
 refine en 67 Tryz.func204 rfl<|sg<|L0<|dv #[.pointer (some ⟨gm,0,none⟩)] fun d z e m a=>L0<|dv #[.pointer (some ⟨g,0,none⟩)] fun f A h n o=>Pl 1<|ng<|Pl 1<|L0<|bH #[.nilFunc] fun B D p q r=>L0<|bX q 0 #[.func (.func 236) #[] #[.pointer (some ⟨f,0,none⟩),.pointer (some ⟨d,0,none⟩)]] fun E F s=>nl<|?_
 refine tn<|sg<|Pl 2<|L0<|bH #[.bool false] fun G H t u v=>L0<|bX u 0 #[.bool false] fun I x y=>nt<|sq<|sg<|?_
 have i:=ud r (aD s (ud v y t)) p
 have j:=aD o i
 have k:=ub j m
 refine L0<|aO k 0<|Pl 2<|?_
 have b:=aD a j
 have l:=ub b hm
 refine L0<|aO l 0<|Pl 1<|nt<|bk<|sg<|L0<|aO x 0<|Pl 9<|nt<|c0<|sq<|sq<|?_
 refine go<|Pl 3<|nt<|c0<|sg<|Pl 3<|nt<|c1<|bf<|c1<|?_
 refine sg<|Pl 2<|nt<|rt<|br<|tr<|rr (.func (.func 239) #[] #[.pointer (some ⟨f,0,none⟩),.pointer (some ⟨d,0,none⟩)])<|?_
 exact⟨_,_,rfl,by kernel_rfl,b,AD (c:=4) ⟨by decide,by decide⟩ (al.old hC b) l hne (ub i n) (Ne.symm (nb (al.lt hC) a.size h)) (Ne.symm (nb (am hm) a.size h)) k (Ne.symm (nb (al.lt hC) lr e)) (Ne.symm (nb (am hm) lr e))⟩
theorem tq{g gm:Nat}{C:ak}{w:World}(hC:al w g C)(hm:w.heap[gm]? = some (.cells (mC 6) 30 (0,0)))(hne:g≠gm) : Calls Tryz.prog 204 #[.int .i64 0,.pointer (some ⟨gm,0,none⟩),.pointer (some ⟨g,0,none⟩)] w (jc (fun W=>cz g gm (dN 6 C).1 (dN 6 C).2 W) w):=by
 refine en 67 Tryz.func204 rfl<|sg<|L0<|dv #[.pointer (some ⟨gm,0,none⟩)] fun d z e m a=>L0<|dv #[.pointer (some ⟨g,0,none⟩)] fun f A h n o=>Pl 1<|ng<|Pl 1<|L0<|bH #[.nilFunc] fun B D p q r=>L0<|bX q 0 #[.func (.func 236) #[] #[.pointer (some ⟨f,0,none⟩),.pointer (some ⟨d,0,none⟩)]] fun E F s=>nl<|?_
 refine tn<|sg<|Pl 2<|L0<|bH #[.bool false] fun G H t u v=>L0<|bX u 0 #[.bool true] fun I x y=>nt<|sq<|sg<|?_
 have i:=ud r (aD s (ud v y t)) p
 have j:=aD o i
 have k:=ub j m
 refine L0<|aO k 0<|Pl 2<|?_
 have b:=aD a j
 have l:=ub b hm
 refine L0<|aO l 0<|Pl 1<|nt<|bk<|sg<|L0<|aO x 0<|Pl 9<|nt<|c0<|sq<|sq<|?_
 refine go<|Pl 3<|nt<|c0<|sg<|Pl 3<|nt<|c0<|go<|Pl 7<|nl<|?_
 refine tn<|c0<|sg<|Pl 3<|nt<|c1<|sg<|Pl 2<|nt<|rt<|?_
 refine br<|tr<|rr (.func (.func 240) #[] #[.pointer (some ⟨f,0,none⟩),.pointer (some ⟨d,0,none⟩)])<|?_
 exact⟨_,_,rfl,by kernel_rfl,b,Bf (c:=6) ⟨by decide,by decide⟩ (al.old hC b) l hne (ub i n) (Ne.symm (nb (al.lt hC) a.size h)) (Ne.symm (nb (am hm) a.size h)) k (Ne.symm (nb (al.lt hC) lr e)) (Ne.symm (nb (am hm) lr e))⟩
theorem sF{g gm:Nat}{C:ak}{w:World}(hC:al w g C)(hm:w.heap[gm]? = some (.cells (mC 6) 30 (0,0)))(hne:g≠gm) : Calls Tryz.prog 204 #[.int .i64 1,.pointer (some ⟨gm,0,none⟩),.pointer (some ⟨g,0,none⟩)] w (jc (fun W=>cz g gm (dN 6 C).1 (dN 6 C).2 W) w):=by
 refine en 67 Tryz.func204 rfl<|sg<|L0<|dv #[.pointer (some ⟨gm,0,none⟩)] fun d z e m a=>L0<|dv #[.pointer (some ⟨g,0,none⟩)] fun f A h n o=>Pl 1<|ng<|Pl 1<|L0<|bH #[.nilFunc] fun B D p q r=>L0<|bX q 0 #[.func (.func 236) #[] #[.pointer (some ⟨f,0,none⟩),.pointer (some ⟨d,0,none⟩)]] fun E F s=>nl<|?_
 refine tn<|sg<|Pl 2<|L0<|bH #[.bool false] fun G H t u v=>L0<|bX u 0 #[.bool false] fun I x y=>nt<|sq<|sg<|?_
 have i:=ud r (aD s (ud v y t)) p
 have j:=aD o i
 have k:=ub j m
 refine L0<|aO k 0<|Pl 2<|?_
 have b:=aD a j
 have l:=ub b hm
 refine L0<|aO l 0<|Pl 1<|nt<|bk<|sg<|L0<|aO x 0<|Pl 9<|nt<|c0<|sq<|sq<|?_
 refine go<|Pl 3<|nt<|c0<|sg<|Pl 3<|nt<|c0<|go<|Pl 7<|nl<|?_
 refine tn<|c0<|sg<|Pl 3<|nt<|c1<|sg<|Pl 2<|nt<|rt<|?_
 refine br<|tr<|rr (.func (.func 240) #[] #[.pointer (some ⟨f,0,none⟩),.pointer (some ⟨d,0,none⟩)])<|?_
 exact⟨_,_,rfl,by kernel_rfl,b,Bf (c:=6) ⟨by decide,by decide⟩ (al.old hC b) l hne (ub i n) (Ne.symm (nb (al.lt hC) a.size h)) (Ne.symm (nb (am hm) a.size h)) k (Ne.symm (nb (al.lt hC) lr e)) (Ne.symm (nb (am hm) lr e))⟩
theorem qh{g gm:Nat}{C:ak}{w:World}(hC:al w g C)(hm:w.heap[gm]? = some (.cells (mC 16) 30 (0,0)))(hne:g≠gm) : Calls Tryz.prog 204 #[.int .i64 0,.pointer (some ⟨gm,0,none⟩),.pointer (some ⟨g,0,none⟩)] w (jc (fun W=>cz g gm (d8 16 C).1 (d8 16 C).2 W) w):=by
 refine en 67 Tryz.func204 rfl<|sg<|L0<|dv #[.pointer (some ⟨gm,0,none⟩)] fun j E k t a=>L0<|dv #[.pointer (some ⟨g,0,none⟩)] fun l F m u b=>Pl 1<|ng<|Pl 1<|L0<|bH #[.nilFunc] fun v G d x e=>L0<|bX x 0 #[.func (.func 236) #[] #[.pointer (some ⟨l,0,none⟩),.pointer (some ⟨j,0,none⟩)]] fun H y f=>nl<|?_
 refine tn<|sg<|Pl 2<|L0<|bH #[.bool false] fun z I h A B=>L0<|bX A 0 #[.bool true] fun J n D=>nt<|sq<|sg<|?_
 have o:=ud B D h
 have p:=ud e (aD f o) d
 have q:=aD b p
 have r:=ub q t
 refine L0<|aO r 0<|Pl 2<|?_
 have i:=aD a q
 have s:=ub i hm
 refine L0<|aO s 0<|Pl 1<|nt<|bk<|sg<|L0<|aO n 0<|Pl 9<|nt<|c0<|sq<|sq<|?_
 refine go<|Pl 3<|nt<|c0<|sg<|Pl 3<|nt<|c0<|go<|Pl 7<|nl<|?_
 refine tn<|c0<|sg<|Pl 3<|nt<|c0<|sg<|Pl 3<|nt<|c1<|?_
 refine sg<|Pl 2<|nt<|rt<|br<|tr<|rr (.func (.func 241) #[] #[.pointer (some ⟨v,0,none⟩),.pointer (some ⟨z,0,none⟩),.pointer (some ⟨l,0,none⟩),.pointer (some ⟨j,0,none⟩)])<|?_
 exact⟨_,_,rfl,by kernel_rfl,i,AG (c:=16) ⟨by decide,by decide⟩ (al.old hC i) s hne (ub p u) (Ne.symm (nb (al.lt hC) a.size m)) (Ne.symm (nb (am hm) a.size m)) r (Ne.symm (nb (al.lt hC) lr k)) (Ne.symm (nb (am hm) lr k)) (ub o y) (Ne.symm (nb (al.lt hC) (le a.size b.size) d)) (Ne.symm (nb (am hm) (le a.size b.size) d)) n (Ne.symm (nb (al.lt hC) (le (le (le a.size b.size) e.size) f.size) h)) (Ne.symm (nb (am hm) (le (le (le a.size b.size) e.size) f.size) h)) rfl⟩
theorem qF{g gm:Nat}{C:ak}{w:World}(hC:al w g C)(hm:w.heap[gm]? = some (.cells (mC 16) 30 (0,0)))(hne:g≠gm) : Calls Tryz.prog 204 #[.int .i64 1,.pointer (some ⟨gm,0,none⟩),.pointer (some ⟨g,0,none⟩)] w (jc (fun W=>cz g gm (bZ 123 16 C).1 (bZ 123 16 C).2 W) w):=by
 refine en 67 Tryz.func204 rfl<|sg<|L0<|dv #[.pointer (some ⟨gm,0,none⟩)] fun j E k t a=>L0<|dv #[.pointer (some ⟨g,0,none⟩)] fun l F m u b=>Pl 1<|ng<|Pl 1<|L0<|bH #[.nilFunc] fun v G d x e=>L0<|bX x 0 #[.func (.func 236) #[] #[.pointer (some ⟨l,0,none⟩),.pointer (some ⟨j,0,none⟩)]] fun H y f=>nl<|?_
 refine tn<|sg<|Pl 2<|L0<|bH #[.bool false] fun z I h A B=>L0<|bX A 0 #[.bool false] fun J n D=>nt<|sq<|sg<|?_
 have o:=ud B D h
 have p:=ud e (aD f o) d
 have q:=aD b p
 have r:=ub q t
 refine L0<|aO r 0<|Pl 2<|?_
 have i:=aD a q
 have s:=ub i hm
 refine L0<|aO s 0<|Pl 1<|nt<|bk<|sg<|L0<|aO n 0<|Pl 9<|nt<|c0<|sq<|sq<|?_
 refine go<|Pl 3<|nt<|c0<|sg<|Pl 3<|nt<|c0<|go<|Pl 7<|nl<|?_
 refine tn<|c0<|sg<|Pl 3<|nt<|c0<|sg<|Pl 3<|nt<|c1<|?_
 refine sg<|Pl 2<|nt<|rt<|br<|tr<|rr (.func (.func 241) #[] #[.pointer (some ⟨v,0,none⟩),.pointer (some ⟨z,0,none⟩),.pointer (some ⟨l,0,none⟩),.pointer (some ⟨j,0,none⟩)])<|?_
 exact⟨_,_,rfl,by kernel_rfl,i,AR (c:=16) ⟨by decide,by decide⟩ (al.old hC i) s hne (ub p u) (Ne.symm (nb (al.lt hC) a.size m)) (Ne.symm (nb (am hm) a.size m)) r (Ne.symm (nb (al.lt hC) lr k)) (Ne.symm (nb (am hm) lr k)) (ub o y) (Ne.symm (nb (al.lt hC) (le a.size b.size) d)) (Ne.symm (nb (am hm) (le a.size b.size) d)) n (Ne.symm (nb (al.lt hC) (le (le (le a.size b.size) e.size) f.size) h)) (Ne.symm (nb (am hm) (le (le (le a.size b.size) e.size) f.size) h)) rfl⟩
theorem rh{g gm:Nat}{C:ak}{w:World}(hC:al w g C)(hm:w.heap[gm]? = some (.cells (mC 22) 30 (0,0)))(hne:g≠gm) : Calls Tryz.prog 204 #[.int .i64 0,.pointer (some ⟨gm,0,none⟩),.pointer (some ⟨g,0,none⟩)] w (jc (fun W=>cz g gm (cS 22 C).1 (cS 22 C).2 W) w):=by
 refine en 67 Tryz.func204 rfl<|sg<|L0<|dv #[.pointer (some ⟨gm,0,none⟩)] fun d z e m a=>L0<|dv #[.pointer (some ⟨g,0,none⟩)] fun f A h n o=>Pl 1<|ng<|Pl 1<|L0<|bH #[.nilFunc] fun B D p q r=>L0<|bX q 0 #[.func (.func 236) #[] #[.pointer (some ⟨f,0,none⟩),.pointer (some ⟨d,0,none⟩)]] fun E F s=>nl<|?_
 refine tn<|sg<|Pl 2<|L0<|bH #[.bool false] fun G H t u v=>L0<|bX u 0 #[.bool true] fun I x y=>nt<|sq<|sg<|?_
 have i:=ud r (aD s (ud v y t)) p
 have j:=aD o i
 have k:=ub j m
 refine L0<|aO k 0<|Pl 2<|?_
 have b:=aD a j
 have l:=ub b hm
 refine L0<|aO l 0<|Pl 1<|nt<|bk<|sg<|L0<|aO x 0<|Pl 9<|nt<|c0<|sq<|sq<|?_
 refine go<|Pl 3<|nt<|c0<|sg<|Pl 3<|nt<|c0<|go<|Pl 7<|nl<|?_
 refine tn<|c0<|sg<|Pl 3<|nt<|c0<|sg<|Pl 3<|nt<|c0<|?_
 refine sg<|Pl 3<|nt<|c1<|sg<|Pl 2<|nt<|rt<|br<|tr<|?_
 refine rr (.func (.func 243) #[] #[.pointer (some ⟨f,0,none⟩),.pointer (some ⟨d,0,none⟩)])<|?_
 exact⟨_,_,rfl,by kernel_rfl,b,Bk (c:=22) ⟨by decide,by decide⟩ (al.old hC b) l hne (ub i n) (Ne.symm (nb (al.lt hC) a.size h)) (Ne.symm (nb (am hm) a.size h)) k (Ne.symm (nb (al.lt hC) lr e)) (Ne.symm (nb (am hm) lr e))⟩
theorem qY{g gm:Nat}{C:ak}{w:World}(hC:al w g C)(hm:w.heap[gm]? = some (.cells (mC 22) 30 (0,0)))(hne:g≠gm) : Calls Tryz.prog 204 #[.int .i64 1,.pointer (some ⟨gm,0,none⟩),.pointer (some ⟨g,0,none⟩)] w (jc (fun W=>cz g gm (cS 22 C).1 (cS 22 C).2 W) w):=by
 refine en 67 Tryz.func204 rfl<|sg<|L0<|dv #[.pointer (some ⟨gm,0,none⟩)] fun d z e m a=>L0<|dv #[.pointer (some ⟨g,0,none⟩)] fun f A h n o=>Pl 1<|ng<|Pl 1<|L0<|bH #[.nilFunc] fun B D p q r=>L0<|bX q 0 #[.func (.func 236) #[] #[.pointer (some ⟨f,0,none⟩),.pointer (some ⟨d,0,none⟩)]] fun E F s=>nl<|?_
 refine tn<|sg<|Pl 2<|L0<|bH #[.bool false] fun G H t u v=>L0<|bX u 0 #[.bool false] fun I x y=>nt<|sq<|sg<|?_
 have i:=ud r (aD s (ud v y t)) p
 have j:=aD o i
 have k:=ub j m
 refine L0<|aO k 0<|Pl 2<|?_
 have b:=aD a j
 have l:=ub b hm
 refine L0<|aO l 0<|Pl 1<|nt<|bk<|sg<|L0<|aO x 0<|Pl 9<|nt<|c0<|sq<|sq<|?_
 refine go<|Pl 3<|nt<|c0<|sg<|Pl 3<|nt<|c0<|go<|Pl 7<|nl<|?_
 refine tn<|c0<|sg<|Pl 3<|nt<|c0<|sg<|Pl 3<|nt<|c0<|?_
 refine sg<|Pl 3<|nt<|c1<|sg<|Pl 2<|nt<|rt<|br<|tr<|?_
 refine rr (.func (.func 243) #[] #[.pointer (some ⟨f,0,none⟩),.pointer (some ⟨d,0,none⟩)])<|?_
 exact⟨_,_,rfl,by kernel_rfl,b,Bk (c:=22) ⟨by decide,by decide⟩ (al.old hC b) l hne (ub i n) (Ne.symm (nb (al.lt hC) a.size h)) (Ne.symm (nb (am hm) a.size h)) k (Ne.symm (nb (al.lt hC) lr e)) (Ne.symm (nb (am hm) lr e))⟩
theorem qu{g gm:Nat}{C:ak}{w:World}(hC:al w g C)(hm:w.heap[gm]? = some (.cells (mC 23) 30 (0,0)))(hne:g≠gm) : Calls Tryz.prog 204 #[.int .i64 0,.pointer (some ⟨gm,0,none⟩),.pointer (some ⟨g,0,none⟩)] w (jc (fun W=>cz g gm (d9 23 C).1 (d9 23 C).2 W) w):=by
 refine en 67 Tryz.func204 rfl<|sg<|L0<|dv #[.pointer (some ⟨gm,0,none⟩)] fun f D h q a=>L0<|dv #[.pointer (some ⟨g,0,none⟩)] fun i E j r b=>Pl 1<|ng<|Pl 1<|L0<|bH #[.nilFunc] fun s F d t u=>L0<|bX t 0 #[.func (.func 236) #[] #[.pointer (some ⟨i,0,none⟩),.pointer (some ⟨f,0,none⟩)]] fun G v x=>nl<|?_
 refine tn<|sg<|Pl 2<|L0<|bH #[.bool false] fun H I y z A=>L0<|bX z 0 #[.bool true] fun J k B=>nt<|sq<|sg<|?_
 have l:=ud A B y
 have m:=ud u (aD x l) d
 have n:=aD b m
 have o:=ub n q
 refine L0<|aO o 0<|Pl 2<|?_
 have e:=aD a n
 have p:=ub e hm
 refine L0<|aO p 0<|Pl 1<|nt<|bk<|sg<|L0<|aO k 0<|Pl 9<|nt<|c0<|sq<|sq<|?_
 refine go<|Pl 3<|nt<|c0<|sg<|Pl 3<|nt<|c0<|go<|Pl 3<|L1<|aO k 0<|?_
 refine Pl 3<|nt<|c0<|sg<|Pl 3<|nt<|c0<|sg<|Pl 3<|nl<|?_
 refine tn<|c0<|sg<|Pl 3<|nt<|c0<|sg<|Pl 3<|nt<|c1<|?_
 refine sg<|Pl 2<|nt<|rt<|br<|tr<|rr (.func (.func 244) #[] #[.pointer (some ⟨s,0,none⟩),.pointer (some ⟨i,0,none⟩),.pointer (some ⟨f,0,none⟩)])<|?_
 exact⟨_,_,rfl,by kernel_rfl,e,Bq (c:=23) ⟨by decide,by decide⟩ (al.old hC e) p hne (ub m r) (Ne.symm (nb (al.lt hC) a.size j)) (Ne.symm (nb (am hm) a.size j)) o (Ne.symm (nb (al.lt hC) lr h)) (Ne.symm (nb (am hm) lr h)) (ub l v) (Ne.symm (nb (al.lt hC) (le a.size b.size) d)) (Ne.symm (nb (am hm) (le a.size b.size) d))⟩
theorem qy{g gm:Nat}{C:ak}{w:World}(hC:al w g C)(hm:w.heap[gm]? = some (.cells (mC 23) 30 (0,0)))(hne:g≠gm) : Calls Tryz.prog 204 #[.int .i64 1,.pointer (some ⟨gm,0,none⟩),.pointer (some ⟨g,0,none⟩)] w (jc (fun W=>cz g gm (cm 23 C).1 (cm 23 C).2 W) w):=by
 refine en 67 Tryz.func204 rfl<|sg<|L0<|dv #[.pointer (some ⟨gm,0,none⟩)] fun d z e n a=>L0<|dv #[.pointer (some ⟨g,0,none⟩)] fun f A h o p=>Pl 1<|ng<|Pl 1<|L0<|bH #[.nilFunc] fun B D q r s=>L0<|bX r 0 #[.func (.func 236) #[] #[.pointer (some ⟨f,0,none⟩),.pointer (some ⟨d,0,none⟩)]] fun E F t=>nl<|?_
 refine tn<|sg<|Pl 2<|L0<|bH #[.bool false] fun G H u v x=>L0<|bX v 0 #[.bool false] fun I i y=>nt<|sq<|sg<|?_
 have j:=ud s (aD t (ud x y u)) q
 have k:=aD p j
 have l:=ub k n
 refine L0<|aO l 0<|Pl 2<|?_
 have b:=aD a k
 have m:=ub b hm
 refine L0<|aO m 0<|Pl 1<|nt<|bk<|sg<|L0<|aO i 0<|Pl 9<|nt<|c0<|sq<|sq<|?_
 refine go<|Pl 3<|nt<|c0<|sg<|Pl 3<|nt<|c0<|go<|Pl 3<|L1<|aO i 0<|?_
 refine Pl 3<|nt<|c1<|sg<|Pl 2<|nt<|rt<|br<|tr<|rr (.func (.func 239) #[] #[.pointer (some ⟨f,0,none⟩),.pointer (some ⟨d,0,none⟩)])<|?_
 exact⟨_,_,rfl,by kernel_rfl,b,AD (c:=23) ⟨by decide,by decide⟩ (al.old hC b) m hne (ub j o) (Ne.symm (nb (al.lt hC) a.size h)) (Ne.symm (nb (am hm) a.size h)) l (Ne.symm (nb (al.lt hC) lr e)) (Ne.symm (nb (am hm) lr e))⟩
theorem qJ{g gm:Nat}{C:ak}{w:World}(hC:al w g C)(hm:w.heap[gm]? = some (.cells (mC 24) 30 (0,0)))(hne:g≠gm) : Calls Tryz.prog 204 #[.int .i64 0,.pointer (some ⟨gm,0,none⟩),.pointer (some ⟨g,0,none⟩)] w (jc (fun W=>cz g gm (d7 24 C).1 (d7 24 C).2 W) w):=by
 refine en 67 Tryz.func204 rfl<|sg<|L0<|dv #[.pointer (some ⟨gm,0,none⟩)] fun d z e n a=>L0<|dv #[.pointer (some ⟨g,0,none⟩)] fun f A h o p=>Pl 1<|ng<|Pl 1<|L0<|bH #[.nilFunc] fun B D q r s=>L0<|bX r 0 #[.func (.func 236) #[] #[.pointer (some ⟨f,0,none⟩),.pointer (some ⟨d,0,none⟩)]] fun E F t=>nl<|?_
 refine tn<|sg<|Pl 2<|L0<|bH #[.bool false] fun G H u v x=>L0<|bX v 0 #[.bool true] fun I i y=>nt<|sq<|sg<|?_
 have j:=ud s (aD t (ud x y u)) q
 have k:=aD p j
 have l:=ub k n
 refine L0<|aO l 0<|Pl 2<|?_
 have b:=aD a k
 have m:=ub b hm
 refine L0<|aO m 0<|Pl 1<|nt<|bk<|sg<|L0<|aO i 0<|Pl 9<|nt<|c0<|sq<|sq<|?_
 refine go<|Pl 3<|nt<|c0<|sg<|Pl 3<|nt<|c0<|go<|Pl 7<|nl<|?_
 refine tn<|c0<|sg<|Pl 3<|nt<|c0<|sg<|Pl 3<|nt<|c0<|?_
 refine sg<|Pl 3<|nt<|c0<|sg<|Pl 3<|nt<|c0<|sg<|?_
 refine Pl 3<|L1<|aO i 0<|Pl 2<|nt<|c1<|sg<|Pl 2<|nt<|rt<|br<|tr<|?_
 refine rr (.func (.func 245) #[] #[.pointer (some ⟨f,0,none⟩),.pointer (some ⟨d,0,none⟩)])<|?_
 exact⟨_,_,rfl,by kernel_rfl,b,Br (c:=24) ⟨by decide,by decide⟩ (al.old hC b) m hne (ub j o) (Ne.symm (nb (al.lt hC) a.size h)) (Ne.symm (nb (am hm) a.size h)) l (Ne.symm (nb (al.lt hC) lr e)) (Ne.symm (nb (am hm) lr e))⟩
theorem rb{g gm:Nat}{C:ak}{w:World}(hC:al w g C)(hm:w.heap[gm]? = some (.cells (mC 24) 30 (0,0)))(hne:g≠gm) : Calls Tryz.prog 204 #[.int .i64 1,.pointer (some ⟨gm,0,none⟩),.pointer (some ⟨g,0,none⟩)] w (jc (fun W=>cz g gm (kN 24 C).1 (kN 24 C).2 W) w):=by
 refine en 67 Tryz.func204 rfl<|sg<|L0<|dv #[.pointer (some ⟨gm,0,none⟩)] fun d z e n a=>L0<|dv #[.pointer (some ⟨g,0,none⟩)] fun f A h o p=>Pl 1<|ng<|Pl 1<|L0<|bH #[.nilFunc] fun B D q r s=>L0<|bX r 0 #[.func (.func 236) #[] #[.pointer (some ⟨f,0,none⟩),.pointer (some ⟨d,0,none⟩)]] fun E F t=>nl<|?_
 refine tn<|sg<|Pl 2<|L0<|bH #[.bool false] fun G H u v x=>L0<|bX v 0 #[.bool false] fun I i y=>nt<|sq<|sg<|?_
 have j:=ud s (aD t (ud x y u)) q
 have k:=aD p j
 have l:=ub k n
 refine L0<|aO l 0<|Pl 2<|?_
 have b:=aD a k
 have m:=ub b hm
 refine L0<|aO m 0<|Pl 1<|nt<|bk<|sg<|L0<|aO i 0<|Pl 9<|nt<|c0<|sq<|sq<|?_
 refine go<|Pl 3<|nt<|c0<|sg<|Pl 3<|nt<|c0<|go<|Pl 7<|nl<|?_
 refine tn<|c0<|sg<|Pl 3<|nt<|c0<|sg<|Pl 3<|nt<|c0<|?_
 refine sg<|Pl 3<|nt<|c0<|sg<|Pl 3<|nt<|c0<|sg<|?_
 refine Pl 3<|L1<|aO i 0<|Pl 2<|nt<|c0<|sg<|Pl 3<|nt<|c1<|sg<|?_
 refine Pl 2<|nt<|rt<|br<|tr<|rr (.func (.func 246) #[] #[.pointer (some ⟨f,0,none⟩),.pointer (some ⟨d,0,none⟩)])<|?_
 exact⟨_,_,rfl,by kernel_rfl,b,Bz (c:=24) ⟨by decide,by decide⟩ (al.old hC b) m hne (ub j o) (Ne.symm (nb (al.lt hC) a.size h)) (Ne.symm (nb (am hm) a.size h)) l (Ne.symm (nb (al.lt hC) lr e)) (Ne.symm (nb (am hm) lr e))⟩
theorem qz{c:Int}{g gm:Nat}{C:ak}{w:World}(hC:al w g C)(hm:w.heap[gm]? = some (.cells (mC c) 30 (0,0)))(hne:g≠gm)(k3:(c==3)=false)(k4:(c==4)=false)(k6:(c==6)=false)(f:(c==16)=false)(h:(c==22)=false)(a:(c==23)=false)(b:(c==24)=false) : Calls Tryz.prog 204 #[.int .i64 0,.pointer (some ⟨gm,0,none⟩),.pointer (some ⟨g,0,none⟩)] w (cG .nilFunc w):=by
 refine en 67 Tryz.func204 rfl<|sg<|L0<|dv #[.pointer (some ⟨gm,0,none⟩)] fun i x y j k=>L0<|dv #[.pointer (some ⟨g,0,none⟩)] fun l z A B m=>Pl 1<|ng<|Pl 1<|L0<|bH #[.nilFunc] fun D E n o p=>L0<|bX o 0 #[.func (.func 236) #[] #[.pointer (some ⟨l,0,none⟩),.pointer (some ⟨i,0,none⟩)]] fun F G q=>nl<|?_
 refine tn<|sg<|Pl 2<|L0<|bH #[.bool false] fun H I r s t=>L0<|bX s 0 #[.bool true] fun J u v=>nt<|sq<|sg<|?_
 have d:=aD m (ud p (aD q (ud t v r)) n)
 refine L0<|aO (ub d j) 0<|Pl 2<|?_
 have e:=aD k d
 refine L0<|aO (ub e hm) 0<|Pl 1<|nt<|bk<|sg<|L0<|aO u 0<|Pl 4<|sy 22 k3<|Pl 5<|nt<|cf k4<|?_
 refine sq<|sg<|Pl 3<|nt<|cf k3<|sg<|Pl 3<|nt<|cf k4<|go<|?_
 refine Pl 3<|sy 35 a<|Pl 4<|nt<|c0<|sg<|Pl 3<|nt<|cf k6<|sg<|?_
 refine Pl 3<|nt<|cf f<|sg<|Pl 3<|nt<|cf h<|sg<|Pl 3<|nl<|?_
 refine tn<|cf a<|sg<|Pl 3<|sy 59 b<|Pl 3<|nt<|c0<|sg<|Pl 3<|nl<|?_
 refine tn<|cf b<|sk<|bn<|tn<|sg<|Pl 1<|nt<|rt<|rr (.nilFunc)<|?_
 exact⟨rfl,e⟩
theorem qD{c:Int}{g gm:Nat}{C:ak}{w:World}(hC:al w g C)(hm:w.heap[gm]? = some (.cells (mC c) 30 (0,0)))(hne:g≠gm)(k3:(c==3)=false)(k4:(c==4)=false)(k6:(c==6)=false)(f:(c==16)=false)(h:(c==22)=false)(a:(c==23)=false)(b:(c==24)=false) : Calls Tryz.prog 204 #[.int .i64 1,.pointer (some ⟨gm,0,none⟩),.pointer (some ⟨g,0,none⟩)] w (cG .nilFunc w):=by
 refine en 67 Tryz.func204 rfl<|sg<|L0<|dv #[.pointer (some ⟨gm,0,none⟩)] fun i x y j k=>L0<|dv #[.pointer (some ⟨g,0,none⟩)] fun l z A B m=>Pl 1<|ng<|Pl 1<|L0<|bH #[.nilFunc] fun D E n o p=>L0<|bX o 0 #[.func (.func 236) #[] #[.pointer (some ⟨l,0,none⟩),.pointer (some ⟨i,0,none⟩)]] fun F G q=>nl<|?_
 refine tn<|sg<|Pl 2<|L0<|bH #[.bool false] fun H I r s t=>L0<|bX s 0 #[.bool false] fun J u v=>nt<|sq<|sg<|?_
 have d:=aD m (ud p (aD q (ud t v r)) n)
 refine L0<|aO (ub d j) 0<|Pl 2<|?_
 have e:=aD k d
 refine L0<|aO (ub e hm) 0<|Pl 1<|nt<|bk<|sg<|L0<|aO u 0<|Pl 9<|nt<|c0<|sq<|sq<|?_
 refine go<|Pl 3<|nt<|cf k3<|sg<|Pl 3<|nt<|cf k4<|go<|Pl 3<|sy 35 a<|?_
 refine Pl 4<|nt<|c0<|sg<|Pl 3<|nt<|cf k6<|sg<|Pl 3<|nl<|?_
 refine tn<|cf f<|sg<|Pl 3<|nt<|cf h<|sg<|Pl 3<|nt<|cf a<|?_
 refine sg<|Pl 3<|sy 59 b<|Pl 3<|nt<|c0<|sg<|Pl 3<|nt<|cf b<|?_
 refine sk<|bn<|tn<|sg<|Pl 1<|nt<|rt<|rr (.nilFunc)<|?_
 exact⟨rfl,e⟩
theorem ld{dir c:Int}{r:ak × aP}{g gm:Nat}{C:ak}{w:World}(hC:al w g C)(hm:w.heap[gm]? = some (.cells (mC c) 30 (0,0)))(hne:g≠gm)(hd:dir=0∨dir=1)(h:aM dir c C=some r) : Calls Tryz.prog 204 #[.int .i64 dir,.pointer (some ⟨gm,0,none⟩),.pointer (some ⟨g,0,none⟩)] w (jc (fun W=>cz g gm r.1 r.2 W) w):=by
  by_cases h3:c=3
  · subst h3
    rcases hd with rfl|rfl
    · obtain rfl:bZ 125 3 C=r:=Option.some.inj h
      exact sY hC hm hne
    · obtain rfl:cm 3 C=r:=Option.some.inj h
      exact tG hC hm hne
  by_cases h4:c=4
  · subst h4
    rcases hd with rfl|rfl
    · obtain rfl:bZ 125 4 C=r:=Option.some.inj h
      exact tw hC hm hne
    · obtain rfl:cm 4 C=r:=Option.some.inj h
      exact sN hC hm hne
  by_cases h6:c=6
  · subst h6
    rcases hd with rfl|rfl
    · obtain rfl:dN 6 C=r:=Option.some.inj h
      exact tq hC hm hne
    · obtain rfl:dN 6 C=r:=Option.some.inj h
      exact sF hC hm hne
  by_cases a:c=16
  · subst a
    rcases hd with rfl|rfl
    · obtain rfl:d8 16 C=r:=Option.some.inj h
      exact qh hC hm hne
    · obtain rfl:bZ 123 16 C=r:=Option.some.inj h
      exact qF hC hm hne
  by_cases b:c=22
  · subst b
    rcases hd with rfl|rfl
    · obtain rfl:cS 22 C=r:=Option.some.inj h
      exact rh hC hm hne
    · obtain rfl:cS 22 C=r:=Option.some.inj h
      exact qY hC hm hne
  by_cases d:c=23
  · subst d
    rcases hd with rfl|rfl
    · obtain rfl:d9 23 C=r:=Option.some.inj h
      exact qu hC hm hne
    · obtain rfl:cm 23 C=r:=Option.some.inj h
      exact qy hC hm hne
  by_cases e:c=24
  · subst e
    rcases hd with rfl|rfl
    · obtain rfl:d7 24 C=r:=Option.some.inj h
      exact qJ hC hm hne
    · obtain rfl:kN 24 C=r:=Option.some.inj h
      exact rb hC hm hne
  exfalso
  unfold aM at h
  simp[h3,h4,h6,a,b,d,e] at h
theorem lB{dir c:Int}{g gm:Nat}{C:ak}{w:World}(hC:al w g C)(hm:w.heap[gm]? = some (.cells (mC c) 30 (0,0)))(hne:g≠gm)(hd:dir=0∨dir=1)(h:aM dir c C=none) : Calls Tryz.prog 204 #[.int .i64 dir,.pointer (some ⟨gm,0,none⟩),.pointer (some ⟨g,0,none⟩)] w (cG .nilFunc w):=by
  have k3:(c==3)=false:=by
    cases hk:(c==3)
    · rfl
    · obtain rfl:c=3:=by simpa using hk
      rcases hd with rfl|rfl<;>cases h
  have k4:(c==4)=false:=by
    cases hk:(c==4)
    · rfl
    · obtain rfl:c=4:=by simpa using hk
      rcases hd with rfl|rfl<;>cases h
  have k6:(c==6)=false:=by
    cases hk:(c==6)
    · rfl
    · obtain rfl:c=6:=by simpa using hk
      rcases hd with rfl|rfl<;>cases h
  have a:(c==16)=false:=by
    cases hk:(c==16)
    · rfl
    · obtain rfl:c=16:=by simpa using hk
      rcases hd with rfl|rfl<;>cases h
  have b:(c==22)=false:=by
    cases hk:(c==22)
    · rfl
    · obtain rfl:c=22:=by simpa using hk
      rcases hd with rfl|rfl<;>cases h
  have d:(c==23)=false:=by
    cases hk:(c==23)
    · rfl
    · obtain rfl:c=23:=by simpa using hk
      rcases hd with rfl|rfl<;>cases h
  have e:(c==24)=false:=by
    cases hk:(c==24)
    · rfl
    · obtain rfl:c=24:=by simpa using hk
      rcases hd with rfl|rfl<;>cases h
  rcases hd with rfl|rfl
  · exact qz hC hm hne k3 k4 k6 a b d e
  · exact qD hC hm hne k3 k4 k6 a b d e
open Go.RowKit
theorem nR{m:Md}{A:Option Addr}{cp:Nat}{b:List Int}{w:World}{c:Int}(hcode:B8 c)(hsl:b9 m w (.slice A b.length cp) b)(hb:b.length≤1048576) :
    Calls Tryz.prog 140 #[.int .i64 0,.int .u8 c,.slice A b.length cp] w (dX (ai aM 0 c b) w):=by
 obtain⟨hcode1,hcode2⟩:=hcode
 have hln:(b.length:Int)≤1048576:=by omega
 refine en 40 Tryz.func140 rfl<|sg<|L0<|bH mZ fun U V k i v=>Pl 1<|nt<|sq<|sg<|Pl 6<|nt<|c0<|?_
 refine bf<|sg<|Pl 2<|L0<|bH mZ fun W X g l K=>L0<|b7 l (mC c) fun Y x n=>ng<|Pl 1<|?_
 have h:=ud K n g
 have o:=aD v h
 refine L0<|Oc<|e3 (ec (b9.old hsl o) (by omega)) fun Z a0 d y a=>Pl 1<|ng<|Pl 2<|?_
 have z:=aD o a
 refine wo (aM 0 c ⟨b,false,0⟩) (fun hr=>?_) (fun r hr=>?_)
 refine L0<|Oc<|m1 (lB (dir:=0) (c:=c) y (ub a x) (Ne.symm (nb (am l) n.size d)) (Or.inl rfl) hr) fun a1 B=>Pl 1<|nt<|sq<|sg<|Pl 2<|nt<|c1<|sg<|Pl 1<|?_
 refine L0<|b7 (ub (aD h (aD a B)) i) mZ fun a2 L M=>Pl 1<|nt<|rt<|tr<|bJ L (.int .i64 4)<|?_
 have hs:ai aM 0 c b=(aP.zero,4):=by
   unfold ai
   (try simp only[bs,if_true,if_false,decide_true,decide_false,eq_self,true_or,or_true,or_false,false_or,if_true,if_false,dE,dC,dD,dF,reduceIte,hr])
   all_goals rfl
 rw[hs]
 exact cA (ud z (uz B M) k)
 have C:=nb (am l) n.size d
 refine L0<|Oc<|pW (ld (dir:=0) (c:=c) y (ub a x) (Ne.symm C) (Or.inl rfl) hr) fun N D a3 O E hcall51=>Pl 1<|nt<|sq<|sg<|Pl 2<|nt<|c0<|bf<|sq<|?_
 refine go<|Pl 1<|L0<|i2 (f:=N) (args:=D) (hf:=O) #[] D<|m3 (hcall51) fun a4 F P G=>?_
 obtain⟨Q,j,p⟩:=P
 refine ng<|Pl 1<|L0<|Oc<|m2 (ck F) fun a5 H q=>nt<|sq<|sg<|Pl 1<|L0<|Oc<|mq (bC H)<|?_
 have a6:=al.len H
 refine Pl 1<|ng<|Pl 2<|nt<|?_
 have s:=uz E (u1 G q im)
 have I:=ut z s (ac (ni o.size d) (ac (ni v.size g) ay))
 have hs:ai aM 0 c b=b6 r.2 r.1:=by
   unfold ai
   (try simp only[bs,if_true,if_false,decide_true,decide_false,eq_self,true_or,or_true,or_false,false_or,if_true,if_false,dE,dC,dD,dF,reduceIte,hr])
   all_goals rfl
 refine cb ((r.1.endC.e != 0)) (fun t=>?_) (fun t=>?_)
 have u:=ax t
 refine sg<|Pl 2<|?_
 refine L0<|b7 (ub (ud h (ud a s d) g) i) mZ fun a7 R S=>Pl 1<|nt<|rt<|tr<|bJ R (.int .i64 r.1.endC.e)<|?_
 rw[hs]
 exact bz u (ud I S k)
 have u:=ag t
 refine bf<|sg<|?_
 refine L0<|bO (hz:=(by rw[j.2];exact aI)) (aW q C j.1)<|?_
 refine L0<|b7 (hz:=(by rw[j.2];exact aI)) (hv:=p.size) (h1:=p.one) (ub (ud h (ud a s d) g) i) (Q) fun a8 T J=>Pl 1<|nt<|rt<|eJ 22 j.2 T (.int .i64 0)<|?_
 rw[hs]
 exact bE u (aH.upd p (us q J) (aq (al.safe F _ (by decide)) (aq (aU (ub (ud h (ud a (uz E G) d) g) i) (by decide)) aG))) (ud I J k)
theorem nF{m:Md}{A:Option Addr}{cp:Nat}{b:List Int}{w:World}{c:Int}(hcode:B8 c)(hsl:b9 m w (.slice A b.length cp) b)(hb:b.length≤1048576) :
    Calls Tryz.prog 140 #[.int .i64 1,.int .u8 c,.slice A b.length cp] w (dX (ai aM 1 c b) w):=by
 obtain⟨hcode1,hcode2⟩:=hcode
 have hln:(b.length:Int)≤1048576:=by omega
 refine en 40 Tryz.func140 rfl<|sg<|L0<|bH mZ fun U V k i v=>Pl 1<|nt<|sq<|sg<|Pl 6<|nt<|c0<|?_
 refine bf<|sg<|Pl 2<|L0<|bH mZ fun W X g l K=>L0<|b7 l (mC c) fun Y x n=>ng<|Pl 1<|?_
 have h:=ud K n g
 have o:=aD v h
 refine L0<|Oc<|e3 (ec (b9.old hsl o) (by omega)) fun Z a0 d y a=>Pl 1<|ng<|Pl 2<|?_
 have z:=aD o a
 refine wo (aM 1 c ⟨b,false,0⟩) (fun hr=>?_) (fun r hr=>?_)
 refine L0<|Oc<|m1 (lB (dir:=1) (c:=c) y (ub a x) (Ne.symm (nb (am l) n.size d)) (Or.inr rfl) hr) fun a1 B=>Pl 1<|nt<|sq<|sg<|Pl 2<|nt<|c1<|sg<|Pl 1<|?_
 refine L0<|b7 (ub (aD h (aD a B)) i) mZ fun a2 L M=>Pl 1<|nt<|rt<|tr<|bJ L (.int .i64 4)<|?_
 have hs:ai aM 1 c b=(aP.zero,4):=by
   unfold ai
   (try simp only[bs,if_true,if_false,decide_true,decide_false,eq_self,true_or,or_true,or_false,false_or,if_true,if_false,dE,dC,dD,dF,reduceIte,hr])
   all_goals rfl
 rw[hs]
 exact cA (ud z (uz B M) k)
 have C:=nb (am l) n.size d
 refine L0<|Oc<|pW (ld (dir:=1) (c:=c) y (ub a x) (Ne.symm C) (Or.inr rfl) hr) fun N D a3 O E hcall51=>Pl 1<|nt<|sq<|sg<|Pl 2<|nt<|c0<|bf<|sq<|?_
 refine go<|Pl 1<|L0<|i2 (f:=N) (args:=D) (hf:=O) #[] D<|m3 (hcall51) fun a4 F P G=>?_
 obtain⟨Q,j,p⟩:=P
 refine ng<|Pl 1<|L0<|Oc<|m2 (ck F) fun a5 H q=>nt<|sq<|sg<|Pl 1<|L0<|Oc<|mq (bC H)<|?_
 have a6:=al.len H
 refine Pl 1<|ng<|Pl 2<|nt<|?_
 have s:=uz E (u1 G q im)
 have I:=ut z s (ac (ni o.size d) (ac (ni v.size g) ay))
 have hs:ai aM 1 c b=b6 r.2 r.1:=by
   unfold ai
   (try simp only[bs,if_true,if_false,decide_true,decide_false,eq_self,true_or,or_true,or_false,false_or,if_true,if_false,dE,dC,dD,dF,reduceIte,hr])
   all_goals rfl
 refine cb ((r.1.endC.e != 0)) (fun t=>?_) (fun t=>?_)
 have u:=ax t
 refine sg<|Pl 2<|?_
 refine L0<|b7 (ub (ud h (ud a s d) g) i) mZ fun a7 R S=>Pl 1<|nt<|rt<|tr<|bJ R (.int .i64 r.1.endC.e)<|?_
 rw[hs]
 exact bz u (ud I S k)
 have u:=ag t
 refine bf<|sg<|?_
 refine L0<|bO (hz:=(by rw[j.2];exact aI)) (aW q C j.1)<|?_
 refine L0<|b7 (hz:=(by rw[j.2];exact aI)) (hv:=p.size) (h1:=p.one) (ub (ud h (ud a s d) g) i) (Q) fun a8 T J=>Pl 1<|nt<|rt<|eJ 22 j.2 T (.int .i64 0)<|?_
 rw[hs]
 exact bE u (aH.upd p (us q J) (aq (al.safe F _ (by decide)) (aq (aU (ub (ud h (ud a (uz E G) d) g) i) (by decide)) aG))) (ud I J k)
theorem nT{m:Md}{A:Option Addr}{cp:Nat}{b:List Int}{w:World}{dir c:Int}(hcode:B8 c)(hsl:b9 m w (.slice A b.length cp) b)(hb:b.length≤1048576)(hd:¬ (dir=0∨dir=1)) :
    Calls Tryz.prog 140 #[.int .i64 dir,.int .u8 c,.slice A b.length cp] w (dX (ai aM dir c b) w):=by
 obtain⟨hcode1,hcode2⟩:=hcode
 have hln:(b.length:Int)≤1048576:=by omega
 have e0:(dir != 0)=true:=by simp;omega
 have e1:(dir != 1)=true:=by simp;omega
 refine en 40 Tryz.func140 rfl<|sg<|L0<|bH mZ fun g h a d e=>Pl 1<|nt<|sq<|sg<|Pl 3<|sy 14 e0<|Pl 3<|nl<|?_
 refine tn<|ct e1<|sg<|Pl 1<|L0<|b7 d mZ fun i dp f=>Pl 1<|nt<|rt<|tr<|bJ dp (.int .i64 1)<|?_
 have hs:ai aM dir c b=(aP.zero,1):=by
   unfold ai aM
   (try simp only[e0,e1,bs,if_true,if_false,decide_true,decide_false,eq_self,true_or,or_true,or_false,false_or,if_true,if_false,dE,dC,dD,dF,reduceIte,hd])
   all_goals rfl
 rw[hs]
 exact cA (ud e f a)
theorem lg{m:Md}{v:Value}{b:List Int}{w:World}{dir c:Int}(hc:B8 c)(h:b9 m w v b)(hb:b.length≤1048576) :
    Calls Tryz.prog 140 #[.int .i64 dir,.int .u8 c,v] w (dX (ai aM dir c b) w):=by
  obtain⟨A,cp,rfl,_,_⟩:=h.shape
  by_cases h0:dir=0
  · subst h0;exact nR hc h hb
  by_cases h1:dir=1
  · subst h1;exact nF hc h hb
  exact nT hc h hb (by omega)
open Go.RowKit
theorem lV{most:Int}{g gm:Nat}{c:Int}{C:ak}{w:World}(hcode:B8 c)(hC:al w g C)(hm:w.heap[gm]? = some (.cells (mC c) 30 (0,0)))(hne:g≠gm) :
    Calls Tryz.prog 232 #[.agg #[.pointer (some ⟨g,0,none⟩),.pointer (some ⟨gm,0,none⟩)],.int .u16 most] w (qv g gm (bA C most) (mG c 0 C.wordV (C.wordsC 1).wordV 0 0 0 0 0 0 0 0 nS nS nS nS 0 0 0 0 0 nS) w):=by
 obtain⟨hcode1,hcode2⟩:=hcode
 have hlen:=hC.len
 refine en 51 Tryz.func232 rfl<|sg<|L0<|dv #[.pointer (some ⟨g,0,none⟩),.pointer (some ⟨gm,0,none⟩)] fun f aj P a7 a8=>nt<|sq<|Rg 8 (fun w'=>w'.cell? ⟨f,1,none⟩=some (.pointer (some ⟨gm,0,none⟩))∧w'.cell? ⟨f,0,none⟩=some (.pointer (some ⟨g,0,none⟩))) fun an Q=>?_
 have t:=ub Q a7
 refine bi ⟨(ae t rfl),(ae t rfl)⟩ fun o=>Rt 0 o<|Rl 1 o (fun _ hs=>hs.1)<|Rt 2 o<|Rl 3 o (fun _ hs=>hs.2)<|?_
 have R:=aD a8 Q
 refine R0 4 rfl<|Oc<|m3 (ci (al.old hC R)) fun ao a9 S ap=>?_
 have h:=nb (al.lt hC) lr P
 have u:=aW S (Ne.symm h) t
 refine bi ⟨(ae u rfl),(ae u rfl)⟩ fun T=>Rt 5 T<|Rt 6 T<|?_
 have U:=uz R S
 have V:=aW U (Ne.symm hne) hm
 refine R0 7 rfl<|bX V 2 (mG c 0 C.wordV 0 0 0 0 0 0 0 0 0 nS nS nS nS 0 0 0 0 0 nS) fun ar ab W=>?_
 have X:=nb (am hm) lr P
 have v:=aW W (Ne.symm X) u
 refine bi ⟨(ae v rfl),(ae v rfl)⟩ fun au=>re<|tn<|sq<|Rg 8 (fun w'=>w'.cell? ⟨f,1,none⟩=some (.pointer (some ⟨gm,0,none⟩))∧w'.cell? ⟨f,0,none⟩=some (.pointer (some ⟨g,0,none⟩))) fun av x=>?_
 have y:=ub x v
 refine bi ⟨(ae y rfl),(ae y rfl)⟩ fun p=>Rt 0 p<|Rl 1 p (fun _ hs=>hs.1)<|Rt 2 p<|Rl 3 p (fun _ hs=>hs.2)<|?_
 have Y:=aD W x
 refine R0 4 rfl<|Oc<|m3 (ci (al.upd a9 Y (aa hne az) (aq (aU V (by decide)) aG))) fun aw Z z ax=>?_
 have A:=aW z (Ne.symm h) y
 refine bi ⟨(ae A rfl),(ae A rfl)⟩ fun a0=>Rt 5 a0<|Rt 6 a0<|?_
 have B:=aW (uz x z) (Ne.symm hne) ab
 refine R0 7 rfl<|bX B 3 (mG c 0 C.wordV ((C.wordsC 1).wordV) 0 0 0 0 0 0 0 0 nS nS nS nS 0 0 0 0 0 nS) fun ay ac a1=>?_
 have D:=aW a1 (Ne.symm X) A
 refine bi ⟨(ae D rfl),(ae D rfl)⟩ fun aA=>re<|tn<|sq<|Rg 18 (fun w'=>w'.cell? ⟨f,0,none⟩=some (.pointer (some ⟨g,0,none⟩))∧w'.cell? ⟨f,1,none⟩=some (.pointer (some ⟨gm,0,none⟩))∧w'.cell? ⟨gm,3,none⟩=some (.int .u16 ((C.wordsC 1).wordV))) fun aB E=>?_
 have q:=ub E D
 have F:=ub E ac
 refine bi ⟨(ae q rfl),(ae q rfl),(ae F rfl)⟩ fun b=>Rt 0 b<|Rl 1 b (fun _ hs=>hs.1)<|Rt 2 b<|Rl 3 b (fun _ hs=>hs.2.1)<|Rt 4 b<|Rt 5 b<|Rl 6 b (fun _ hs=>hs.2.2)<|Rt 7 b<|Rt 8 b<|?_
 have G:=aD a1 E
 have a2:=ui U (ui Y (us z G))
 refine tJ 26 ((decide (1≤((C.wordsC 1).wordV)))) (fun i=>?_) (fun i=>?_)
 have ad:=of_decide_eq_true i
 refine Rt 9 b<|Rl 10 b (fun _ hs=>hs.2.1)<|Rt 11 b<|Rt 12 b<|Rl 13 b (fun _ hs=>hs.2.2)<|Rt 14 b<|Rt 15 b<|Rt 16 b<|?_
 refine R0 17 rfl<|Oc<|m2 (be ((decide (((C.wordsC 1).wordV)≤most))) 5 (al.upd Z G (aa hne az) (aq (aU B (by decide)) aG))) fun aC af H=>?_
 have I:=aW H (Ne.symm h) q
 have a3:=aW H (Ne.symm hne) F
 refine bi ⟨(ae I rfl),(ae I rfl),(ae a3 rfl)⟩ fun aE=>re<|tn<|Rg 15 (fun w'=>w'.cell? ⟨f,0,none⟩=some (.pointer (some ⟨g,0,none⟩))∧w'.cell? ⟨f,1,none⟩=some (.pointer (some ⟨gm,0,none⟩))∧w'.cell? ⟨gm,2,none⟩=some (.int .u16 C.wordV)∧w'.cell? ⟨gm,3,none⟩=some (.int .u16 ((C.wordsC 1).wordV))) fun aF r=>?_
 have j:=ub r I
 have k:=ub r a3
 refine bi ⟨(ae j rfl),(ae j rfl),(ae k rfl),(ae k rfl)⟩ fun d=>Rt 0 d<|Rl 1 d (fun _ hs=>hs.1)<|Rt 2 d<|Rl 3 d (fun _ hs=>hs.2.1)<|Rt 4 d<|Rt 5 d<|Rl 6 d (fun _ hs=>hs.2.2.1)<|Rt 7 d<|Rl 8 d (fun _ hs=>hs.2.1)<|Rt 9 d<|Rt 10 d<|Rl 11 d (fun _ hs=>hs.2.2.2)<|Rr 12 d (.int .i64 ((C.wordsC 1).wordV)) (fun _ _=>ch (.int .i64 (IntKind.i64.wrap ((C.wordsC 1).wordV))) (by kernel_rfl) (congrArg (Value.int .i64) (i64_in (by omega))))<|?_
 refine R0 13 rfl<|Oc<|mq (j0 (a:=C.wordV) (n:=(C.wordsC 1).wordV) (by omega))<|bi ⟨(ae j rfl),(ae j rfl),(ae k rfl),(ae k rfl)⟩ fun aH=>?_
 refine R0 14 rfl<|Oc<|m2 (be ((dx C.wordV ((C.wordsC 1).wordV))) 7 (al.old af r)) fun aI ag J=>?_
 have a4:=aW J (Ne.symm h) j
 have K:=aW J (Ne.symm hne) k
 refine bi ⟨(ae a4 rfl),(ae a4 rfl),(ae K rfl),(ae K rfl)⟩ fun aJ=>re<|rm (.tuple #[])<|?_
 have hs:bA C most=((((C.wordsC 1).wordsC 1).need (decide (((C.wordsC 1).wordV)≤most)) 5).need (dx C.wordV ((C.wordsC 1).wordV)) 7):=by
   unfold bA j7
   (try simp only[i,bs,if_true,if_false,decide_true,decide_false,reduceIte])
   all_goals rfl
 rw[hs]
 exact⟨rfl,ag,K,(u1 a2 (u1 H (uz r J) im) im)⟩
 have ad:=of_decide_eq_false i
 refine Ro 9 b<|Ro 10 b<|Ro 11 b<|Ro 12 b<|Ro 13 b<|Ro 14 b<|Ro 15 b<|Rt 16 b<|?_
 refine R0 17 rfl<|Oc<|m2 (be (false) 5 (al.upd Z G (aa hne az) (aq (aU B (by decide)) aG))) fun aK ah L=>?_
 have M:=aW L (Ne.symm h) q
 have a5:=aW L (Ne.symm hne) F
 refine bi ⟨(ae M rfl),(ae M rfl),(ae a5 rfl)⟩ fun aL=>re<|tn<|Rg 15 (fun w'=>w'.cell? ⟨f,0,none⟩=some (.pointer (some ⟨g,0,none⟩))∧w'.cell? ⟨f,1,none⟩=some (.pointer (some ⟨gm,0,none⟩))∧w'.cell? ⟨gm,2,none⟩=some (.int .u16 C.wordV)∧w'.cell? ⟨gm,3,none⟩=some (.int .u16 ((C.wordsC 1).wordV))) fun aM s=>?_
 have l:=ub s M
 have m:=ub s a5
 refine bi ⟨(ae l rfl),(ae l rfl),(ae m rfl),(ae m rfl)⟩ fun e=>Rt 0 e<|Rl 1 e (fun _ hs=>hs.1)<|Rt 2 e<|Rl 3 e (fun _ hs=>hs.2.1)<|Rt 4 e<|Rt 5 e<|Rl 6 e (fun _ hs=>hs.2.2.1)<|Rt 7 e<|Rl 8 e (fun _ hs=>hs.2.1)<|Rt 9 e<|Rt 10 e<|Rl 11 e (fun _ hs=>hs.2.2.2)<|Rr 12 e (.int .i64 ((C.wordsC 1).wordV)) (fun _ _=>ch (.int .i64 (IntKind.i64.wrap ((C.wordsC 1).wordV))) (by kernel_rfl) (congrArg (Value.int .i64) (i64_in (by omega))))<|?_
 refine R0 13 rfl<|Oc<|mq (j0 (a:=C.wordV) (n:=(C.wordsC 1).wordV) (by omega))<|bi ⟨(ae l rfl),(ae l rfl),(ae m rfl),(ae m rfl)⟩ fun aN=>?_
 refine R0 14 rfl<|Oc<|m2 (be ((dx C.wordV ((C.wordsC 1).wordV))) 7 (al.old ah s)) fun aO ai N=>?_
 have a6:=aW N (Ne.symm h) l
 have O:=aW N (Ne.symm hne) m
 refine bi ⟨(ae a6 rfl),(ae a6 rfl),(ae O rfl),(ae O rfl)⟩ fun aP=>re<|rm (.tuple #[])<|?_
 have hs:bA C most=((((C.wordsC 1).wordsC 1).need false 5).need (dx C.wordV ((C.wordsC 1).wordV)) 7):=by
   unfold bA j7
   (try simp only[i,bs,if_true,if_false,decide_true,decide_false,reduceIte])
   all_goals rfl
 rw[hs]
 exact⟨rfl,ai,O,(u1 a2 (u1 L (uz s N) im) im)⟩
theorem jg{g gm:Nat}{c:Int}{C:ak}{w:World}(hcode:B8 c)(hC:al w g C)(hm:w.heap[gm]? = some (.cells (mC c) 30 (0,0)))(hne:g≠gm) :
    Calls Tryz.prog 196 #[.agg #[.pointer (some ⟨g,0,none⟩),.pointer (some ⟨gm,0,none⟩)]] w (cz g gm (dm 2000 c C).1 (dm 2000 c C).2 w):=by
 obtain⟨hcode1,hcode2⟩:=hcode
 have hlen:=hC.len
 refine en 4 Tryz.func196 rfl<|sg<|L0<|dv #[.pointer (some ⟨g,0,none⟩),.pointer (some ⟨gm,0,none⟩)] fun i j k d a=>nt<|go<|L0<|bO d<|?_
 have b:=al.old hC a
 refine L0<|Oc<|m3 (lV (most:=2000) ⟨hcode1,hcode2⟩ b (ub a hm) hne) fun l e f h=>?_
 have m:=(b).wordV
 have n:=bN (cD (b).rng 1)
 refine nl<|rm (.tuple #[])<|?_
 have hs:dm 2000 c C=((bA C 2000),(aP.mk c 0 C.wordV ((C.wordsC 1).wordV) 0 0 0 0 0 0 0 0 [] [] [] [] 0 0 0 0 0 [])):=by
   unfold dm
   (try simp only[bs,if_true,if_false,decide_true,decide_false,reduceIte])
   all_goals rfl
 rw[hs]
 exact⟨rfl,e,⟨_,⟨f,rfl⟩,⟨_,_,_,_,_,rfl,aL.nil ..,aL.nil ..,aL.nil ..,aL.nil ..,aL.nil ..,(cj (by omega))⟩⟩,(uz a h)⟩
theorem nj{g gm:Nat}{c:Int}{C:ak}{w:World}(hcode:B8 c)(hC:al w g C)(hm:w.heap[gm]? = some (.cells (mC c) 30 (0,0)))(hne:g≠gm) :
    Calls Tryz.prog 197 #[.agg #[.pointer (some ⟨g,0,none⟩),.pointer (some ⟨gm,0,none⟩)]] w (cz g gm (dh c C).1 (dh c C).2 w):=by
 obtain⟨hcode1,hcode2⟩:=hcode
 have hlen:=hC.len
 refine en 24 Tryz.func197 rfl<|sg<|L0<|dv #[.pointer (some ⟨g,0,none⟩),.pointer (some ⟨gm,0,none⟩)] fun j J k l m=>ng<|Pl 1<|L0<|aO l 0<|?_
 refine L0<|Oc<|m3 (bY (al.old hC m)) fun L z o M=>Pl 1<|ng<|Pl 1<|?_
 have e:=nb (al.lt hC) lr k
 have p:=aW o (Ne.symm e) l
 refine L0<|aO p 0<|Pl 3<|cu 3 [10] 13 (((decide (1≤C.byteV))&&(decide (C.byteV≤250)))) (fun K q=>?_) ?_
 refine bl 10 ((decide (1≤C.byteV))) (fun b=>?_) (fun b=>?_)
 have A:=of_decide_eq_true b
 exact Pl 3<|ce q (decide (C.byteV≤250)) (by rw[b];rfl)
 have A:=of_decide_eq_false b
 exact Pl 3<|ce q false (by rw[b];rfl)
 refine L0<|Oc<|m2 (be (((decide (1≤C.byteV))&&(decide (C.byteV≤250)))) 5 z) fun N B D=>nt<|Rg 10 (fun w'=>w'.cell? ⟨j,1,none⟩=some (.pointer (some ⟨gm,0,none⟩))∧w'.cell? ⟨j,0,none⟩=some (.pointer (some ⟨g,0,none⟩))) fun O r=>?_
 have s:=aD D r
 have f:=aW s (Ne.symm e) p
 refine bi ⟨(ae f rfl),(ae f rfl)⟩ fun a=>Rt 0 a<|Rl 1 a (fun _ hs=>hs.1)<|Rt 2 a<|Rl 3 a (fun _ hs=>hs.2)<|Rt 4 a<|Rr 5 a (.int .i64 C.byteV) (fun _ _=>ch (.int .i64 (IntKind.i64.wrap C.byteV)) (by kernel_rfl) (congrArg (Value.int .i64) (i64_in (by omega))))<|?_
 have t:=al.old B r
 refine R0 6 rfl<|Oc<|tL (cE (n:=C.byteV) t) fun E F P G Q R H u=>?_
 have S:=Nat.le_trans (ak.bytesR_le ((C.bytesC 1).need ((decide (1≤C.byteV))&&(decide (C.byteV≤250))) 5) C.byteV) (al.len t)
 have h:=aW u (Ne.symm e) f
 refine bi ⟨(ae h rfl),(ae h rfl)⟩ fun v=>Rt 7 v<|Rt 8 v<|?_
 have x:=uz m (u1 o (u1 s u im) im)
 have i:=aW x (Ne.symm hne) hm
 refine R0 9 rfl<|bX i 14 (mG c 0 0 0 0 0 0 0 0 0 0 0 nS nS (.slice E ((((C.bytesC 1).need ((decide (1≤C.byteV))&&(decide (C.byteV≤250))) 5).bytesR C.byteV).length) F) nS 0 0 0 0 0 nS) fun T I d=>?_
 have y:=aW d (Ne.symm (nb (am hm) lr k)) h
 refine bi ⟨(ae y rfl),(ae y rfl)⟩ fun U=>re<|rm (.tuple #[])<|?_
 have hs:dh c C=((((C.bytesC 1).need ((decide (1≤C.byteV))&&(decide (C.byteV≤250))) 5).bytesC C.byteV),(aP.mk c 0 0 0 0 0 0 0 0 0 0 0 [] [] (((C.bytesC 1).need ((decide (1≤C.byteV))&&(decide (C.byteV≤250))) 5).bytesR C.byteV) [] 0 0 0 0 0 [])):=by
   unfold dh dR
   (try simp only[bs,if_true,if_false,decide_true,decide_false,reduceIte])
   all_goals rfl
 rw[hs]
 exact⟨rfl,(al.upd H d (aa hne az) (aq (aU i (by decide)) aG)),⟨_,⟨I,rfl⟩,⟨_,_,_,_,_,rfl,aL.nil ..,aL.nil ..,(b9.upd' G d (aq (aU i (by decide)) aG)),aL.nil ..,aL.nil ..,(cj (by omega))⟩⟩,(us x d)⟩
theorem ns{g gm:Nat}{c:Int}{C:ak}{w:World}(hcode:B8 c)(hC:al w g C)(hm:w.heap[gm]? = some (.cells (mC c) 30 (0,0)))(hne:g≠gm) :
    Calls Tryz.prog 198 #[.agg #[.pointer (some ⟨g,0,none⟩),.pointer (some ⟨gm,0,none⟩)]] w (cz g gm (d6 c C).1 (d6 c C).2 w):=by
 obtain⟨hcode1,hcode2⟩:=hcode
 have hlen:=hC.len
 refine en 33 Tryz.func198 rfl<|sg<|L0<|dv #[.pointer (some ⟨g,0,none⟩),.pointer (some ⟨gm,0,none⟩)] fun b Z y R S=>nt<|sq<|Rg 8 (fun w'=>w'.cell? ⟨b,1,none⟩=some (.pointer (some ⟨gm,0,none⟩))∧w'.cell? ⟨b,0,none⟩=some (.pointer (some ⟨g,0,none⟩))) fun a0 z=>?_
 have j:=ub z R
 refine bi ⟨(ae j rfl),(ae j rfl)⟩ fun e=>Rt 0 e<|Rl 1 e (fun _ hs=>hs.1)<|Rt 2 e<|Rl 3 e (fun _ hs=>hs.2)<|?_
 have A:=aD S z
 refine R0 4 rfl<|Oc<|m3 (ci (al.old hC A)) fun a1 T B a2=>?_
 have f:=nb (al.lt hC) lr y
 have k:=aW B (Ne.symm f) j
 refine bi ⟨(ae k rfl),(ae k rfl)⟩ fun D=>Rt 5 D<|Rt 6 D<|?_
 have E:=uz A B
 have F:=aW E (Ne.symm hne) hm
 refine R0 7 rfl<|bX F 2 (mG c 0 C.wordV 0 0 0 0 0 0 0 0 0 nS nS nS nS 0 0 0 0 0 nS) fun a3 U G=>?_
 have H:=nb (am hm) lr y
 have l:=aW G (Ne.symm H) k
 refine bi ⟨(ae l rfl),(ae l rfl)⟩ fun a4=>re<|tn<|sq<|Rg 8 (fun w'=>w'.cell? ⟨b,1,none⟩=some (.pointer (some ⟨gm,0,none⟩))∧w'.cell? ⟨b,0,none⟩=some (.pointer (some ⟨g,0,none⟩))) fun a5 m=>?_
 have n:=ub m l
 refine bi ⟨(ae n rfl),(ae n rfl)⟩ fun h=>Rt 0 h<|Rl 1 h (fun _ hs=>hs.1)<|Rt 2 h<|Rl 3 h (fun _ hs=>hs.2)<|?_
 have I:=aD G m
 refine R0 4 rfl<|Oc<|m3 (ci (al.upd T I (aa hne az) (aq (aU F (by decide)) aG))) fun a6 J o a7=>?_
 have p:=aW o (Ne.symm f) n
 refine bi ⟨(ae p rfl),(ae p rfl)⟩ fun K=>Rt 5 K<|Rt 6 K<|?_
 have q:=aW (uz m o) (Ne.symm hne) U
 refine R0 7 rfl<|bX q 4 (mG c 0 C.wordV 0 ((C.wordsC 1).wordV) 0 0 0 0 0 0 0 nS nS nS nS 0 0 0 0 0 nS) fun a8 V L=>?_
 have r:=aW L (Ne.symm H) p
 refine bi ⟨(ae r rfl),(ae r rfl)⟩ fun a9=>re<|tn<|Rg 17 (fun w'=>w'.cell? ⟨b,0,none⟩=some (.pointer (some ⟨g,0,none⟩))∧w'.cell? ⟨b,1,none⟩=some (.pointer (some ⟨gm,0,none⟩))∧w'.cell? ⟨gm,4,none⟩=some (.int .u16 ((C.wordsC 1).wordV))) fun ab s=>?_
 have i:=ub s r
 have t:=ub s V
 refine bi ⟨(ae i rfl),(ae i rfl),(ae t rfl)⟩ fun a=>Rt 0 a<|Rl 1 a (fun _ hs=>hs.1)<|Rt 2 a<|Rl 3 a (fun _ hs=>hs.2.1)<|Rt 4 a<|Rt 5 a<|Rl 6 a (fun _ hs=>hs.2.2)<|Rt 7 a<|Rt 8 a<|?_
 have u:=aD L s
 have M:=ui E (ui I (us o u))
 refine tJ 24 ((((C.wordsC 1).wordV)==0)) (fun d=>?_) (fun d=>?_)
 have W:=ah d
 refine Ro 9 a<|Ro 10 a<|Ro 11 a<|Ro 12 a<|Ro 13 a<|Ro 14 a<|Rt 15 a<|?_
 refine R0 16 rfl<|Oc<|m2 (be (true) 6 (al.upd J u (aa hne az) (aq (aU q (by decide)) aG))) fun ac X v=>?_
 have N:=aW v (Ne.symm f) i
 have O:=aW v (Ne.symm hne) t
 refine bi ⟨(ae N rfl),(ae N rfl),(ae O rfl)⟩ fun ad=>re<|rm (.tuple #[])<|?_
 have hs:d6 c C=((((C.wordsC 1).wordsC 1).need true 6),(aP.mk c 0 C.wordV 0 ((C.wordsC 1).wordV) 0 0 0 0 0 0 0 [] [] [] [] 0 0 0 0 0 [])):=by
   unfold d6 fp
   (try simp only[d,bs,if_true,if_false,decide_true,decide_false,reduceIte])
   all_goals rfl
 rw[hs]
 exact⟨rfl,X,⟨_,⟨O,rfl⟩,⟨_,_,_,_,_,rfl,aL.nil ..,aL.nil ..,aL.nil ..,aL.nil ..,aL.nil ..,(cj (by omega))⟩⟩,(u1 M v im)⟩
 have W:=aj d
 refine Rt 9 a<|Rl 10 a (fun _ hs=>hs.2.1)<|Rt 11 a<|Rt 12 a<|Rl 13 a (fun _ hs=>hs.2.2)<|Rt 14 a<|Rt 15 a<|?_
 refine R0 16 rfl<|Oc<|m2 (be ((((C.wordsC 1).wordV)==65280)) 6 (al.upd J u (aa hne az) (aq (aU q (by decide)) aG))) fun af Y x=>?_
 have P:=aW x (Ne.symm f) i
 have Q:=aW x (Ne.symm hne) t
 refine bi ⟨(ae P rfl),(ae P rfl),(ae Q rfl)⟩ fun ag=>re<|rm (.tuple #[])<|?_
 have hs:d6 c C=((((C.wordsC 1).wordsC 1).need (((C.wordsC 1).wordV)==65280) 6),(aP.mk c 0 C.wordV 0 ((C.wordsC 1).wordV) 0 0 0 0 0 0 0 [] [] [] [] 0 0 0 0 0 [])):=by
   unfold d6 fp
   (try simp only[d,bs,if_true,if_false,decide_true,decide_false,reduceIte])
   all_goals rfl
 rw[hs]
 exact⟨rfl,Y,⟨_,⟨Q,rfl⟩,⟨_,_,_,_,_,rfl,aL.nil ..,aL.nil ..,aL.nil ..,aL.nil ..,aL.nil ..,(cj (by omega))⟩⟩,(u1 M x im)⟩
theorem vI{g gm:Nat}{c:Int}{C:ak}{w:World}(hcode:B8 c)(hC:al w g C)(hm:w.heap[gm]? = some (.cells (mC c) 30 (0,0)))(hne:g≠gm) :
    Calls Tryz.prog 200 #[.agg #[.pointer (some ⟨g,0,none⟩),.pointer (some ⟨gm,0,none⟩)]] w (cz g gm (dm 1968 c C).1 (dm 1968 c C).2 w):=by
 obtain⟨hcode1,hcode2⟩:=hcode
 have hlen:=hC.len
 refine en 4 Tryz.func200 rfl<|sg<|L0<|dv #[.pointer (some ⟨g,0,none⟩),.pointer (some ⟨gm,0,none⟩)] fun i j k d a=>nt<|go<|L0<|bO d<|?_
 have b:=al.old hC a
 refine L0<|Oc<|m3 (lV (most:=1968) ⟨hcode1,hcode2⟩ b (ub a hm) hne) fun l e f h=>?_
 have m:=(b).wordV
 have n:=bN (cD (b).rng 1)
 refine nl<|rm (.tuple #[])<|?_
 have hs:dm 1968 c C=((bA C 1968),(aP.mk c 0 C.wordV ((C.wordsC 1).wordV) 0 0 0 0 0 0 0 0 [] [] [] [] 0 0 0 0 0 [])):=by
   unfold dm
   (try simp only[bs,if_true,if_false,decide_true,decide_false,reduceIte])
   all_goals rfl
 rw[hs]
 exact⟨rfl,e,⟨_,⟨f,rfl⟩,⟨_,_,_,_,_,rfl,aL.nil ..,aL.nil ..,aL.nil ..,aL.nil ..,aL.nil ..,(cj (by omega))⟩⟩,(uz a h)⟩
theorem s7{g gm:Nat}{c:Int}{C:ak}{w:World}(hcode:B8 c)(hC:al w g C)(hm:w.heap[gm]? = some (.cells (mC c) 30 (0,0)))(hne:g≠gm) :
    Calls Tryz.prog 200 #[.agg #[.pointer (some ⟨g,0,none⟩),.pointer (some ⟨gm,0,none⟩)]] w (qv g gm (bA C 1968) (mG c 0 C.wordV (C.wordsC 1).wordV 0 0 0 0 0 0 0 0 nS nS nS nS 0 0 0 0 0 nS) w):=by
 obtain⟨hcode1,hcode2⟩:=hcode
 have hlen:=hC.len
 refine en 4 Tryz.func200 rfl<|sg<|L0<|dv #[.pointer (some ⟨g,0,none⟩),.pointer (some ⟨gm,0,none⟩)] fun i j k d a=>nt<|go<|L0<|bO d<|?_
 have b:=al.old hC a
 refine L0<|Oc<|m3 (lV (most:=1968) ⟨hcode1,hcode2⟩ b (ub a hm) hne) fun l e f h=>?_
 have m:=(b).wordV
 have n:=bN (cD (b).rng 1)
 refine nl<|rm (.tuple #[])<|?_
 have hs:bA C 1968=(bA C 1968):=by
   unfold bA j7
   (try simp only[bs,if_true,if_false,decide_true,decide_false,reduceIte])
   all_goals rfl
 rw[hs]
 exact⟨rfl,e,f,(uz a h)⟩
theorem ws{g gm:Nat}{c:Int}{C:ak}{w:World}(hcode:B8 c)(hC:al w g C)(hm:w.heap[gm]? = some (.cells (mC c) 30 (0,0)))(hne:g≠gm) :
    Calls Tryz.prog 199 #[.agg #[.pointer (some ⟨g,0,none⟩),.pointer (some ⟨gm,0,none⟩)]] w (cz g gm (ga c C).1 (ga c C).2 w):=by
 obtain⟨hcode1,hcode2⟩:=hcode
 have hlen:=hC.len
 refine en 46 Tryz.func199 rfl<|sg<|L0<|dv #[.pointer (some ⟨g,0,none⟩),.pointer (some ⟨gm,0,none⟩)] fun o a3 F G f=>ng<|L0<|bO G<|?_
 have t:=al.old hC f
 refine L0<|Oc<|m3 (s7 ⟨hcode1,hcode2⟩ t (ub f hm) hne) fun a4 Q R p=>?_
 have a5:=(t).wordV
 have a6:=bN (cD (t).rng 1)
 refine ng<|Pl 1<|?_
 have i:=nb (al.lt hC) lr F
 have H:=aC.blk p (aa (Ne.symm i) (aa (Ne.symm (nb (am hm) lr F)) az)) G
 refine L0<|aO H 0<|L0<|Oc<|m3 (bY Q) fun a7 S u a8=>L0<|Oi ((bA C 1968).byteV)<|Pl 1<|nt<|sq<|Rg 12 (fun w'=>w'.cell? ⟨o,0,none⟩=some (.pointer (some ⟨g,0,none⟩))∧w'.cell? ⟨o,1,none⟩=some (.pointer (some ⟨gm,0,none⟩))∧w'.cell? ⟨gm,3,none⟩=some (.int .u16 ((C.wordsC 1).wordV))) fun a9 q=>?_
 have v:=aD u q
 have j:=aW v (Ne.symm i) H
 have y:=aW v (Ne.symm hne) R
 refine bi ⟨(ae j rfl),(ae j rfl),(ae y rfl)⟩ fun a=>Rt 0 a<|Rl 1 a (fun _ hs=>hs.1)<|Rt 2 a<|Rt 3 a<|Rl 4 a (fun _ hs=>hs.2.1)<|Rt 5 a<|Rt 6 a<|Rl 7 a (fun _ hs=>hs.2.2)<|Rr 8 a (.int .i64 ((C.wordsC 1).wordV)) (fun _ _=>ch (.int .i64 (IntKind.i64.wrap ((C.wordsC 1).wordV))) (by kernel_rfl) (congrArg (Value.int .i64) (i64_in (by omega))))<|R0 9 rfl<|Oc<|mq (jA (n:=(C.wordsC 1).wordV) (by omega))<|bi ⟨(ae j rfl),(ae j rfl),(ae y rfl)⟩ fun T=>Rt 10 T<|?_
 refine R0 11 rfl<|Oc<|m2 (be ((((bA C 1968).byteV)==(dH ((C.wordsC 1).wordV)))) 5 (al.old S q)) fun ab U k=>?_
 have z:=aW k (Ne.symm i) j
 have I:=aW k (Ne.symm hne) y
 refine bi ⟨(ae z rfl),(ae z rfl),(ae I rfl)⟩ fun ad=>re<|tn<|sq<|Rg 16 (fun w'=>w'.cell? ⟨o,0,none⟩=some (.pointer (some ⟨g,0,none⟩))∧w'.cell? ⟨o,1,none⟩=some (.pointer (some ⟨gm,0,none⟩))∧w'.cell? ⟨gm,3,none⟩=some (.int .u16 ((C.wordsC 1).wordV))) fun af d=>?_
 have A:=ub d z
 have J:=ub d I
 refine bi ⟨(ae A rfl),(ae A rfl),(ae J rfl)⟩ fun b=>Rt 0 b<|Rl 1 b (fun _ hs=>hs.1)<|Rt 2 b<|Rt 4 b<|Rl 5 b (fun _ hs=>hs.2.1)<|Rt 6 b<|Rt 7 b<|Rl 8 b (fun _ hs=>hs.2.2)<|Rr 9 b (.int .i64 ((C.wordsC 1).wordV)) (fun _ _=>ch (.int .i64 (IntKind.i64.wrap ((C.wordsC 1).wordV))) (by kernel_rfl) (congrArg (Value.int .i64) (i64_in (by omega))))<|?_
 have K:=al.old U d
 refine R0 3 rfl<|Oc<|tL (cE (n:=(bA C 1968).byteV) K) fun V W ag X ah ai Y l=>?_
 have aj:=Nat.le_trans (ak.bytesR_le (((bA C 1968).bytesC 1).need (((bA C 1968).byteV)==(dH ((C.wordsC 1).wordV))) 5) ((bA C 1968).byteV)) (al.len K)
 have B:=aW l (Ne.symm i) A
 have L:=aW l (Ne.symm hne) J
 refine bi ⟨(ae B rfl),(ae B rfl),(ae L rfl)⟩ fun an=>R0 10 rfl<|Oc (args:=#[.slice V (((((bA C 1968).bytesC 1).need (((bA C 1968).byteV)==(dH ((C.wordsC 1).wordV))) 5).bytesR ((bA C 1968).byteV)).length) W,.int .i64 ((C.wordsC 1).wordV)])<|dG (ql X (by omega) (by omega) (by omega)) fun Z a0 ao D ar au r=>?_
 have s:=ub r B
 have M:=ub r L
 refine bi ⟨(ae s rfl),(ae s rfl),(ae M rfl)⟩ fun m=>Rt 11 m<|Rt 12 m<|Rt 13 m<|Rt 14 m<|Rt 15 m<|re<|tn<|sg<|Pl 1<|L0<|aO s 0<|Pl 1<|?_
 refine L0<|Oc<|m2 (be ((cl ((((bA C 1968).bytesC 1).need (((bA C 1968).byteV)==(dH ((C.wordsC 1).wordV))) 5).bytesR ((bA C 1968).byteV)) ((C.wordsC 1).wordV)).isSome) 6 (al.old Y r)) fun av a1 E=>nt<|go<|Pl 1<|?_
 refine L0<|aO (aW E (Ne.symm i) s) 1<|Pl 3<|?_
 have N:=aW E (Ne.symm hne) M
 refine L0<|bX N 13 (mG c 0 C.wordV ((C.wordsC 1).wordV) 0 0 0 0 0 0 0 0 nS (.slice Z (((cl ((((bA C 1968).bytesC 1).need (((bA C 1968).byteV)==(dH ((C.wordsC 1).wordV))) 5).bytesR ((bA C 1968).byteV)) ((C.wordsC 1).wordV)).getD []).length) a0) nS nS 0 0 0 0 0 nS) fun aw a2 O=>nl<|rm (.tuple #[])<|?_
 have P:=us E O
 have hs:ga c C=((((((bA C 1968).bytesC 1).need (((bA C 1968).byteV)==(dH ((C.wordsC 1).wordV))) 5).bytesC ((bA C 1968).byteV)).need ((cl ((((bA C 1968).bytesC 1).need (((bA C 1968).byteV)==(dH ((C.wordsC 1).wordV))) 5).bytesR ((bA C 1968).byteV)) ((C.wordsC 1).wordV)).isSome) 6),(aP.mk c 0 C.wordV ((C.wordsC 1).wordV) 0 0 0 0 0 0 0 0 [] ((cl ((((bA C 1968).bytesC 1).need (((bA C 1968).byteV)==(dH ((C.wordsC 1).wordV))) 5).bytesR ((bA C 1968).byteV)) ((C.wordsC 1).wordV)).getD []) [] [] 0 0 0 0 0 [])):=by
   unfold ga pV pX i7 nA qk
   (try simp only[bs,if_true,if_false,decide_true,decide_false,reduceIte])
   all_goals rfl
 rw[hs]
 exact⟨rfl,(al.upd a1 O (aa hne az) (aq (aU N (by decide)) aG)),⟨_,⟨a2,rfl⟩,⟨_,_,_,_,_,rfl,aL.nil ..,((ap D P (fun x hx=>(aa (fun e=>(aB (al.lt hC) (le (le (le (le (le (le f.size p.size) u.size) q.size) k.size) d.size) l.size) D) (e▸hx)) (aa (fun e=>(aB (am hm) (le (le (le (le (le (le f.size p.size) u.size) q.size) k.size) d.size) l.size) D) (e▸hx)) az))) (fun _ _ h=>h))).rd,aL.nil ..,aL.nil ..,aL.nil ..,(cj (by omega))⟩⟩,(uz f (ut p (ui v (ui k (uz d (ui l (uz r P))))) (ac im (ac im ay))))⟩
open Go.RowKit
theorem yb(c:Int) : c=1∨c=2∨c=5∨c=15∨(c≠1∧c≠2∧c≠5∧c≠15):=by omega
theorem my{m:Md}{A:Option Addr}{cp:Nat}{b:List Int}{w:World}{c:Int}(hcode:B8 c)(hsl:b9 m w (.slice A b.length cp) b)(hb:b.length≤1048576) :
    Calls Tryz.prog 138 #[.int .i64 0,.int .u8 c,.slice A b.length cp] w (dX (ai aF 0 c b) w):=by
 obtain⟨hcode1,hcode2⟩:=hcode
 have hln:(b.length:Int)≤1048576:=by omega
 refine en 72 Tryz.func138 rfl<|sg<|L0<|bH mZ fun cF cG l k y=>Pl 1<|nt<|sq<|sg<|Pl 6<|nt<|c0<|?_
 refine bf<|sg<|Pl 2<|L0<|bH mZ fun a cH g n bx=>L0<|b7 n (mC c) fun cI F o=>ng<|Pl 1<|?_
 have i:=ud bx o g
 have u:=aD y i
 refine L0<|Oc<|e3 (ec (b9.old hsl u) (by omega)) fun d cJ f s z=>Pl 1<|L0<|bH #[.pointer none,.pointer none] fun cK cL p ae bA=>L0<|b7 ae #[.pointer (some ⟨d,0,none⟩),.pointer (some ⟨a,0,none⟩)] fun cM bB af=>ng<|L0<|xJ fun cN cO ah bD aj=>?_
 have O:=ub aj bB
 refine L0<|bO O<|Pl 1<|L0<|bO O<|Pl 2<|L0<|hZ bD 1 fun cP bF an=>?_
 have t:=nb (am ae) af.size ah
 have P:=aW an t O
 refine L0<|bO P<|Pl 1<|L0<|bO P<|Pl 2<|L0<|hZ bF 2 fun cQ bG ao=>?_
 have Q:=aW ao t P
 refine L0<|bO Q<|Pl 1<|L0<|bO Q<|Pl 2<|L0<|hZ bG 5 fun cR bI ap=>?_
 have v:=aW ap t Q
 refine L0<|bO v<|Pl 1<|L0<|bO v<|Pl 2<|L0<|hZ bI 15 fun cS B C=>Pl 2<|ng<|Pl 2<|?_
 have D:=ud bA (aD af (ud aj (u1 an (u1 ao (u1 ap C im) im) im) ah)) p
 have j:=aD z D
 have E:=aD u j
 rcases yb c with hk|hk|hk|hk|hk
 have k1:(c==1)=true:=by rw[hk];rfl
 have k2:(c==2)=false:=by rw[hk];rfl
 have k5:(c==5)=false:=by rw[hk];rfl
 have r:(c==15)=false:=by rw[hk];rfl
 refine L0<|o9 (hf:=(by subst hk;kernel_rfl)) B c (.agg #[.nilFunc,.nilFunc]) (some (0,.agg #[.func (.func 196) #[.agg #[.pointer (some ⟨d,0,none⟩),.pointer (some ⟨a,0,none⟩)]] #[],.func (.func 197) #[.agg #[.pointer (some ⟨d,0,none⟩),.pointer (some ⟨a,0,none⟩)]] #[]]))<|Pl 3<|L0<|bH #[.nilFunc,.nilFunc] fun cT cU bK bL bM=>L0<|b7 bL #[.func (.func 196) #[.agg #[.pointer (some ⟨d,0,none⟩),.pointer (some ⟨a,0,none⟩)]] #[],.func (.func 197) #[.agg #[.pointer (some ⟨d,0,none⟩),.pointer (some ⟨a,0,none⟩)]] #[]] fun cV bN bP=>Pl 1<|nt<|sq<|sg<|Pl 2<|nt<|c0<|?_
 refine bf<|sg<|Pl 2<|L0<|aO bN 0<|?_
 have R:=ud bM bP bK
 have ar:=aD j R
 have au:=nb (am n) o.size f
 refine L0<|i2 #[.agg #[.pointer (some ⟨d,0,none⟩),.pointer (some ⟨a,0,none⟩)]] #[] (args:=#[.agg #[.pointer (some ⟨d,0,none⟩),.pointer (some ⟨a,0,none⟩)]])<|m3 (jg (c:=c) ⟨hcode1,hcode2⟩ (al.old s (aD D R)) (ub ar F) (Ne.symm au)) fun cW bQ bR av=>?_
 obtain⟨bS,G,S⟩:=bR
 refine ab bQ fun x89 aw aA=>?_
 refine ng<|Pl 1<|?_
 have aB:=uz R av
 have aE:=nb (al.lt s) lr p
 have aJ:=aC.blk (us C aB) (aa t (aa (Ne.symm aE) (aa (Ne.symm (nb (am n) (le o.size z.size) p)) az))) v
 refine L0<|aO aJ 0<|L0<|Oc<|m2 (ck aA) fun cX aK H=>nt<|sq<|sg<|Pl 1<|?_
 refine L0<|aO (aW H (Ne.symm aE) aJ) 0<|L0<|Oc<|mq (bC aK)<|?_
 have cY:=al.len aK
 refine Pl 1<|ng<|Pl 2<|nt<|?_
 have T:=u1 aB H im
 have aL:=ut E T (ac (ni u.size f) (ac (ni y.size g) ay))
 have hs:ai aF 0 c b=b6 ((dm 2000 c (ak.mk b false 0)).2) ((dm 2000 c (ak.mk b false 0)).1):=by
   unfold ai aF
   (try simp only[bs,if_true,if_false,decide_true,decide_false,eq_self,true_or,or_true,or_false,false_or,if_true,if_false,dE,dC,dD,dF,reduceIte,k1,k2,k5,r])
   all_goals rfl
 refine cb ((x89.endC.e != 0)) (fun U=>?_) (fun U=>?_)
 have V:=ax U
 refine sg<|Pl 2<|?_
 refine L0<|b7 (ub (ud i (ud j T f) g) k) mZ fun cZ bT bU=>Pl 1<|nt<|rt<|tr<|bJ bT (.int .i64 x89.endC.e)<|?_
 subst aw
 rw[hs]
 exact bz V (ud aL bU l)
 have V:=ag U
 refine bf<|sg<|?_
 refine L0<|bO (hz:=(by rw[G.2];exact aI)) (aW H au G.1)<|?_
 refine L0<|b7 (hz:=(by rw[G.2];exact aI)) (hv:=S.size) (h1:=S.one) (ub (ud i (ud j T f) g) k) (bS) fun d0 bV aM=>Pl 1<|nt<|rt<|eJ 22 G.2 bV (.int .i64 0)<|?_
 subst aw
 rw[hs]
 exact bE V (aH.upd S (us H aM) (aq (al.safe aA _ (by decide)) (aq (aU (ub (ud i (ud ar av f) g) k) (by decide)) aG))) (ud aL aM l)
 have k1:(c==1)=false:=by rw[hk];rfl
 have k2:(c==2)=true:=by rw[hk];rfl
 have k5:(c==5)=false:=by rw[hk];rfl
 have r:(c==15)=false:=by rw[hk];rfl
 refine L0<|o9 (hf:=(by subst hk;kernel_rfl)) B c (.agg #[.nilFunc,.nilFunc]) (some (1,.agg #[.func (.func 196) #[.agg #[.pointer (some ⟨d,0,none⟩),.pointer (some ⟨a,0,none⟩)]] #[],.func (.func 197) #[.agg #[.pointer (some ⟨d,0,none⟩),.pointer (some ⟨a,0,none⟩)]] #[]]))<|Pl 3<|L0<|bH #[.nilFunc,.nilFunc] fun d1 d2 bW bX bY=>L0<|b7 bX #[.func (.func 196) #[.agg #[.pointer (some ⟨d,0,none⟩),.pointer (some ⟨a,0,none⟩)]] #[],.func (.func 197) #[.agg #[.pointer (some ⟨d,0,none⟩),.pointer (some ⟨a,0,none⟩)]] #[]] fun d3 bZ c2=>Pl 1<|nt<|sq<|sg<|Pl 2<|nt<|c0<|?_
 refine bf<|sg<|Pl 2<|L0<|aO bZ 0<|?_
 have W:=ud bY c2 bW
 have aN:=aD j W
 have aQ:=nb (am n) o.size f
 refine L0<|i2 #[.agg #[.pointer (some ⟨d,0,none⟩),.pointer (some ⟨a,0,none⟩)]] #[] (args:=#[.agg #[.pointer (some ⟨d,0,none⟩),.pointer (some ⟨a,0,none⟩)]])<|m3 (jg (c:=c) ⟨hcode1,hcode2⟩ (al.old s (aD D W)) (ub aN F) (Ne.symm aQ)) fun d4 c3 c4 aR=>?_
 obtain⟨c5,I,X⟩:=c4
 refine ab c3 fun aS aT aV=>?_
 refine ng<|Pl 1<|?_
 have aX:=uz W aR
 have aY:=nb (al.lt s) lr p
 have aZ:=aC.blk (us C aX) (aa t (aa (Ne.symm aY) (aa (Ne.symm (nb (am n) (le o.size z.size) p)) az))) v
 refine L0<|aO aZ 0<|L0<|Oc<|m2 (ck aV) fun d5 b0 J=>nt<|sq<|sg<|Pl 1<|?_
 refine L0<|aO (aW J (Ne.symm aY) aZ) 0<|L0<|Oc<|mq (bC b0)<|?_
 have d7:=al.len b0
 refine Pl 1<|ng<|Pl 2<|nt<|?_
 have Y:=u1 aX J im
 have b1:=ut E Y (ac (ni u.size f) (ac (ni y.size g) ay))
 have hs:ai aF 0 c b=b6 ((dm 2000 c (ak.mk b false 0)).2) ((dm 2000 c (ak.mk b false 0)).1):=by
   unfold ai aF
   (try simp only[bs,if_true,if_false,decide_true,decide_false,eq_self,true_or,or_true,or_false,false_or,if_true,if_false,dE,dC,dD,dF,reduceIte,k1,k2,k5,r])
   all_goals rfl
 refine cb ((aS.endC.e != 0)) (fun Z=>?_) (fun Z=>?_)
 have a0:=ax Z
 refine sg<|Pl 2<|?_
 refine L0<|b7 (ub (ud i (ud j Y f) g) k) mZ fun d8 c6 c7=>Pl 1<|nt<|rt<|tr<|bJ c6 (.int .i64 aS.endC.e)<|?_
 subst aT
 rw[hs]
 exact bz a0 (ud b1 c7 l)
 have a0:=ag Z
 refine bf<|sg<|?_
 refine L0<|bO (hz:=(by rw[I.2];exact aI)) (aW J aQ I.1)<|?_
 refine L0<|b7 (hz:=(by rw[I.2];exact aI)) (hv:=X.size) (h1:=X.one) (ub (ud i (ud j Y f) g) k) (c5) fun d9 c8 b2=>Pl 1<|nt<|rt<|eJ 22 I.2 c8 (.int .i64 0)<|?_
 subst aT
 rw[hs]
 exact bE a0 (aH.upd X (us J b2) (aq (al.safe aV _ (by decide)) (aq (aU (ub (ud i (ud aN aR f) g) k) (by decide)) aG))) (ud b1 b2 l)
 have k1:(c==1)=false:=by rw[hk];rfl
 have k2:(c==2)=false:=by rw[hk];rfl
 have k5:(c==5)=true:=by rw[hk];rfl
 have r:(c==15)=false:=by rw[hk];rfl
 refine L0<|o9 (hf:=(by subst hk;kernel_rfl)) B c (.agg #[.nilFunc,.nilFunc]) (some (2,.agg #[.func (.func 198) #[.agg #[.pointer (some ⟨d,0,none⟩),.pointer (some ⟨a,0,none⟩)]] #[],.func (.func 198) #[.agg #[.pointer (some ⟨d,0,none⟩),.pointer (some ⟨a,0,none⟩)]] #[]]))<|Pl 3<|L0<|bH #[.nilFunc,.nilFunc] fun da db c9 ca cc=>L0<|b7 ca #[.func (.func 198) #[.agg #[.pointer (some ⟨d,0,none⟩),.pointer (some ⟨a,0,none⟩)]] #[],.func (.func 198) #[.agg #[.pointer (some ⟨d,0,none⟩),.pointer (some ⟨a,0,none⟩)]] #[]] fun dc cd ce=>Pl 1<|nt<|sq<|sg<|Pl 2<|nt<|c0<|?_
 refine bf<|sg<|Pl 2<|L0<|aO cd 0<|?_
 have a1:=ud cc ce c9
 have b3:=aD j a1
 have b4:=nb (am n) o.size f
 refine L0<|i2 #[.agg #[.pointer (some ⟨d,0,none⟩),.pointer (some ⟨a,0,none⟩)]] #[] (args:=#[.agg #[.pointer (some ⟨d,0,none⟩),.pointer (some ⟨a,0,none⟩)]])<|m3 (ns (c:=c) ⟨hcode1,hcode2⟩ (al.old s (aD D a1)) (ub b3 F) (Ne.symm b4)) fun dd cf cg b5=>?_
 obtain⟨ch,K,a2⟩:=cg
 refine ab cf fun b8 ba bb=>?_
 refine ng<|Pl 1<|?_
 have bc:=uz a1 b5
 have bd:=nb (al.lt s) lr p
 have be:=aC.blk (us C bc) (aa t (aa (Ne.symm bd) (aa (Ne.symm (nb (am n) (le o.size z.size) p)) az))) v
 refine L0<|aO be 0<|L0<|Oc<|m2 (ck bb) fun de bg L=>nt<|sq<|sg<|Pl 1<|?_
 refine L0<|aO (aW L (Ne.symm bd) be) 0<|L0<|Oc<|mq (bC bg)<|?_
 have df:=al.len bg
 refine Pl 1<|ng<|Pl 2<|nt<|?_
 have a3:=u1 bc L im
 have bh:=ut E a3 (ac (ni u.size f) (ac (ni y.size g) ay))
 have hs:ai aF 0 c b=b6 ((d6 c (ak.mk b false 0)).2) ((d6 c (ak.mk b false 0)).1):=by
   unfold ai aF
   (try simp only[bs,if_true,if_false,decide_true,decide_false,eq_self,true_or,or_true,or_false,false_or,if_true,if_false,dE,dC,dD,dF,reduceIte,k1,k2,k5,r])
   all_goals rfl
 refine cb ((b8.endC.e != 0)) (fun a4=>?_) (fun a4=>?_)
 have a5:=ax a4
 refine sg<|Pl 2<|?_
 refine L0<|b7 (ub (ud i (ud j a3 f) g) k) mZ fun dg ci cj=>Pl 1<|nt<|rt<|tr<|bJ ci (.int .i64 b8.endC.e)<|?_
 subst ba
 rw[hs]
 exact bz a5 (ud bh cj l)
 have a5:=ag a4
 refine bf<|sg<|?_
 refine L0<|bO (hz:=(by rw[K.2];exact aI)) (aW L b4 K.1)<|?_
 refine L0<|b7 (hz:=(by rw[K.2];exact aI)) (hv:=a2.size) (h1:=a2.one) (ub (ud i (ud j a3 f) g) k) (ch) fun dh cl bi=>Pl 1<|nt<|rt<|eJ 22 K.2 cl (.int .i64 0)<|?_
 subst ba
 rw[hs]
 exact bE a5 (aH.upd a2 (us L bi) (aq (al.safe bb _ (by decide)) (aq (aU (ub (ud i (ud b3 b5 f) g) k) (by decide)) aG))) (ud bh bi l)
 have k1:(c==1)=false:=by rw[hk];rfl
 have k2:(c==2)=false:=by rw[hk];rfl
 have k5:(c==5)=false:=by rw[hk];rfl
 have r:(c==15)=true:=by rw[hk];rfl
 refine L0<|o9 (hf:=(by subst hk;kernel_rfl)) B c (.agg #[.nilFunc,.nilFunc]) (some (3,.agg #[.func (.func 199) #[.agg #[.pointer (some ⟨d,0,none⟩),.pointer (some ⟨a,0,none⟩)]] #[],.func (.func 200) #[.agg #[.pointer (some ⟨d,0,none⟩),.pointer (some ⟨a,0,none⟩)]] #[]]))<|Pl 3<|L0<|bH #[.nilFunc,.nilFunc] fun di dj cm cn co=>L0<|b7 cn #[.func (.func 199) #[.agg #[.pointer (some ⟨d,0,none⟩),.pointer (some ⟨a,0,none⟩)]] #[],.func (.func 200) #[.agg #[.pointer (some ⟨d,0,none⟩),.pointer (some ⟨a,0,none⟩)]] #[]] fun dk cq cr=>Pl 1<|nt<|sq<|sg<|Pl 2<|nt<|c0<|?_
 refine bf<|sg<|Pl 2<|L0<|aO cq 0<|?_
 have a6:=ud co cr cm
 have bj:=aD j a6
 have bk:=nb (am n) o.size f
 refine L0<|i2 #[.agg #[.pointer (some ⟨d,0,none⟩),.pointer (some ⟨a,0,none⟩)]] #[] (args:=#[.agg #[.pointer (some ⟨d,0,none⟩),.pointer (some ⟨a,0,none⟩)]])<|m3 (ws (c:=c) ⟨hcode1,hcode2⟩ (al.old s (aD D a6)) (ub bj F) (Ne.symm bk)) fun dl bl cs bm=>?_
 obtain⟨ct,M,a7⟩:=cs
 refine ng<|Pl 1<|?_
 have bn:=uz a6 bm
 have bo:=nb (al.lt s) lr p
 have bp:=aC.blk (us C bn) (aa t (aa (Ne.symm bo) (aa (Ne.symm (nb (am n) (le o.size z.size) p)) az))) v
 refine L0<|aO bp 0<|L0<|Oc<|m2 (ck bl) fun dn cu N=>?_
 refine ab cu fun bq br bt=>?_
 refine nt<|sq<|sg<|Pl 1<|?_
 refine L0<|aO (aW N (Ne.symm bo) bp) 0<|L0<|Oc<|mq (bC bt)<|?_
 have dp:=al.len bt
 refine Pl 1<|ng<|Pl 2<|nt<|?_
 have a8:=u1 bn N im
 have bu:=ut E a8 (ac (ni u.size f) (ac (ni y.size g) ay))
 have hs:ai aF 0 c b=b6 ((ga c (ak.mk b false 0)).2) ((ga c (ak.mk b false 0)).1):=by
   unfold ai aF
   (try simp only[bs,if_true,if_false,decide_true,decide_false,eq_self,true_or,or_true,or_false,false_or,if_true,if_false,dE,dC,dD,dF,reduceIte,k1,k2,k5,r])
   all_goals rfl
 refine cb ((bq.e != 0)) (fun a9=>?_) (fun a9=>?_)
 have ad:=ax a9
 refine sg<|Pl 2<|?_
 refine L0<|b7 (ub (ud i (ud j a8 f) g) k) mZ fun dq cv cw=>Pl 1<|nt<|rt<|tr<|bJ cv (.int .i64 bq.e)<|?_
 subst br
 rw[hs]
 exact bz ad (ud bu cw l)
 have ad:=ag a9
 refine bf<|sg<|?_
 refine L0<|bO (hz:=(by rw[M.2];exact aI)) (aW N bk M.1)<|?_
 refine L0<|b7 (hz:=(by rw[M.2];exact aI)) (hv:=a7.size) (h1:=a7.one) (ub (ud i (ud j a8 f) g) k) (ct) fun dr cx bv=>Pl 1<|nt<|rt<|eJ 22 M.2 cx (.int .i64 0)<|?_
 subst br
 rw[hs]
 exact bE ad (aH.upd a7 (us N bv) (aq (al.safe bl _ (by decide)) (aq (aU (ub (ud i (ud bj bm f) g) k) (by decide)) aG))) (ud bu bv l)
 have k1:(c==1)=false:=by simpa using hk.1
 have k2:(c==2)=false:=by simpa using hk.2.1
 have k5:(c==5)=false:=by simpa using hk.2.2.1
 have r:(c==15)=false:=by simpa using hk.2.2.2
 refine L0<|o9 (hf:=(Al (q:=.u8) (x:=c) #[⟨.int .u8 1,.agg #[.func (.func 196) #[.agg #[.pointer (some ⟨d,0,none⟩),.pointer (some ⟨a,0,none⟩)]] #[],.func (.func 197) #[.agg #[.pointer (some ⟨d,0,none⟩),.pointer (some ⟨a,0,none⟩)]] #[]],0⟩,⟨.int .u8 2,.agg #[.func (.func 196) #[.agg #[.pointer (some ⟨d,0,none⟩),.pointer (some ⟨a,0,none⟩)]] #[],.func (.func 197) #[.agg #[.pointer (some ⟨d,0,none⟩),.pointer (some ⟨a,0,none⟩)]] #[]],1⟩,⟨.int .u8 5,.agg #[.func (.func 198) #[.agg #[.pointer (some ⟨d,0,none⟩),.pointer (some ⟨a,0,none⟩)]] #[],.func (.func 198) #[.agg #[.pointer (some ⟨d,0,none⟩),.pointer (some ⟨a,0,none⟩)]] #[]],2⟩,⟨.int .u8 15,.agg #[.func (.func 199) #[.agg #[.pointer (some ⟨d,0,none⟩),.pointer (some ⟨a,0,none⟩)]] #[],.func (.func 200) #[.agg #[.pointer (some ⟨d,0,none⟩),.pointer (some ⟨a,0,none⟩)]] #[]],3⟩] (fO _ _ (by intro e he;simp only[List.mem_cons,List.not_mem_nil,or_false] at he;obtain⟨z1,z2,z5,ds⟩:=hk;rcases he with rfl | rfl | rfl | rfl<;>exact⟨_,rfl,fun h=>by simp_all⟩)))) B c (.agg #[.nilFunc,.nilFunc]) none<|Pl 3<|L0<|bH #[.nilFunc,.nilFunc] fun dt du cy cz cB=>L0<|b7 cz #[.nilFunc,.nilFunc] fun dv dw cC=>Pl 1<|nt<|sq<|sg<|Pl 2<|nt<|c1<|?_
 refine sg<|Pl 1<|?_
 have bw:=ud cB cC cy
 refine L0<|b7 (ub (aD i (aD j bw)) k) mZ fun dx cD cE=>Pl 1<|nt<|rt<|tr<|bJ cD (.int .i64 4)<|?_
 have hs:ai aF 0 c b=(aP.zero,4):=by
   unfold ai aF
   (try simp only[bs,if_true,if_false,decide_true,decide_false,eq_self,true_or,or_true,or_false,false_or,if_true,if_false,dE,dC,dD,dF,reduceIte,k1,k2,k5,r])
   all_goals rfl
 rw[hs]
 exact cA (ud E (uz bw cE) l)
theorem mt{m:Md}{A:Option Addr}{cp:Nat}{b:List Int}{w:World}{c:Int}(hcode:B8 c)(hsl:b9 m w (.slice A b.length cp) b)(hb:b.length≤1048576) :
    Calls Tryz.prog 138 #[.int .i64 1,.int .u8 c,.slice A b.length cp] w (dX (ai aF 1 c b) w):=by
 obtain⟨hcode1,hcode2⟩:=hcode
 have hln:(b.length:Int)≤1048576:=by omega
 refine en 72 Tryz.func138 rfl<|sg<|L0<|bH mZ fun cF cG l k y=>Pl 1<|nt<|sq<|sg<|Pl 6<|nt<|c0<|?_
 refine bf<|sg<|Pl 2<|L0<|bH mZ fun a cH g n bx=>L0<|b7 n (mC c) fun cI F o=>ng<|Pl 1<|?_
 have i:=ud bx o g
 have u:=aD y i
 refine L0<|Oc<|e3 (ec (b9.old hsl u) (by omega)) fun d cJ f s z=>Pl 1<|L0<|bH #[.pointer none,.pointer none] fun cK cL p ae bA=>L0<|b7 ae #[.pointer (some ⟨d,0,none⟩),.pointer (some ⟨a,0,none⟩)] fun cM bB af=>ng<|L0<|xJ fun cN cO ah bD aj=>?_
 have O:=ub aj bB
 refine L0<|bO O<|Pl 1<|L0<|bO O<|Pl 2<|L0<|hZ bD 1 fun cP bF an=>?_
 have t:=nb (am ae) af.size ah
 have P:=aW an t O
 refine L0<|bO P<|Pl 1<|L0<|bO P<|Pl 2<|L0<|hZ bF 2 fun cQ bG ao=>?_
 have Q:=aW ao t P
 refine L0<|bO Q<|Pl 1<|L0<|bO Q<|Pl 2<|L0<|hZ bG 5 fun cR bI ap=>?_
 have v:=aW ap t Q
 refine L0<|bO v<|Pl 1<|L0<|bO v<|Pl 2<|L0<|hZ bI 15 fun cS B C=>Pl 2<|ng<|Pl 2<|?_
 have D:=ud bA (aD af (ud aj (u1 an (u1 ao (u1 ap C im) im) im) ah)) p
 have j:=aD z D
 have E:=aD u j
 rcases yb c with hk|hk|hk|hk|hk
 have k1:(c==1)=true:=by rw[hk];rfl
 have k2:(c==2)=false:=by rw[hk];rfl
 have k5:(c==5)=false:=by rw[hk];rfl
 have r:(c==15)=false:=by rw[hk];rfl
 refine L0<|o9 (hf:=(by subst hk;kernel_rfl)) B c (.agg #[.nilFunc,.nilFunc]) (some (0,.agg #[.func (.func 196) #[.agg #[.pointer (some ⟨d,0,none⟩),.pointer (some ⟨a,0,none⟩)]] #[],.func (.func 197) #[.agg #[.pointer (some ⟨d,0,none⟩),.pointer (some ⟨a,0,none⟩)]] #[]]))<|Pl 3<|L0<|bH #[.nilFunc,.nilFunc] fun cT cU bK bL bM=>L0<|b7 bL #[.func (.func 196) #[.agg #[.pointer (some ⟨d,0,none⟩),.pointer (some ⟨a,0,none⟩)]] #[],.func (.func 197) #[.agg #[.pointer (some ⟨d,0,none⟩),.pointer (some ⟨a,0,none⟩)]] #[]] fun cV bN bP=>Pl 1<|nt<|sq<|sg<|Pl 2<|nt<|c0<|?_
 refine bf<|sg<|Pl 2<|L0<|aO bN 1<|?_
 have R:=ud bM bP bK
 have ar:=aD j R
 have au:=nb (am n) o.size f
 refine L0<|i2 #[.agg #[.pointer (some ⟨d,0,none⟩),.pointer (some ⟨a,0,none⟩)]] #[] (args:=#[.agg #[.pointer (some ⟨d,0,none⟩),.pointer (some ⟨a,0,none⟩)]])<|m3 (nj (c:=c) ⟨hcode1,hcode2⟩ (al.old s (aD D R)) (ub ar F) (Ne.symm au)) fun cW bQ bR av=>?_
 obtain⟨bS,G,S⟩:=bR
 refine ab bQ fun x89 aw aA=>?_
 refine ng<|Pl 1<|?_
 have aB:=uz R av
 have aE:=nb (al.lt s) lr p
 have aJ:=aC.blk (us C aB) (aa t (aa (Ne.symm aE) (aa (Ne.symm (nb (am n) (le o.size z.size) p)) az))) v
 refine L0<|aO aJ 0<|L0<|Oc<|m2 (ck aA) fun cX aK H=>nt<|sq<|sg<|Pl 1<|?_
 refine L0<|aO (aW H (Ne.symm aE) aJ) 0<|L0<|Oc<|mq (bC aK)<|?_
 have cY:=al.len aK
 refine Pl 1<|ng<|Pl 2<|nt<|?_
 have T:=u1 aB H im
 have aL:=ut E T (ac (ni u.size f) (ac (ni y.size g) ay))
 have hs:ai aF 1 c b=b6 ((dh c (ak.mk b false 0)).2) ((dh c (ak.mk b false 0)).1):=by
   unfold ai aF
   (try simp only[bs,if_true,if_false,decide_true,decide_false,eq_self,true_or,or_true,or_false,false_or,if_true,if_false,dE,dC,dD,dF,reduceIte,k1,k2,k5,r])
   all_goals rfl
 refine cb ((x89.endC.e != 0)) (fun U=>?_) (fun U=>?_)
 have V:=ax U
 refine sg<|Pl 2<|?_
 refine L0<|b7 (ub (ud i (ud j T f) g) k) mZ fun cZ bT bU=>Pl 1<|nt<|rt<|tr<|bJ bT (.int .i64 x89.endC.e)<|?_
 subst aw
 rw[hs]
 exact bz V (ud aL bU l)
 have V:=ag U
 refine bf<|sg<|?_
 refine L0<|bO (hz:=(by rw[G.2];exact aI)) (aW H au G.1)<|?_
 refine L0<|b7 (hz:=(by rw[G.2];exact aI)) (hv:=S.size) (h1:=S.one) (ub (ud i (ud j T f) g) k) (bS) fun d0 bV aM=>Pl 1<|nt<|rt<|eJ 22 G.2 bV (.int .i64 0)<|?_
 subst aw
 rw[hs]
 exact bE V (aH.upd S (us H aM) (aq (al.safe aA _ (by decide)) (aq (aU (ub (ud i (ud ar av f) g) k) (by decide)) aG))) (ud aL aM l)
 have k1:(c==1)=false:=by rw[hk];rfl
 have k2:(c==2)=true:=by rw[hk];rfl
 have k5:(c==5)=false:=by rw[hk];rfl
 have r:(c==15)=false:=by rw[hk];rfl
 refine L0<|o9 (hf:=(by subst hk;kernel_rfl)) B c (.agg #[.nilFunc,.nilFunc]) (some (1,.agg #[.func (.func 196) #[.agg #[.pointer (some ⟨d,0,none⟩),.pointer (some ⟨a,0,none⟩)]] #[],.func (.func 197) #[.agg #[.pointer (some ⟨d,0,none⟩),.pointer (some ⟨a,0,none⟩)]] #[]]))<|Pl 3<|L0<|bH #[.nilFunc,.nilFunc] fun d1 d2 bW bX bY=>L0<|b7 bX #[.func (.func 196) #[.agg #[.pointer (some ⟨d,0,none⟩),.pointer (some ⟨a,0,none⟩)]] #[],.func (.func 197) #[.agg #[.pointer (some ⟨d,0,none⟩),.pointer (some ⟨a,0,none⟩)]] #[]] fun d3 bZ c2=>Pl 1<|nt<|sq<|sg<|Pl 2<|nt<|c0<|?_
 refine bf<|sg<|Pl 2<|L0<|aO bZ 1<|?_
 have W:=ud bY c2 bW
 have aN:=aD j W
 have aQ:=nb (am n) o.size f
 refine L0<|i2 #[.agg #[.pointer (some ⟨d,0,none⟩),.pointer (some ⟨a,0,none⟩)]] #[] (args:=#[.agg #[.pointer (some ⟨d,0,none⟩),.pointer (some ⟨a,0,none⟩)]])<|m3 (nj (c:=c) ⟨hcode1,hcode2⟩ (al.old s (aD D W)) (ub aN F) (Ne.symm aQ)) fun d4 c3 c4 aR=>?_
 obtain⟨c5,I,X⟩:=c4
 refine ab c3 fun aS aT aV=>?_
 refine ng<|Pl 1<|?_
 have aX:=uz W aR
 have aY:=nb (al.lt s) lr p
 have aZ:=aC.blk (us C aX) (aa t (aa (Ne.symm aY) (aa (Ne.symm (nb (am n) (le o.size z.size) p)) az))) v
 refine L0<|aO aZ 0<|L0<|Oc<|m2 (ck aV) fun d5 b0 J=>nt<|sq<|sg<|Pl 1<|?_
 refine L0<|aO (aW J (Ne.symm aY) aZ) 0<|L0<|Oc<|mq (bC b0)<|?_
 have d7:=al.len b0
 refine Pl 1<|ng<|Pl 2<|nt<|?_
 have Y:=u1 aX J im
 have b1:=ut E Y (ac (ni u.size f) (ac (ni y.size g) ay))
 have hs:ai aF 1 c b=b6 ((dh c (ak.mk b false 0)).2) ((dh c (ak.mk b false 0)).1):=by
   unfold ai aF
   (try simp only[bs,if_true,if_false,decide_true,decide_false,eq_self,true_or,or_true,or_false,false_or,if_true,if_false,dE,dC,dD,dF,reduceIte,k1,k2,k5,r])
   all_goals rfl
 refine cb ((aS.endC.e != 0)) (fun Z=>?_) (fun Z=>?_)
 have a0:=ax Z
 refine sg<|Pl 2<|?_
 refine L0<|b7 (ub (ud i (ud j Y f) g) k) mZ fun d8 c6 c7=>Pl 1<|nt<|rt<|tr<|bJ c6 (.int .i64 aS.endC.e)<|?_
 subst aT
 rw[hs]
 exact bz a0 (ud b1 c7 l)
 have a0:=ag Z
 refine bf<|sg<|?_
 refine L0<|bO (hz:=(by rw[I.2];exact aI)) (aW J aQ I.1)<|?_
 refine L0<|b7 (hz:=(by rw[I.2];exact aI)) (hv:=X.size) (h1:=X.one) (ub (ud i (ud j Y f) g) k) (c5) fun d9 c8 b2=>Pl 1<|nt<|rt<|eJ 22 I.2 c8 (.int .i64 0)<|?_
 subst aT
 rw[hs]
 exact bE a0 (aH.upd X (us J b2) (aq (al.safe aV _ (by decide)) (aq (aU (ub (ud i (ud aN aR f) g) k) (by decide)) aG))) (ud b1 b2 l)
 have k1:(c==1)=false:=by rw[hk];rfl
 have k2:(c==2)=false:=by rw[hk];rfl
 have k5:(c==5)=true:=by rw[hk];rfl
 have r:(c==15)=false:=by rw[hk];rfl
 refine L0<|o9 (hf:=(by subst hk;kernel_rfl)) B c (.agg #[.nilFunc,.nilFunc]) (some (2,.agg #[.func (.func 198) #[.agg #[.pointer (some ⟨d,0,none⟩),.pointer (some ⟨a,0,none⟩)]] #[],.func (.func 198) #[.agg #[.pointer (some ⟨d,0,none⟩),.pointer (some ⟨a,0,none⟩)]] #[]]))<|Pl 3<|L0<|bH #[.nilFunc,.nilFunc] fun da db c9 ca cc=>L0<|b7 ca #[.func (.func 198) #[.agg #[.pointer (some ⟨d,0,none⟩),.pointer (some ⟨a,0,none⟩)]] #[],.func (.func 198) #[.agg #[.pointer (some ⟨d,0,none⟩),.pointer (some ⟨a,0,none⟩)]] #[]] fun dc cd ce=>Pl 1<|nt<|sq<|sg<|Pl 2<|nt<|c0<|?_
 refine bf<|sg<|Pl 2<|L0<|aO cd 1<|?_
 have a1:=ud cc ce c9
 have b3:=aD j a1
 have b4:=nb (am n) o.size f
 refine L0<|i2 #[.agg #[.pointer (some ⟨d,0,none⟩),.pointer (some ⟨a,0,none⟩)]] #[] (args:=#[.agg #[.pointer (some ⟨d,0,none⟩),.pointer (some ⟨a,0,none⟩)]])<|m3 (ns (c:=c) ⟨hcode1,hcode2⟩ (al.old s (aD D a1)) (ub b3 F) (Ne.symm b4)) fun dd cf cg b5=>?_
 obtain⟨ch,K,a2⟩:=cg
 refine ab cf fun b8 ba bb=>?_
 refine ng<|Pl 1<|?_
 have bc:=uz a1 b5
 have bd:=nb (al.lt s) lr p
 have be:=aC.blk (us C bc) (aa t (aa (Ne.symm bd) (aa (Ne.symm (nb (am n) (le o.size z.size) p)) az))) v
 refine L0<|aO be 0<|L0<|Oc<|m2 (ck bb) fun de bg L=>nt<|sq<|sg<|Pl 1<|?_
 refine L0<|aO (aW L (Ne.symm bd) be) 0<|L0<|Oc<|mq (bC bg)<|?_
 have df:=al.len bg
 refine Pl 1<|ng<|Pl 2<|nt<|?_
 have a3:=u1 bc L im
 have bh:=ut E a3 (ac (ni u.size f) (ac (ni y.size g) ay))
 have hs:ai aF 1 c b=b6 ((d6 c (ak.mk b false 0)).2) ((d6 c (ak.mk b false 0)).1):=by
   unfold ai aF
   (try simp only[bs,if_true,if_false,decide_true,decide_false,eq_self,true_or,or_true,or_false,false_or,if_true,if_false,dE,dC,dD,dF,reduceIte,k1,k2,k5,r])
   all_goals rfl
 refine cb ((b8.endC.e != 0)) (fun a4=>?_) (fun a4=>?_)
 have a5:=ax a4
 refine sg<|Pl 2<|?_
 refine L0<|b7 (ub (ud i (ud j a3 f) g) k) mZ fun dg ci cj=>Pl 1<|nt<|rt<|tr<|bJ ci (.int .i64 b8.endC.e)<|?_
 subst ba
 rw[hs]
 exact bz a5 (ud bh cj l)
 have a5:=ag a4
 refine bf<|sg<|?_
 refine L0<|bO (hz:=(by rw[K.2];exact aI)) (aW L b4 K.1)<|?_
 refine L0<|b7 (hz:=(by rw[K.2];exact aI)) (hv:=a2.size) (h1:=a2.one) (ub (ud i (ud j a3 f) g) k) (ch) fun di cl bi=>Pl 1<|nt<|rt<|eJ 22 K.2 cl (.int .i64 0)<|?_
 subst ba
 rw[hs]
 exact bE a5 (aH.upd a2 (us L bi) (aq (al.safe bb _ (by decide)) (aq (aU (ub (ud i (ud b3 b5 f) g) k) (by decide)) aG))) (ud bh bi l)
 have k1:(c==1)=false:=by rw[hk];rfl
 have k2:(c==2)=false:=by rw[hk];rfl
 have k5:(c==5)=false:=by rw[hk];rfl
 have r:(c==15)=true:=by rw[hk];rfl
 refine L0<|o9 (hf:=(by subst hk;kernel_rfl)) B c (.agg #[.nilFunc,.nilFunc]) (some (3,.agg #[.func (.func 199) #[.agg #[.pointer (some ⟨d,0,none⟩),.pointer (some ⟨a,0,none⟩)]] #[],.func (.func 200) #[.agg #[.pointer (some ⟨d,0,none⟩),.pointer (some ⟨a,0,none⟩)]] #[]]))<|Pl 3<|L0<|bH #[.nilFunc,.nilFunc] fun dj dk cm cn co=>L0<|b7 cn #[.func (.func 199) #[.agg #[.pointer (some ⟨d,0,none⟩),.pointer (some ⟨a,0,none⟩)]] #[],.func (.func 200) #[.agg #[.pointer (some ⟨d,0,none⟩),.pointer (some ⟨a,0,none⟩)]] #[]] fun dl cq cr=>Pl 1<|nt<|sq<|sg<|Pl 2<|nt<|c0<|?_
 refine bf<|sg<|Pl 2<|L0<|aO cq 1<|?_
 have a6:=ud co cr cm
 have bj:=aD j a6
 have bk:=nb (am n) o.size f
 refine L0<|i2 #[.agg #[.pointer (some ⟨d,0,none⟩),.pointer (some ⟨a,0,none⟩)]] #[] (args:=#[.agg #[.pointer (some ⟨d,0,none⟩),.pointer (some ⟨a,0,none⟩)]])<|m3 (vI (c:=c) ⟨hcode1,hcode2⟩ (al.old s (aD D a6)) (ub bj F) (Ne.symm bk)) fun dn cs ct bl=>?_
 obtain⟨cu,M,a7⟩:=ct
 refine ab cs fun bm bn bo=>?_
 refine ng<|Pl 1<|?_
 have bp:=uz a6 bl
 have bq:=nb (al.lt s) lr p
 have br:=aC.blk (us C bp) (aa t (aa (Ne.symm bq) (aa (Ne.symm (nb (am n) (le o.size z.size) p)) az))) v
 refine L0<|aO br 0<|L0<|Oc<|m2 (ck bo) fun dp bt N=>nt<|sq<|sg<|Pl 1<|?_
 refine L0<|aO (aW N (Ne.symm bq) br) 0<|L0<|Oc<|mq (bC bt)<|?_
 have dq:=al.len bt
 refine Pl 1<|ng<|Pl 2<|nt<|?_
 have a8:=u1 bp N im
 have bu:=ut E a8 (ac (ni u.size f) (ac (ni y.size g) ay))
 have hs:ai aF 1 c b=b6 ((dm 1968 c (ak.mk b false 0)).2) ((dm 1968 c (ak.mk b false 0)).1):=by
   unfold ai aF
   (try simp only[bs,if_true,if_false,decide_true,decide_false,eq_self,true_or,or_true,or_false,false_or,if_true,if_false,dE,dC,dD,dF,reduceIte,k1,k2,k5,r])
   all_goals rfl
 refine cb ((bm.endC.e != 0)) (fun a9=>?_) (fun a9=>?_)
 have ad:=ax a9
 refine sg<|Pl 2<|?_
 refine L0<|b7 (ub (ud i (ud j a8 f) g) k) mZ fun dr cv cw=>Pl 1<|nt<|rt<|tr<|bJ cv (.int .i64 bm.endC.e)<|?_
 subst bn
 rw[hs]
 exact bz ad (ud bu cw l)
 have ad:=ag a9
 refine bf<|sg<|?_
 refine L0<|bO (hz:=(by rw[M.2];exact aI)) (aW N bk M.1)<|?_
 refine L0<|b7 (hz:=(by rw[M.2];exact aI)) (hv:=a7.size) (h1:=a7.one) (ub (ud i (ud j a8 f) g) k) (cu) fun ds cx bv=>Pl 1<|nt<|rt<|eJ 22 M.2 cx (.int .i64 0)<|?_
 subst bn
 rw[hs]
 exact bE ad (aH.upd a7 (us N bv) (aq (al.safe bo _ (by decide)) (aq (aU (ub (ud i (ud bj bl f) g) k) (by decide)) aG))) (ud bu bv l)
 have k1:(c==1)=false:=by simpa using hk.1
 have k2:(c==2)=false:=by simpa using hk.2.1
 have k5:(c==5)=false:=by simpa using hk.2.2.1
 have r:(c==15)=false:=by simpa using hk.2.2.2
 refine L0<|o9 (hf:=(Al (q:=.u8) (x:=c) #[⟨.int .u8 1,.agg #[.func (.func 196) #[.agg #[.pointer (some ⟨d,0,none⟩),.pointer (some ⟨a,0,none⟩)]] #[],.func (.func 197) #[.agg #[.pointer (some ⟨d,0,none⟩),.pointer (some ⟨a,0,none⟩)]] #[]],0⟩,⟨.int .u8 2,.agg #[.func (.func 196) #[.agg #[.pointer (some ⟨d,0,none⟩),.pointer (some ⟨a,0,none⟩)]] #[],.func (.func 197) #[.agg #[.pointer (some ⟨d,0,none⟩),.pointer (some ⟨a,0,none⟩)]] #[]],1⟩,⟨.int .u8 5,.agg #[.func (.func 198) #[.agg #[.pointer (some ⟨d,0,none⟩),.pointer (some ⟨a,0,none⟩)]] #[],.func (.func 198) #[.agg #[.pointer (some ⟨d,0,none⟩),.pointer (some ⟨a,0,none⟩)]] #[]],2⟩,⟨.int .u8 15,.agg #[.func (.func 199) #[.agg #[.pointer (some ⟨d,0,none⟩),.pointer (some ⟨a,0,none⟩)]] #[],.func (.func 200) #[.agg #[.pointer (some ⟨d,0,none⟩),.pointer (some ⟨a,0,none⟩)]] #[]],3⟩] (fO _ _ (by intro e he;simp only[List.mem_cons,List.not_mem_nil,or_false] at he;obtain⟨z1,z2,z5,dt⟩:=hk;rcases he with rfl | rfl | rfl | rfl<;>exact⟨_,rfl,fun h=>by simp_all⟩)))) B c (.agg #[.nilFunc,.nilFunc]) none<|Pl 3<|L0<|bH #[.nilFunc,.nilFunc] fun du dv cy cz cB=>L0<|b7 cz #[.nilFunc,.nilFunc] fun dw dx cC=>Pl 1<|nt<|sq<|sg<|Pl 2<|nt<|c1<|?_
 refine sg<|Pl 1<|?_
 have bw:=ud cB cC cy
 refine L0<|b7 (ub (aD i (aD j bw)) k) mZ fun dy cD cE=>Pl 1<|nt<|rt<|tr<|bJ cD (.int .i64 4)<|?_
 have hs:ai aF 1 c b=(aP.zero,4):=by
   unfold ai aF
   (try simp only[bs,if_true,if_false,decide_true,decide_false,eq_self,true_or,or_true,or_false,false_or,if_true,if_false,dE,dC,dD,dF,reduceIte,k1,k2,k5,r])
   all_goals rfl
 rw[hs]
 exact cA (ud E (uz bw cE) l)
theorem mw{m:Md}{A:Option Addr}{cp:Nat}{b:List Int}{w:World}{dir c:Int}(hcode:B8 c)(hsl:b9 m w (.slice A b.length cp) b)(hb:b.length≤1048576)(hd:¬ (dir=0∨dir=1)) :
    Calls Tryz.prog 138 #[.int .i64 dir,.int .u8 c,.slice A b.length cp] w (dX (ai aF dir c b) w):=by
 obtain⟨hcode1,hcode2⟩:=hcode
 have hln:(b.length:Int)≤1048576:=by omega
 have e0:(dir != 0)=true:=by simp;omega
 have e1:(dir != 1)=true:=by simp;omega
 refine en 72 Tryz.func138 rfl<|sg<|L0<|bH mZ fun g h a d e=>Pl 1<|nt<|sq<|sg<|Pl 3<|sy 16 e0<|Pl 3<|nl<|?_
 refine tn<|ct e1<|sg<|Pl 1<|L0<|b7 d mZ fun i dp f=>Pl 1<|nt<|rt<|tr<|bJ dp (.int .i64 1)<|?_
 have hs:ai aF dir c b=(aP.zero,1):=by
   unfold ai aF
   (try simp only[e0,e1,bs,if_true,if_false,decide_true,decide_false,eq_self,true_or,or_true,or_false,false_or,if_true,if_false,dE,dC,dD,dF,reduceIte,hd])
   all_goals rfl
 rw[hs]
 exact cA (ud e f a)
theorem ku{m:Md}{v:Value}{b:List Int}{w:World}{dir c:Int}(hc:B8 c)(h:b9 m w v b)(hb:b.length≤1048576) :
    Calls Tryz.prog 138 #[.int .i64 dir,.int .u8 c,v] w (dX (ai aF dir c b) w):=by
  obtain⟨A,cp,rfl,_,_⟩:=h.shape
  by_cases h0:dir=0
  · subst h0;exact my hc h hb
  by_cases h1:dir=1
  · subst h1;exact mt hc h hb
  exact mw hc h hb (by omega)
open Go.RowKit
def dA (c:ak) : ak:=(c.wordsC 1).need (c.wordV==0 || c.wordV==65535) 6
theorem yq{v:Int}(h:0≤v∧v<65536) : bits .and .u16 v 255=v%256:=by
  rw[u16_and v 255 h.1 h.2 (by decide) (by decide)]
  show((v.toNat &&& (2 ^ 8-1) : Nat) : Int)=_
  rw[Nat.and_two_pow_sub_one_eq_mod]
  omega
def fs (dir sub v:Int) : Bool:=if (sub==2 || (decide (11≤sub)&&decide (sub≤18)))&&dir==1 then true else if sub==1 then v==0 || v==65280 else if sub==3 then v%256==0 else v==0
theorem pC{g:Nat}{c:ak}{w:World}(hc:al w g c) :
    Calls Tryz.prog 249 #[.pointer (some ⟨g,0,none⟩)] w (mP g .u16 65536 c.wordV (dA c) w):=by
 have hr:=hc.wordV
 refine en 15 Tryz.func249 rfl<|sg<|Pl 1<|ng<|Pl 1<|L0<|Oc<|m3 (ci hc) fun l d e m=>Pl 1<|nt<|sq<|?_
 refine go<|Pl 4<|cu 3 [9] 12 (((c.wordV==0)||(c.wordV==65535))) (fun K b=>?_) ?_
 refine bl 9 ((c.wordV==0)) (fun a=>?_) (fun a=>?_)
 have f:=ah a
 exact Pl 3<|ce b true (by rw[a];rfl)
 have f:=aj a
 exact Pl 3<|ce b (c.wordV==65535) (by rw[a];rfl)
 refine L0<|Oc<|m2 (be (((c.wordV==0)||(c.wordV==65535))) 6 d) fun n h i=>?_
 refine ab h fun x19 j k=>?_
 refine ng<|Pl 2<|nt<|rt<|rr (.int .u16 c.wordV)<|?_
 subst j
 exact⟨rfl,k,(u1 e i im),hr⟩
theorem uw{v:Int}{w:World}:Calls Tryz.prog 265 #[.int .u16 v] w (cG (.bool (v==0 || v==65280)) w):=by
 refine en 9 Tryz.func265 rfl<|sg<|Pl 1<|ng<|Pl 3<|cu 3 [5] 8 (((v==0)||(v==65280))) (fun K b=>?_) ?_
 refine bl 5 ((v==0)) (fun a=>?_) (fun a=>?_)
 have c:=ah a
 exact Pl 3<|ce b true (by rw[a];rfl)
 have c:=aj a
 exact Pl 3<|ce b (v==65280) (by rw[a];rfl)
 refine Pl 1<|nt<|rt<|rr (.bool ((v==0)||(v==65280)))<|?_
 exact⟨rfl,(aC.refl [] _)⟩
theorem v4{v:Int}{w:World}(hv:0≤v∧v<65536) : Calls Tryz.prog 266 #[.int .u16 v] w (cG (.bool (v%256==0)) w):=by
 refine en 6 Tryz.func266 rfl<|sg<|Pl 1<|ng<|Pl 1<|L0<|Oe (.int .u16 (bits .and .u16 v 255)) (.int .u16 (v%256)) (congrArg (Value.int .u16) (yq (by omega)))<|Pl 2<|nt<|rt<|?_
 refine rr (.bool ((v%256)==0))<|?_
 exact⟨rfl,(aC.refl [] _)⟩
theorem v7{v x:Int}{gb:Nat}{w:World}(hB:w.heap[gb]? = some (.cells #[.int .u16 v] 24 (0,0))) : Calls Tryz.prog 264 #[.int .u16 x,.pointer (some ⟨gb,0,none⟩)] w (cG (.bool (v==0)) w):=by
 refine en 6 Tryz.func264 rfl<|sg<|Pl 1<|ng<|L0<|aO hB 0<|Pl 2<|nt<|rt<|rr (.bool (v==0))<|?_
 exact⟨rfl,(aC.refl [] _)⟩
theorem zB{dir v:Int}{w:World}(hv:0≤v∧v<65536) : Calls Tryz.prog 248 #[.int .i64 dir,.int .u16 1,.int .u16 v] w (cG (.bool (fs dir 1 v)) w):=by
 refine en 42 Tryz.func248 rfl<|sg<|L0<|dv #[.int .u16 v] fun l m n b c=>Pl 1<|ng<|Pl 2<|ng<|?_
 refine L0<|xJ fun o p d e f=>L0<|hZ e 1 fun q g h=>L0<|hZ g 3 fun r i j=>Pl 2<|ng<|Pl 11<|nt<|sq<|sg<|?_
 refine Pl 5<|nt<|c0<|bf<|sg<|Pl 2<|L0<|o9 i 1 (.nilFunc) (some (0,.func (.func 265) #[] #[]))<|Pl 5<|nt<|sq<|?_
 refine sg<|Pl 2<|nt<|c0<|bf<|sg<|Pl 1<|?_
 have a:=ud f (u1 h j im) d
 refine L0<|aO (ub a b) 0<|L0<|i2 #[] #[] (args:=#[.int .u16 v])<|m1 (uw) fun s k=>Pl 1<|nt<|rt<|rr (.bool (v==0 || v==65280))<|?_
 have hs:fs dir 1 v=(v==0 || v==65280):=by
   unfold fs
   (try simp only[bs,if_true,if_false,decide_true,decide_false,reduceIte])
   all_goals rfl
 rw[hs]
 exact⟨rfl,(aD c (aD a k))⟩
theorem zS{dir v:Int}{w:World}(hv:0≤v∧v<65536) : Calls Tryz.prog 248 #[.int .i64 dir,.int .u16 3,.int .u16 v] w (cG (.bool (fs dir 3 v)) w):=by
 refine en 42 Tryz.func248 rfl<|sg<|L0<|dv #[.int .u16 v] fun l m n b c=>Pl 1<|ng<|Pl 2<|ng<|?_
 refine L0<|xJ fun o p d e f=>L0<|hZ e 1 fun q g h=>L0<|hZ g 3 fun r i j=>Pl 2<|ng<|Pl 11<|nt<|sq<|sg<|?_
 refine Pl 5<|nt<|c0<|bf<|sg<|Pl 2<|L0<|o9 i 3 (.nilFunc) (some (1,.func (.func 266) #[] #[]))<|Pl 5<|nt<|sq<|?_
 refine sg<|Pl 2<|nt<|c0<|bf<|sg<|Pl 1<|?_
 have a:=ud f (u1 h j im) d
 refine L0<|aO (ub a b) 0<|L0<|i2 #[] #[] (args:=#[.int .u16 v])<|m1 (v4 hv) fun s k=>Pl 1<|nt<|rt<|rr (.bool (v%256==0))<|?_
 have hs:fs dir 3 v=(v%256==0):=by
   unfold fs
   (try simp only[bs,if_true,if_false,decide_true,decide_false,reduceIte])
   all_goals rfl
 rw[hs]
 exact⟨rfl,(aD c (aD a k))⟩
theorem zf{dir sub v:Int}{w:World}(hv:0≤v∧v<65536)(h1:sub≠1)(h3:sub≠3) : Calls Tryz.prog 248 #[.int .i64 dir,.int .u16 sub,.int .u16 v] w (cG (.bool (fs dir sub v)) w):=by
 have n1:(sub==1)=false:=by simpa using h1
 have n3:(sub==3)=false:=by simpa using h3
 refine en 42 Tryz.func248 rfl<|sg<|L0<|dv #[.int .u16 v] fun f G H o p=>Pl 1<|ng<|Pl 2<|ng<|?_
 refine L0<|xJ fun I J r s t=>L0<|hZ s 1 fun L u y=>L0<|hZ u 3 fun M z A=>Pl 2<|ng<|Pl 3<|cu 7 [17] 24 (((sub==2)||((decide (11≤sub))&&(decide (sub≤18))))) (fun K g=>?_) ?_
 refine bl 17 ((sub==2)) (fun a=>?_) (fun a=>?_)
 have B:=ah a
 exact Pl 7<|ce g true (by rw[a];rfl)
 have B:=aj a
 refine Pl 3<|cu 3 [20] 23 (((decide (11≤sub))&&(decide (sub≤18)))) (fun K i=>?_) ?_
 refine bl 20 ((decide (11≤sub))) (fun b=>?_) (fun b=>?_)
 have C:=of_decide_eq_true b
 exact Pl 3<|ce i (decide (sub≤18)) (by rw[b];rfl)
 have C:=of_decide_eq_false b
 exact Pl 3<|ce i false (by rw[b];rfl)
 exact Pl 1<|ce g ((decide (11≤sub))&&(decide (sub≤18))) (by rw[a];rfl)
 refine Pl 1<|nt<|sq<|sg<|Pl 2<|cu 3 [26] 29 ((((sub==2)||((decide (11≤sub))&&(decide (sub≤18))))&&(dir==1))) (fun K j=>?_) ?_
 refine bl 26 (((sub==2)||((decide (11≤sub))&&(decide (sub≤18))))) (fun c=>?_) (fun c=>?_)
 exact Pl 3<|ce j (dir==1) (by rw[c];rfl)
 have D:=(aE c).1
 have N:=(aE c).2
 have O:=aj D
 exact Pl 3<|ce j false (by rw[c];rfl)
 refine nt<|?_
 have k:=ud t (u1 y A im) r
 have l:=aD p k
 refine cb ((((sub==2)||((decide (11≤sub))&&(decide (sub≤18))))&&(dir==1))) (fun d=>?_) (fun d=>?_)
 have E:=(aT d).1
 have m:=(aT d).2
 have P:=ah m
 refine sg<|Pl 1<|nt<|rt<|tr<|rr (.bool true)<|?_
 have hs:fs dir sub v=true:=by
   unfold fs
   (try simp only[d,E,m,bs,if_true,if_false,decide_true,decide_false,n1,n3,reduceIte])
   all_goals rfl
 rw[hs]
 exact⟨rfl,l⟩
 refine bf<|sg<|Pl 2<|L0<|o9 (hf:=(Al (q:=.u16) (x:=sub) #[⟨.int .u16 1,.func (.func 265) #[] #[],0⟩,⟨.int .u16 3,.func (.func 266) #[] #[],1⟩] (fO _ _ (by intro e he;simp only[List.mem_cons,List.not_mem_nil,or_false] at he;rcases he with rfl | rfl;exact⟨_,rfl,fun h=>h1 h.symm⟩;exact⟨_,rfl,fun h=>h3 h.symm⟩)))) z sub (.nilFunc) none<|Pl 5<|nt<|sq<|sg<|Pl 2<|nl<|?_
 refine tn<|c1<|go<|Pl 2<|ng<|Pl 1<|?_
 have n:=ub k o
 refine L0<|aO n 0<|L0<|i2 #[] #[.pointer (some ⟨f,0,none⟩)] (args:=#[.int .u16 v,.pointer (some ⟨f,0,none⟩)])<|m1 (v7 n) fun Q F=>Pl 1<|nt<|rt<|rr (.bool (v==0))<|?_
 have hs:fs dir sub v=(v==0):=by
   unfold fs
   (try simp only[d,bs,if_true,if_false,decide_true,decide_false,n1,n3,reduceIte])
   all_goals rfl
 rw[hs]
 exact⟨rfl,(aD l F)⟩
theorem xx{dir sub v:Int}{w:World}(hv:0≤v∧v<65536) : Calls Tryz.prog 248 #[.int .i64 dir,.int .u16 sub,.int .u16 v] w (cG (.bool (fs dir sub v)) w):=by
  by_cases h1:sub=1
  · subst h1;exact zB hv
  by_cases h3:sub=3
  · subst h3;exact zS hv
  exact zf hv h1 h3
open Go.RowKit
def eP (dir:Int)(C:ak) : ak:=(C.wordsC 1).need (eA C.wordV&&(dir==0 || C.wordV != 4)) 8
def ji (C:ak) : ak:=C.need (((C.l.length:Int)%2==0&&decide (2≤(C.l.length:Int)))&&decide ((C.l.length:Int)≤250)) 5
def ea (dir c:Int)(C:ak) : ak × aP :=
  if C.wordV != 0 then (((eP dir C).wordsC 1).need ((((eP dir C).wordsR 1).length:Int)==1&&fs dir C.wordV (((eP dir C).wordsR 1).getD 0 0)) 6,{ aP.zero with code:=c,sub:=C.wordV,words:=(eP dir C).wordsR 1 })
  else ((ji (eP dir C)).wordsC (((eP dir C).l.length:Int)/2),{ aP.zero with code:=c,sub:=C.wordV,words:=(ji (eP dir C)).wordsR (((eP dir C).l.length:Int)/2) })
def fv (C:ak)(lo hi:Int) : ak:=(C.bytesC 1).need (decide (lo≤C.byteV)&&decide (C.byteV≤hi)) 5
def fU (C:ak) : ak:=((dA (fv C 6 70)).wordsC 1).wordsC 1
def cn (c:Int)(C:ak) : ak × aP :=
  if c==7 then (C.bytesC 1,{ aP.zero with code:=c,value:=C.byteV })
  else if c==11 then ((dA C).wordsC 1,{ aP.zero with code:=c,status:=C.wordV,events:=(dA C).wordV })
  else if c==12 then ((fU C).bytesC (C.byteV-6),{ aP.zero with code:=c,status:=(fv C 6 70).wordV,events:=(dA (fv C 6 70)).wordV,messages:=((dA (fv C 6 70)).wordsC 1).wordV,data:=(fU C).bytesR (C.byteV-6) })
  else if c==17 then ((fv C 1 251).bytesC C.byteV,{ aP.zero with code:=c,data:=(fv C 1 251).bytesR C.byteV })
  else (C,{ aP.zero with code:=c })
theorem oE{g gm:Nat}{dir c:Int}{C:ak}{w:World}(hcode:B8 c)(hC:al w g C)(hm:w.heap[gm]? = some (.cells #[.int .u8 c,.int .u8 0,.int .u16 0,.int .u16 0,.int .u16 0,.int .u16 0,.int .u16 0,.int .u16 0,.int .u16 0,.int .u16 0,.int .u16 0,.int .u16 0,.slice none 0 0,.slice none 0 0,.slice none 0 0,.slice none 0 0,.int .u8 0,.int .u8 0,.int .u8 0,.int .u8 0,.int .u8 0,.slice none 0 0] 30 (0,0)))(hne:g≠gm) :
    Calls Tryz.prog 206 #[.int .i64 dir,.pointer (some ⟨g,0,none⟩),.pointer (some ⟨gm,0,none⟩)] w (cz g gm (ea dir c C).1 (ea dir c C).2 w):=by
 obtain⟨hcode1,hcode2⟩:=hcode
 have hlen:=hC.len
 refine en 84 Tryz.func206 rfl<|sg<|Pl 2<|L0<|Oc<|m3 (ci hC) fun aZ a4 t b0=>Pl 2<|?_
 have J:=aW t (Ne.symm hne) hm
 refine L0<|bX J 8 (mG c 0 0 0 0 0 0 0 C.wordV 0 0 0 nS nS nS nS 0 0 0 0 0 nS) fun b1 dp L=>ng<|Pl 4<|L0<|aO dp 8<|L0<|Oc<|m1 (vN (x:=C.wordV) (w:=_)) fun b2 r=>Pl 1<|cu 10 [18] 28 (((eA C.wordV)&&((dir==0)||(C.wordV != 4)))) (fun K M=>?_) ?_
 refine bl 18 ((eA C.wordV)) (fun u=>?_) (fun u=>?_)
 refine Pl 3<|cu 6 [21] 27 (((dir==0)||(C.wordV != 4))) (fun K N=>?_) ?_
 refine bl 21 ((dir==0)) (fun j=>?_) (fun j=>?_)
 have a5:=ah j
 exact Pl 6<|ce N true (by rw[j];rfl)
 have a5:=aj j
 refine Pl 3<|?_
 exact L1<|aO (ub r dp) 8<|Pl 2<|ce N (C.wordV != 4) (by rw[j];rfl)
 exact Pl 1<|ce M ((dir==0)||(C.wordV != 4)) (by rw[u];rfl)
 exact Pl 10<|ce M false (by rw[u];rfl)
 have O:=aD L r
 refine L0<|Oc<|m2 (be (((eA C.wordV)&&((dir==0)||(C.wordV != 4)))) 8 (al.upd a4 O (aa hne az) (aq (aU J (by decide)) aG))) fun b3 a6 y=>?_
 refine ab a6 fun x30 z s=>?_
 refine nt<|sq<|sg<|Pl 3<|?_
 have A:=aW (uz r y) (Ne.symm hne) dp
 refine L0<|aO A 8<|Pl 1<|nt<|?_
 have d:=ui t (us O y)
 refine cb ((C.wordV != 0)) (fun f=>?_) (fun f=>?_)
 have a7:=ax f
 refine sg<|Pl 2<|L0<|Oc<|nW (eo (n:=1) s) fun P Q b4 i b5 b6 R S=>Pl 2<|?_
 have B:=aW S (Ne.symm hne) A
 refine L0<|bX B 12 (mG c 0 0 0 0 0 0 0 C.wordV 0 0 0 (.slice P ((x30.wordsR 1).length) Q) nS nS nS 0 0 0 0 0 nS) fun b7 a8 a9=>nt<|sq<|Rg 22 (fun w'=>w'.cell? ⟨gm,12,none⟩=some (.slice P ((x30.wordsR 1).length) Q)∧w'.cell? ⟨gm,8,none⟩=some (.int .u16 C.wordV)) fun b8 T=>?_
 have b:=ub T a8
 refine bi ⟨(ae b rfl),(ae b rfl)⟩ fun a=>Rt 0 a<|Rt 1 a<|Rt 2 a<|Rt 3 a<|Rl 4 a (fun _ hs=>hs.1)<|Rt 5 a<|Rt 6 a<|Rt 7 a<|?_
 have k:=aD a9 T
 have U:=ut d (us S k) (ac im (ac im ay))
 refine tJ 47 (((((x30.wordsR 1).length:Nat) : Int)==1)) (fun m=>?_) (fun m=>?_)
 have ad:=ah m
 refine Rt 8 a<|Rt 9 a<|Rt 10 a<|Rt 11 a<|Rl 12 a (fun _ hs=>hs.2)<|Rt 13 a<|Rt 14 a<|Rt 15 a<|Rl 16 a (fun _ hs=>hs.1)<|?_
 have V:=ap i k (fun x hx=>(aa (fun e=>(aB (am hm) d.size i) (e▸hx)) az)) (fun _ _ h=>h)
 refine gh (dU.at_ (V).rd 0 (by omega)) fun af ai an ao b9=>R0 17 rfl<|m8 ((x30.wordsR 1).length) 0 an (by omega)<|bi ⟨(ae b rfl),(ae b rfl)⟩ fun ba=>R0 18 rfl<|ei (p:=⟨af,ai+0,none⟩) (v:=.int .u16 ((x30.wordsR 1).getD 0 0)) ao<|bi ⟨(ae b rfl),(ae b rfl)⟩ fun bb=>R0 19 rfl<|Oc<|m1 (xx (dir:=dir) (sub:=C.wordV) (v:=((x30.wordsR 1).getD 0 0)) (by omega)) fun bc D=>?_
 have E:=ub D b
 refine bi ⟨(ae E rfl),(ae E rfl)⟩ fun ar=>Rt 20 ar<|?_
 refine R0 21 rfl<|Oc<|m2 (be ((fs dir C.wordV ((x30.wordsR 1).getD 0 0))) 6 (al.upd R (aD k D) (aa hne az) (aq (aU B (by decide)) aG))) fun bd au W=>?_
 refine ab au fun bg av aw=>?_
 have F:=aW W (Ne.symm hne) E
 refine bi ⟨(ae F rfl),(ae F rfl)⟩ fun bh=>re<|tn<|rt<|tr<|rr (.tuple #[])<|?_
 subst av z
 have X:=uz D W
 have hs:ea dir c C=(((((C.wordsC 1).need ((eA C.wordV)&&((dir==0)||(C.wordV != 4))) 8).wordsC 1).need (fs dir C.wordV ((((C.wordsC 1).need ((eA C.wordV)&&((dir==0)||(C.wordV != 4))) 8).wordsR 1).getD 0 0)) 6),(aP.mk c 0 0 0 0 0 0 0 C.wordV 0 0 0 (((C.wordsC 1).need ((eA C.wordV)&&((dir==0)||(C.wordV != 4))) 8).wordsR 1) [] [] [] 0 0 0 0 0 [])):=by
   unfold ea eP ji
   (try simp only[f,m,bs,if_true,if_false,decide_true,decide_false,reduceIte])
   all_goals rfl
 rw[hs]
 exact⟨rfl,aw,⟨_,⟨F,rfl⟩,⟨_,_,_,_,_,rfl,((ap V X (fun x hx=>(aa (fun e=>(aB (al.lt hC) d.size i) (e▸hx)) az)) (fun _ _ h=>h))).rd,aL.nil ..,aL.nil ..,aL.nil ..,aL.nil ..,(cj (by omega))⟩⟩,(aC.mono (S':=[g,gm]) (u1 U X im) (zn (Or.inl (by simp)) (Or.inl (by simp))))⟩
 have ad:=aj m
 refine Ro 8 a<|Ro 9 a<|Ro 10 a<|Ro 11 a<|Ro 12 a<|Ro 13 a<|Ro 14 a<|Ro 15 a<|Ro 16 a<|Ro 17 a<|Ro 18 a<|Ro 19 a<|Rt 20 a<|?_
 refine R0 21 rfl<|Oc<|m2 (be (false) 6 (al.upd R k (aa hne az) (aq (aU B (by decide)) aG))) fun bj aA G=>?_
 have H:=aW G (Ne.symm hne) b
 refine bi ⟨(ae H rfl),(ae H rfl)⟩ fun bk=>re<|tn<|rt<|tr<|rr (.tuple #[])<|?_
 subst z
 have hs:ea dir c C=(((((C.wordsC 1).need ((eA C.wordV)&&((dir==0)||(C.wordV != 4))) 8).wordsC 1).need false 6),(aP.mk c 0 0 0 0 0 0 0 C.wordV 0 0 0 (((C.wordsC 1).need ((eA C.wordV)&&((dir==0)||(C.wordV != 4))) 8).wordsR 1) [] [] [] 0 0 0 0 0 [])):=by
   unfold ea eP ji
   (try simp only[f,m,bs,if_true,if_false,decide_true,decide_false,reduceIte])
   all_goals rfl
 rw[hs]
 exact⟨rfl,aA,⟨_,⟨H,rfl⟩,⟨_,_,_,_,_,rfl,((ap i (us k G) (fun x hx=>(aa (fun e=>(aB (am hm) d.size i) (e▸hx)) (aa (fun e=>(aB (al.lt hC) d.size i) (e▸hx)) az))) (fun _ _ h=>h))).rd,aL.nil ..,aL.nil ..,aL.nil ..,aL.nil ..,(cj (by omega))⟩⟩,(aC.mono (S':=[g,gm]) (u1 U G im) (zn (Or.inl (by simp)) (Or.inl (by simp))))⟩
 have a7:=ag f
 refine bf<|sg<|Pl 1<|L0<|Oc<|mq (eC s)<|?_
 have bm:=al.len s
 refine Pl 1<|ng<|Pl 2<|L0<|Oe (.int .i64 (Int.tmod ((x30.l.length:Nat) : Int) 2)) (.int .i64 (((x30.l.length:Nat) : Int)%2)) (congrArg (Value.int .i64) (Int.tmod_eq_emod_of_nonneg (by omega)))<|Pl 2<|cu 3 [68] 71 ((((((x30.l.length:Nat) : Int)%2)==0)&&(decide (2≤((x30.l.length:Nat) : Int))))) (fun K Y=>?_) ?_
 refine bl 68 (((((x30.l.length:Nat) : Int)%2)==0)) (fun o=>?_) (fun o=>?_)
 have aE:=ah o
 exact Pl 3<|ce Y (decide (2≤((x30.l.length:Nat) : Int))) (by rw[o];rfl)
 have aE:=aj o
 exact Pl 3<|ce Y false (by rw[o];rfl)
 refine Pl 1<|cu 3 [72] 75 (((((((x30.l.length:Nat) : Int)%2)==0)&&(decide (2≤((x30.l.length:Nat) : Int))))&&(decide (((x30.l.length:Nat) : Int)≤250)))) (fun K Z=>?_) ?_
 refine bl 72 ((((((x30.l.length:Nat) : Int)%2)==0)&&(decide (2≤((x30.l.length:Nat) : Int))))) (fun q=>?_) (fun q=>?_)
 have aF:=(aT q).1
 have aH:=(aT q).2
 have bn:=ah aF
 have bo:=of_decide_eq_true aH
 exact Pl 3<|ce Z (decide (((x30.l.length:Nat) : Int)≤250)) (by rw[q];rfl)
 exact Pl 3<|ce Z false (by rw[q];rfl)
 refine L0<|Oc<|m2 (be (((((((x30.l.length:Nat) : Int)%2)==0)&&(decide (2≤((x30.l.length:Nat) : Int))))&&(decide (((x30.l.length:Nat) : Int)≤250)))) 5 s) fun bp aI a0=>?_
 refine ab aI fun aJ aK aM=>?_
 refine nt<|go<|Pl 3<|L0<|Oe (.int .i64 (IntKind.i64.wrap (Int.tdiv ((x30.l.length:Nat) : Int) 2))) (.int .i64 (((x30.l.length:Nat) : Int)/2)) (congrArg (Value.int .i64) (gi (by omega) (by omega)))<|L0<|Oc<|nW (eo (n:=(((x30.l.length:Nat) : Int)/2)) aM) fun aN aQ bq a1 br bt aR aS=>?_
 refine ab aR fun bu aV aX=>?_
 refine Pl 2<|?_
 have a2:=u1 a0 aS im
 have a3:=aW a2 (Ne.symm hne) A
 refine L0<|bX a3 12 (mG c 0 0 0 0 0 0 0 C.wordV 0 0 0 (.slice aN ((aJ.wordsR (((x30.l.length:Nat) : Int)/2)).length) aQ) nS nS nS 0 0 0 0 0 nS) fun bv aY I=>nl<|rm (.tuple #[])<|?_
 subst aV aK z
 have hs:ea dir c C=(((((C.wordsC 1).need ((eA C.wordV)&&((dir==0)||(C.wordV != 4))) 8).need ((((((((C.wordsC 1).need ((eA C.wordV)&&((dir==0)||(C.wordV != 4))) 8).l.length:Nat) : Int)%2)==0)&&(decide (2≤((((C.wordsC 1).need ((eA C.wordV)&&((dir==0)||(C.wordV != 4))) 8).l.length:Nat) : Int))))&&(decide (((((C.wordsC 1).need ((eA C.wordV)&&((dir==0)||(C.wordV != 4))) 8).l.length:Nat) : Int)≤250))) 5).wordsC (((((C.wordsC 1).need ((eA C.wordV)&&((dir==0)||(C.wordV != 4))) 8).l.length:Nat) : Int)/2)),(aP.mk c 0 0 0 0 0 0 0 C.wordV 0 0 0 ((((C.wordsC 1).need ((eA C.wordV)&&((dir==0)||(C.wordV != 4))) 8).need ((((((((C.wordsC 1).need ((eA C.wordV)&&((dir==0)||(C.wordV != 4))) 8).l.length:Nat) : Int)%2)==0)&&(decide (2≤((((C.wordsC 1).need ((eA C.wordV)&&((dir==0)||(C.wordV != 4))) 8).l.length:Nat) : Int))))&&(decide (((((C.wordsC 1).need ((eA C.wordV)&&((dir==0)||(C.wordV != 4))) 8).l.length:Nat) : Int)≤250))) 5).wordsR (((((C.wordsC 1).need ((eA C.wordV)&&((dir==0)||(C.wordV != 4))) 8).l.length:Nat) : Int)/2)) [] [] [] 0 0 0 0 0 [])):=by
   unfold ea eP ji
   (try simp only[f,bs,if_true,if_false,decide_true,decide_false,reduceIte])
   all_goals rfl
 rw[hs]
 exact⟨rfl,(al.upd aX I (aa hne az) (aq (aU a3 (by decide)) aG)),⟨_,⟨aY,rfl⟩,⟨_,_,_,_,_,rfl,((ap a1 I (fun x hx=>(aa (fun e=>(aB (am hm) (le (le (le (le t.size L.size) r.size) y.size) a0.size) a1) (e▸hx)) az)) (fun _ _ h=>h))).rd,aL.nil ..,aL.nil ..,aL.nil ..,aL.nil ..,(cj (by omega))⟩⟩,(aC.mono (S':=[g,gm]) (ut d (us a2 I) (ac im (ac im ay))) (zn (Or.inl (by simp)) (Or.inl (by simp))))⟩
theorem gW{g gm:Nat}{c:Int}{C:ak}{w:World}(hcode:B8 c)(hC:al w g C)(hm:w.heap[gm]? = some (.cells #[.int .u8 c,.int .u8 0,.int .u16 0,.int .u16 0,.int .u16 0,.int .u16 0,.int .u16 0,.int .u16 0,.int .u16 0,.int .u16 0,.int .u16 0,.int .u16 0,.slice none 0 0,.slice none 0 0,.slice none 0 0,.slice none 0 0,.int .u8 0,.int .u8 0,.int .u8 0,.int .u8 0,.int .u8 0,.slice none 0 0] 30 (0,0)))(hne:g≠gm) :
    Calls Tryz.prog 207 #[.pointer (some ⟨g,0,none⟩),.pointer (some ⟨gm,0,none⟩)] w (cz g gm (cn c C).1 (cn c C).2 w):=by
 obtain⟨hcode1,hcode2⟩:=hcode
 have hlen:=hC.len
 refine en 84 Tryz.func207 rfl<|sg<|Pl 3<|L0<|aO hm 0<|nt<|bk<|sg<|Pl 2<|nt<|cb ((c==7)) (fun a=>?_) (fun a=>?_)
 have M:=ah a
 refine go<|Pl 2<|L0<|Oc<|m3 (bY hC) fun aK N m aM=>L0<|zw C.byteV<|Pl 2<|?_
 have o:=aW m (Ne.symm hne) hm
 refine L0<|bX o 4 (mG c 0 0 0 C.byteV 0 0 0 0 0 0 0 nS nS nS nS 0 0 0 0 0 nS) fun aN O p=>nl<|bn<|rm (.tuple #[])<|?_
 have hs:cn c C=((C.bytesC 1),(aP.mk c 0 0 0 C.byteV 0 0 0 0 0 0 0 [] [] [] [] 0 0 0 0 0 [])):=by
   unfold cn fU fv
   (try simp only[a,bs,if_true,if_false,decide_true,decide_false,reduceIte])
   all_goals rfl
 rw[hs]
 exact⟨rfl,(al.upd N p (aa hne az) (aq (aU o (by decide)) aG)),⟨_,⟨O,rfl⟩,⟨_,_,_,_,_,rfl,aL.nil ..,aL.nil ..,aL.nil ..,aL.nil ..,aL.nil ..,(cj (by omega))⟩⟩,(us m p)⟩
 have M:=aj a
 refine sg<|Pl 2<|nt<|cb ((c==11)) (fun b=>?_) (fun b=>?_)
 have P:=ah b
 refine sg<|Pl 2<|L0<|Oc<|m3 (pC hC) fun aQ Q q aR=>Pl 2<|?_
 have r:=aW q (Ne.symm hne) hm
 refine L0<|bX r 9 (mG c 0 0 0 0 0 0 0 0 C.wordV 0 0 nS nS nS nS 0 0 0 0 0 nS) fun aS R s=>nt<|go<|Pl 2<|?_
 refine L0<|Oc<|m3 (ci (al.upd Q s (aa hne az) (aq (aU r (by decide)) aG))) fun aT S t aV=>Pl 2<|?_
 have u:=aW t (Ne.symm hne) R
 refine L0<|bX u 10 (mG c 0 0 0 0 0 0 0 0 C.wordV ((dA C).wordV) 0 nS nS nS nS 0 0 0 0 0 nS) fun aX T v=>nl<|bn<|rm (.tuple #[])<|?_
 have hs:cn c C=(((dA C).wordsC 1),(aP.mk c 0 0 0 0 0 0 0 0 C.wordV ((dA C).wordV) 0 [] [] [] [] 0 0 0 0 0 [])):=by
   unfold cn fU fv
   (try simp only[a,b,bs,if_true,if_false,decide_true,decide_false,reduceIte])
   all_goals rfl
 rw[hs]
 exact⟨rfl,(al.upd S v (aa hne az) (aq (aU u (by decide)) aG)),⟨_,⟨T,rfl⟩,⟨_,_,_,_,_,rfl,aL.nil ..,aL.nil ..,aL.nil ..,aL.nil ..,aL.nil ..,(cj (by omega))⟩⟩,(ui q (ui s (us t v)))⟩
 have P:=aj b
 refine sg<|Pl 2<|nt<|cb ((c==12)) (fun d=>?_) (fun d=>?_)
 have U:=ah d
 refine sg<|Pl 1<|L0<|Oc<|m3 (bY hC) fun aY V W aZ=>L0<|Oi C.byteV<|Pl 1<|ng<|Pl 4<|cu 3 [38] 41 (((decide (6≤C.byteV))&&(decide (C.byteV≤70)))) (fun K x=>?_) ?_
 refine bl 38 ((decide (6≤C.byteV))) (fun e=>?_) (fun e=>?_)
 have X:=of_decide_eq_true e
 exact Pl 3<|ce x (decide (C.byteV≤70)) (by rw[e];rfl)
 have X:=of_decide_eq_false e
 exact Pl 3<|ce x false (by rw[e];rfl)
 refine L0<|Oc<|m2 (be (((decide (6≤C.byteV))&&(decide (C.byteV≤70)))) 5 V) fun b0 Y Z=>?_
 refine ab Y fun x53 a0 a1=>?_
 refine ng<|Pl 2<|L0<|Oc<|m3 (pC a1) fun b1 a2 a3 b2=>Pl 2<|?_
 have y:=u1 W (u1 Z a3 im) im
 have z:=aW y (Ne.symm hne) hm
 refine L0<|bX z 9 (mG c 0 0 0 0 0 0 0 0 x53.wordV 0 0 nS nS nS nS 0 0 0 0 0 nS) fun b3 a4 A=>ng<|Pl 3<|?_
 refine L0<|Oc<|m3 (ci (al.upd a2 A (aa hne az) (aq (aU z (by decide)) aG))) fun b4 a5 a6 b5=>Pl 1<|L0<|Oc<|m3 (ci a5) fun b6 a7 a8 b7=>?_
 refine ab a7 fun kR a9 ac=>?_
 refine Pl 2<|?_
 have B:=u1 a6 a8 im
 have D:=aW B (Ne.symm hne) a4
 refine L0<|bX D 10 (mG c 0 0 0 0 0 0 0 0 x53.wordV ((dA x53).wordV) 0 nS nS nS nS 0 0 0 0 0 nS) fun b8 ad ae=>Pl 2<|L0<|bX ad 11 (mG c 0 0 0 0 0 0 0 0 x53.wordV ((dA x53).wordV) (((dA x53).wordsC 1).wordV) nS nS nS nS 0 0 0 0 0 nS) fun ba af ag=>nt<|go<|Pl 3<|L0<|Oi (C.byteV-6)<|?_
 have E:=u1 ae ag im
 have F:=al.upd ac E (aa hne az) (aq (aU D (by decide)) aG)
 refine L0<|Oc<|tL (cE (n:=(C.byteV-6)) F) fun ai am bb an bc bd ao G=>?_
 have bf:=Nat.le_trans (ak.bytesR_le kR (C.byteV-6)) (al.len F)
 refine Pl 2<|?_
 have i:=aW G (Ne.symm hne) af
 refine L0<|bX i 14 (mG c 0 0 0 0 0 0 0 0 x53.wordV ((dA x53).wordV) (((dA x53).wordsC 1).wordV) nS nS (.slice ai ((kR.bytesR (C.byteV-6)).length) am) nS 0 0 0 0 0 nS) fun bg ap j=>nl<|bn<|rm (.tuple #[])<|?_
 subst a9 a0
 have hs:cn c C=(((((dA ((C.bytesC 1).need ((decide (6≤C.byteV))&&(decide (C.byteV≤70))) 5)).wordsC 1).wordsC 1).bytesC (C.byteV-6)),(aP.mk c 0 0 0 0 0 0 0 0 (((C.bytesC 1).need ((decide (6≤C.byteV))&&(decide (C.byteV≤70))) 5).wordV) ((dA ((C.bytesC 1).need ((decide (6≤C.byteV))&&(decide (C.byteV≤70))) 5)).wordV) (((dA ((C.bytesC 1).need ((decide (6≤C.byteV))&&(decide (C.byteV≤70))) 5)).wordsC 1).wordV) [] [] ((((dA ((C.bytesC 1).need ((decide (6≤C.byteV))&&(decide (C.byteV≤70))) 5)).wordsC 1).wordsC 1).bytesR (C.byteV-6)) [] 0 0 0 0 0 [])):=by
   unfold cn fU fv
   (try simp only[a,b,d,bs,if_true,if_false,decide_true,decide_false,reduceIte])
   all_goals rfl
 rw[hs]
 exact⟨rfl,(al.upd ao j (aa hne az) (aq (aU i (by decide)) aG)),⟨_,⟨ap,rfl⟩,⟨_,_,_,_,_,rfl,aL.nil ..,aL.nil ..,(b9.upd' an j (aq (aU i (by decide)) aG)),aL.nil ..,aL.nil ..,(cj (by omega))⟩⟩,(ui y (ui A (ui B (ui E (us G j)))))⟩
 have U:=aj d
 refine sg<|Pl 2<|nt<|cb ((c==17)) (fun f=>?_) (fun f=>?_)
 have ar:=ah f
 refine sg<|Pl 1<|L0<|Oc<|m3 (bY hC) fun bh au av bi=>L0<|Oi C.byteV<|Pl 1<|ng<|Pl 4<|cu 3 [73] 76 (((decide (1≤C.byteV))&&(decide (C.byteV≤251)))) (fun K H=>?_) ?_
 refine bl 73 ((decide (1≤C.byteV))) (fun h=>?_) (fun h=>?_)
 have aw:=of_decide_eq_true h
 exact Pl 3<|ce H (decide (C.byteV≤251)) (by rw[h];rfl)
 have aw:=of_decide_eq_false h
 exact Pl 3<|ce H false (by rw[h];rfl)
 refine L0<|Oc<|m2 (be (((decide (1≤C.byteV))&&(decide (C.byteV≤251)))) 5 au) fun bj ax aA=>?_
 refine ab ax fun I aB J=>?_
 refine nt<|go<|Pl 3<|L0<|Oc<|tL (cE (n:=C.byteV) J) fun aD aE bm aF bo bp aH aI=>?_
 have bq:=Nat.le_trans (ak.bytesR_le I C.byteV) (al.len J)
 refine Pl 2<|?_
 have L:=u1 av (u1 aA aI im) im
 have k:=aW L (Ne.symm hne) hm
 refine L0<|bX k 14 (mG c 0 0 0 0 0 0 0 0 0 0 0 nS nS (.slice aD ((I.bytesR C.byteV).length) aE) nS 0 0 0 0 0 nS) fun br aJ l=>nl<|bn<|rm (.tuple #[])<|?_
 subst aB
 have hs:cn c C=((((C.bytesC 1).need ((decide (1≤C.byteV))&&(decide (C.byteV≤251))) 5).bytesC C.byteV),(aP.mk c 0 0 0 0 0 0 0 0 0 0 0 [] [] (((C.bytesC 1).need ((decide (1≤C.byteV))&&(decide (C.byteV≤251))) 5).bytesR C.byteV) [] 0 0 0 0 0 [])):=by
   unfold cn fU fv
   (try simp only[a,b,d,f,bs,if_true,if_false,decide_true,decide_false,reduceIte])
   all_goals rfl
 rw[hs]
 exact⟨rfl,(al.upd aH l (aa hne az) (aq (aU k (by decide)) aG)),⟨_,⟨aJ,rfl⟩,⟨_,_,_,_,_,rfl,aL.nil ..,aL.nil ..,(b9.upd' aF l (aq (aU k (by decide)) aG)),aL.nil ..,aL.nil ..,(cj (by omega))⟩⟩,(us L l)⟩
 have ar:=aj f
 refine sk<|bn<|rm (.tuple #[])<|?_
 have hs:cn c C=(C,(aP.mk c 0 0 0 0 0 0 0 0 0 0 0 [] [] [] [] 0 0 0 0 0 [])):=by
   unfold cn fU fv
   (try simp only[a,b,d,f,bs,if_true,if_false,decide_true,decide_false,reduceIte])
   all_goals rfl
 rw[hs]
 exact⟨rfl,hC,⟨_,⟨hm,rfl⟩,⟨_,_,_,_,_,rfl,aL.nil ..,aL.nil ..,aL.nil ..,aL.nil ..,aL.nil ..,(cj (by omega))⟩⟩,(aC.mono (S':=[g,gm]) (aC.refl [] _) ay)⟩
end Go.Proofs.YtogbnemojakcpaaGreat
