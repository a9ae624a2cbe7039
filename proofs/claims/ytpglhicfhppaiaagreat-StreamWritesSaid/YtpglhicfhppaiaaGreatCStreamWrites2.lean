/- Contracts of functions, part CStreamWrites2. -/
import Derived.Test.YtpglhicfhppaiaaGreatCStreamWrites1
import Derived.Laws.BytesArg
import Derived.Stop.BytesEq
import Derived.Laws.BitsAllLaws
set_option linter.unusedVariables false
set_option linter.unusedSimpArgs false
set_option maxRecDepth 100000
set_option maxHeartbeats 4000000
namespace Go.Proofs.YtpglhicfhppaiaaGreat
open Go.RowKit
theorem oz{ev:Operand→Value}{o:Oper}{x y:Operand}{t:TypeId}{a b:Int}{w:World}(ho:o.op = .binOp .neq 134 x y t)
    (hx:ev x = .agg #[.int .u8 a,.int .u8 b]) (hy:ev y = .agg #[.int .u8 0,.int .u8 0]) : (execOp ev o).run Tryz.prog w = .ok (.value (.bool ((a != 0)||(b != 0)))) w:=by
  unfold execOp
  rw[ho]
  simp only[hx,hy]
  cases a with
  | ofNat a =>
    cases a with
    | zero =>
      cases b with
      | ofNat b =>
        cases b with
        | zero=>kernel_rfl
        | succ b=>kernel_rfl
      | negSucc b=>kernel_rfl
    | succ a=>kernel_rfl
  | negSucc a=>kernel_rfl
def jL (a b:Int) : aV:={ aV.zero with code:=a,fail:=b }
def fk (a b:Int) : Bool:=(((a != 0)||(b != 0))&&dW a)&&dG b
theorem jN{a b:Int}{w:World}:Calls Tryz.prog 57 #[.agg #[.int .u8 a,.int .u8 b]] w (bv (.agg #[.int .u8 a,.int .u8 b,.int .u16 0,.int .u16 0,.int .u16 0,.int .u16 0,.int .u16 0,.int .u16 0,.int .u16 0,.int .u16 0,.int .u16 0,.int .u16 0,.slice none 0 0,.slice none 0 0,.slice none 0 0,.slice none 0 0,.int .u8 0,.int .u8 0,.int .u8 0,.int .u8 0,.int .u8 0,.slice none 0 0]) w):=by
 refine en 8 Tryz.func57 rfl<|sg<|L0<|cz #[.int .u8 a,.int .u8 b] fun k l m e f=>L0<|bI mZ fun n o g h c=>ng<|Pl 1<|?_
 have d:=ub c e
 refine L0<|aN d 0<|Pl 1<|L0<|aN d 1<|Pl 1<|L0<|bf h (mG a b 0 0 0 0 0 0 0 0 0 0 nS nS nS nS 0 0 0 0 0 nS) fun p i j=>nt<|rt<|ze i<|?_
 exact⟨rfl,(aE f (ud c j g))⟩
theorem rM{a b:Int}{w:World}:Calls Tryz.prog 55 #[.agg #[.int .u8 a,.int .u8 b]] w (bv (.bool (fk a b)) w):=by
 refine en 16 Tryz.func55 rfl<|sg<|L0<|cz #[.int .u8 a,.int .u8 b] fun l m n d f=>Pl 1<|ng<|L0<|bZ d<|Pl 1<|L0<|iv (.bool ((a != 0)||(b != 0))) (oz rfl (by kernel_rfl) (by kernel_rfl))<|Pl 1<|bl 6 (((a != 0)||(b != 0))) (fun c=>?_) (fun c=>?_)
 refine Pl 1<|L1<|aN d 0<|L1<|Oc<|m1 (jU (x:=a) (w:=_)) fun o g=>Pl 2<|?_
 have h:=aE f g
 refine bl 11 ((dW a)) (fun e=>?_) (fun e=>?_)
 refine Pl 1<|?_
 refine L1<|aN (ub g d) 1<|L1<|Oc<|m1 (jo (x:=b) (w:=_)) fun p k=>Pl 2<|nt<|rt<|rr (.bool (dG b))<|?_
 have hs:fk a b=(dG b):=by
   unfold fk
   (try simp only[c,e,bs,if_true,if_false,decide_true,decide_false])
   done
 rw[hs]
 exact⟨rfl,(aE h k)⟩
 refine Pl 5<|nt<|rt<|rr (.bool false)<|?_
 have hs:fk a b=false:=by
   unfold fk
   (try simp only[c,e,bs,if_true,if_false,decide_true,decide_false])
   done
 rw[hs]
 exact⟨rfl,h⟩
 have i:=(aH c).1
 have j:=(aH c).2
 have q:=ai i
 have r:=ai j
 refine Pl 10<|nt<|rt<|rr (.bool false)<|?_
 have hs:fk a b=false:=by
   unfold fk
   (try simp only[c,i,j,bs,if_true,if_false,decide_true,decide_false])
   done
 rw[hs]
 exact⟨rfl,f⟩
def fm (b:List Int) : aV × Int :=
  if (b.length:Int)==0 then (aV.zero,2)
  else if decide (b.getD 0 0<128) then (aV.zero,4)
  else if !(dW ((b.getD 0 0-128)%256)) then (aV.zero,4)
  else if (b.length:Int)==1 then (aV.zero,2)
  else if !(dG (b.getD 1 0)) then (aV.zero,6)
  else if decide (2<(b.length:Int)) then (aV.zero,3)
  else (jL ((b.getD 0 0-128)%256) (b.getD 1 0),0)
theorem pJ{m:Bool}{A:Option Addr}{cp:Nat}{b:List Int}{w:World}(hsl:aQ m w (.slice A b.length cp) b)(hb:b.length≤1048576) :
    Calls Tryz.prog 165 #[.slice A b.length cp] w (dl (fm b) w):=by
 have hln:(b.length:Int)≤1048576:=by omega
 refine en 49 Tryz.func165 rfl<|sg<|L0<|bI mZ fun ah ai g h q=>Pl 1<|nt<|sq<|bk<|sg<|Pl 4<|nt<|?_
 refine cb ((((b.length:Nat) : Int)==0)) (fun c=>?_) (fun c=>?_)
 have Q:=az c
 refine sg<|Pl 1<|L0<|bf h mZ fun aj R S=>Pl 1<|nt<|rt<|br<|tr<|cU R (.int .i64 2)<|?_
 have hs:fm b=(aV.zero,2):=by
   unfold fm
   (try simp only[c,bs,if_true,if_false,decide_true,decide_false,Bool.not_eq_true,reduceIte])
   all_goals rfl
 rw[hs]
 exact bW (ud q S g)
 have Q:=aC c
 refine sg<|Pl 1<|?_
 have B:=aQ.old hsl q
 refine gX (aQ.at_ B 0 (by omega)) fun C D E F ak=>L0<|oU b.length 0 E (by omega)<|L0<|kY (p:=⟨C,D+0,none⟩) (v:=.int .u8 (b.getD 0 0)) F<|Pl 2<|bl 14 ((decide ((b.getD 0 0)<128))) (fun d=>?_) (fun d=>?_)
 have T:=of_decide_eq_true d
 refine Pl 8<|nt<|c1<|sg<|Pl 1<|L0<|bf h mZ fun al U V=>Pl 1<|nt<|rt<|br<|tr<|?_
 refine cU U (.int .i64 4)<|?_
 have hs:fm b=(aV.zero,4):=by
   unfold fm
   (try simp only[c,d,bs,if_true,if_false,decide_true,decide_false,Bool.not_eq_true,reduceIte])
   all_goals rfl
 rw[hs]
 exact bW (ud q V g)
 have T:=of_decide_eq_false d
 refine Pl 1<|L1<|oU b.length 0 E (by omega)<|L1<|kY (p:=⟨C,D+0,none⟩) (v:=.int .u8 (b.getD 0 0)) F<|Pl 1<|L1<|Oc<|m1 (jU (x:=(((b.getD 0 0)-128)%256)) (w:=_)) fun am i=>Pl 3<|nt<|?_
 have t:=aE q i
 refine cb ((!(dW (((b.getD 0 0)-128)%256)))) (fun e=>?_) (fun e=>?_)
 have k:(dW (((b.getD 0 0)-128)%256))=false:=by simpa using e
 refine sg<|Pl 1<|?_
 refine L0<|bf (ub i h) mZ fun an W X=>Pl 1<|nt<|rt<|br<|tr<|cU W (.int .i64 4)<|?_
 have hs:fm b=(aV.zero,4):=by
   unfold fm
   (try simp only[c,d,e,k,bs,if_true,if_false,decide_true,decide_false,Bool.not_eq_true,reduceIte])
   all_goals rfl
 rw[hs]
 exact bW (ud t X g)
 have k:(dW (((b.getD 0 0)-128)%256))=true:=by simpa using e
 refine sg<|Pl 4<|nt<|cb ((((b.length:Nat) : Int)==1)) (fun j=>?_) (fun j=>?_)
 have Y:=az j
 refine sg<|Pl 1<|?_
 refine L0<|bf (ub i h) mZ fun ao Z a0=>Pl 1<|nt<|rt<|br<|tr<|cU Z (.int .i64 2)<|?_
 have hs:fm b=(aV.zero,2):=by
   unfold fm
   (try simp only[c,d,e,k,j,bs,if_true,if_false,decide_true,decide_false,Bool.not_eq_true,reduceIte])
   all_goals rfl
 rw[hs]
 exact bW (ud t a0 g)
 have Y:=aC j
 refine sg<|Pl 1<|?_
 have G:=aQ.old B i
 refine gX (aQ.at_ G 1 (by omega)) fun a1 a2 a3 a4 ap=>L0<|oU b.length 1 a3 (by omega)<|L0<|kY (p:=⟨a1,a2+1,none⟩) (v:=.int .u8 (b.getD 1 0)) a4<|L0<|Oc<|m1 (jo (x:=(b.getD 1 0)) (w:=_)) fun aq n=>Pl 2<|nt<|?_
 have u:=aE t n
 refine cb ((!(dG (b.getD 1 0)))) (fun l=>?_) (fun l=>?_)
 have r:(dG (b.getD 1 0))=false:=by simpa using l
 refine sg<|Pl 1<|?_
 refine L0<|bf (ub (aE i n) h) mZ fun ar a5 a6=>Pl 1<|nt<|rt<|br<|tr<|cU a5 (.int .i64 6)<|?_
 have hs:fm b=(aV.zero,6):=by
   unfold fm
   (try simp only[c,d,e,k,j,l,r,bs,if_true,if_false,decide_true,decide_false,Bool.not_eq_true,reduceIte])
   all_goals rfl
 rw[hs]
 exact bW (ud u a6 g)
 have r:(dG (b.getD 1 0))=true:=by simpa using l
 refine sg<|Pl 4<|nt<|cb ((decide (2<((b.length:Nat) : Int)))) (fun o=>?_) (fun o=>?_)
 have a7:=of_decide_eq_true o
 refine sg<|Pl 1<|?_
 refine L0<|bf (ub (aE i n) h) mZ fun au a8 a9=>Pl 1<|nt<|rt<|br<|tr<|cU a8 (.int .i64 3)<|?_
 have hs:fm b=(aV.zero,3):=by
   unfold fm
   (try simp only[c,d,e,k,j,l,r,o,bs,if_true,if_false,decide_true,decide_false,Bool.not_eq_true,reduceIte])
   all_goals rfl
 rw[hs]
 exact bW (ud u a9 g)
 have a7:=of_decide_eq_false o
 refine sk<|bn<|tn<|sq<|?_
 have H:=aQ.old G n
 refine gX (aQ.at_ H 0 (by omega)) fun aa ab I J av=>gX (aQ.at_ H 1 (by omega)) fun ac ad K L aw=>Rg 11 (fun w'=>w'.cell? ⟨aa,ab+0,none⟩=some (.int .u8 (b.getD 0 0))∧w'.cell? ⟨ac,ad+1,none⟩=some (.int .u8 (b.getD 1 0))) fun ax y=>aZ ⟨(uc y J),(uc y L)⟩ fun f=>Rt 0 f<|qF 1 f b.length 0 0 rfl I (by omega)<|Rl 2 f (fun _ hs=>hs.1)<|Rt 3 f<|Rt 4 f<|qF 5 f b.length 1 1 rfl K (by omega)<|Rl 6 f (fun _ hs=>hs.2)<|Rt 7 f<|R0 8 rfl<|Oc<|m1 (jN (a:=(((b.getD 0 0)-128)%256)) (b:=(b.getD 1 0)) (w:=_)) fun ay ae=>?_
 have s:=aE y ae
 refine aZ ⟨(uc s J),(uc s L)⟩ fun aA=>?_
 have M:=aE n s
 have N:=aE i M
 refine R0 9 rfl<|bf (ub N h) (mG (((b.getD 0 0)-128)%256) (b.getD 1 0) 0 0 0 0 0 0 0 0 0 0 nS nS nS nS 0 0 0 0 0 nS) fun aB af z=>?_
 have aD:=uz M z
 have aF:=uz N z
 have O:=ud u (uz s z) g
 have P:=aQ.old hsl O
 refine aZ ⟨(cB P I 0 (by omega)),(cB P K 1 (by omega))⟩ fun ag=>Rt 10 ag<|re<|tn<|rt<|cU af (.int .i64 0)<|?_
 have hs:fm b=((aV.mk (((b.getD 0 0)-128)%256) (b.getD 1 0) 0 0 0 0 0 0 0 0 0 0 [] [] [] [] 0 0 0 0 0 []),0):=by
   unfold fm
   (try simp only[c,d,e,k,j,l,r,o,bs,if_true,if_false,decide_true,decide_false,Bool.not_eq_true,reduceIte])
   all_goals rfl
 rw[hs]
 exact⟨_,rfl,⟨_,_,_,_,_,rfl,aO.nil ..,aO.nil ..,aO.nil ..,aO.nil ..,aO.nil ..,⟨(b8 (x:=(((b.getD 0 0)-128)%256)) (by omega)),(b8 (x:=(b.getD 1 0)) (by omega)),(aK (x:=0) (by omega)),(aK (x:=0) (by omega)),(aK (x:=0) (by omega)),(aK (x:=0) (by omega)),(aK (x:=0) (by omega)),(aK (x:=0) (by omega)),(aK (x:=0) (by omega)),(aK (x:=0) (by omega)),(aK (x:=0) (by omega)),(aK (x:=0) (by omega)),(b8 (x:=0) (by omega)),(b8 (x:=0) (by omega)),(b8 (x:=0) (by omega)),(b8 (x:=0) (by omega)),(b8 (x:=0) (by omega))⟩⟩,O⟩
theorem rS{m:Bool}{v:Value}{b:List Int}{w:World}(h:aQ m w v b)(hb:b.length≤1048576) : Calls Tryz.prog 165 #[v] w (dl (fm b) w):=by
  obtain⟨A,cp,rfl,_,_⟩:=h.shape
  exact pJ h hb
open Go.RowKit
def bF (dir:Int)(M:aV) : List Int :=
  if M.code==5 then aP [M.addr,M.value]
  else if M.code==15&&dir==0 then ((aP [M.addr,M.count]++[((ea M.bits).length:Int)%256])++ea M.bits)
  else if dir==1&&M.code != 15 then [(M.data.length:Int)%256]++M.data
  else aP [M.addr,M.count]
theorem oy{m:Bool}{cs:Array Value}{M:aV}{w:World}{dir:Int}(h:aF m w cs.toList M)(hf:bp M)(hd0:(dir==0)=true) : Calls Tryz.prog 85 #[.int .i64 dir,.agg cs] w (i9 (bF dir M) w):=by
 obtain⟨vw,vb,vd,vr,vo,h0,hw,hbt,hd,hr,ho,hR⟩:=h
 obtain rfl:cs=(bt M vw vb vd vr vo).toArray:=by apply Array.toList_inj.1;simpa using h0
 clear h0
 obtain⟨Aw,kw,rfl,_,_⟩:=hw.shape
 obtain⟨Ab,kb,rfl,_,_⟩:=hbt.shape
 obtain⟨Ad,kd,rfl,_,_⟩:=hd.shape
 obtain⟨Ar,kr,rfl,_,_⟩:=hr.shape
 obtain⟨Ao,ko,rfl,_,_⟩:=ho.shape
 obtain⟨q0,q1,q2,q3,q4,q5,q6,q7,q8,q9,H,I,J,L,N,O,P⟩:=hR
 simp only[B8,db] at q0 q1 q2 q3 q4 q5 q6 q7 q8 q9 H I J L N O P
 have hf1:=hf.words
 have hf2:=hf.bits
 have hf3:=hf.data
 have hf4:=hf.recs
 have hf5:=hf.objects
 refine en 62 Tryz.func85 rfl<|sg<|L0<|cz (mG M.code M.fail M.addr M.count M.value M.and_ M.or_ M.addr2 M.sub M.status M.events M.messages (.slice Aw M.words.length kw) (.slice Ab M.bits.length kb) (.slice Ad M.data.length kd) (.slice Ar M.recs.length kr) M.mei M.kind M.level M.more M.next (.slice Ao M.objects.length ko)) fun aD aG aH a b=>Pl 1<|nt<|sq<|bk<|sg<|Pl 1<|L0<|aN a 0<|Pl 2<|nl<|?_
 refine tn<|cb ((M.code==5)) (fun c=>?_) (fun c=>?_)
 have Q:=az c
 refine sg<|Pl 1<|L0<|aN a 2<|Pl 1<|L0<|aN a 4<|L0<|cF (m:=2) (e:=22) #[.int .u16 M.addr,.int .u16 M.value] fun aK aL R S q=>?_
 have T:=dX R (xs:=[M.addr,M.value]) (by as_aux_lemma=>kernel_rfl) (am (by omega) (am (by omega) aM)) (by(try simp only[List.length_cons,List.length_nil]);omega) S
 refine L0<|Oc<|dE (bg (xs:=[M.addr,M.value]) (T).rd (by(try simp only[List.length_cons,List.length_nil]);omega)) fun U V aO W aR aS X=>Pl 1<|nt<|rt<|br<|tr<|rr (.slice U ((aP ([M.addr,M.value])).length) V)<|?_
 have hs:bF dir M=(aP ([M.addr,M.value])):=by
   unfold bF
   (try simp only[hd0,c,bs,if_true,if_false,decide_true,decide_false,reduceIte])
   all_goals rfl
 rw[hs]
 exact⟨_,rfl,(aJ.weaken W (le b.size q.size)),(aE b (aE q X))⟩
 have Q:=aC c
 refine sg<|Pl 1<|L0<|aN a 0<|Pl 2<|cu 3 [20] 23 (((M.code==15)&&(dir==0))) (fun K r=>?_) ?_
 refine bl 20 ((M.code==15)) (fun g=>?_) (fun g=>?_)
 have Y:=az g
 exact Pl 3<|ce r (dir==0) (by rw[g];rfl)
 have Y:=aC g
 exact Pl 3<|ce r false (by rw[g];rfl)
 refine Pl 1<|nt<|cb (((M.code==15)&&(dir==0))) (fun d=>?_) (fun d=>?_)
 have f:=(bH d).1
 have s:=(bH d).2
 have Z:=az f
 have aT:=az s
 refine sg<|Pl 1<|L0<|aN a 13<|?_
 refine L0<|Oc<|dE (uL (l:=M.bits) (iq.old hbt b) (by omega)) fun aU aW aY a0 aZ b0 k=>?_
 have b1:=v4 M.bits
 refine Pl 1<|ng<|Pl 1<|?_
 have t:=ub k a
 refine L0<|aN t 2<|Pl 1<|L0<|aN t 3<|L0<|cF (m:=2) (e:=22) #[.int .u16 M.addr,.int .u16 M.count] fun b2 b3 a1 a2 n=>?_
 have a3:=dX a1 (xs:=[M.addr,M.count]) (by as_aux_lemma=>kernel_rfl) (am (by omega) (am (by omega) aM)) (by(try simp only[List.length_cons,List.length_nil]);omega) a2
 refine L0<|Oc<|dE (bg (xs:=[M.addr,M.count]) (a3).rd (by(try simp only[List.length_cons,List.length_nil]);omega)) fun a4 b4 b5 u b6 b7 v=>Pl 3<|L0<|cF (m:=1) (e:=5) #[.int .u8 ((((ea M.bits).length:Nat) : Int)%256)] fun b8 b9 a5 a6 o=>?_
 have a7:=cP a5 (xs:=[((((ea M.bits).length:Nat) : Int)%256)]) (by as_aux_lemma=>kernel_rfl) (am (by omega) aM) (by(try simp only[List.length_cons,List.length_nil]);omega) a6
 refine L0<|cj aX (xs:=(aP ([M.addr,M.count]))) (ys:=([((((ea M.bits).length:Nat) : Int)%256)])) (.int .u8 0) 1 (aj u o (fun x hx=>ay) (fun _ _ h=>h)) (a7).rd (by(try simp only[List.length_append,List.length_cons,List.length_nil,av]);omega) (le v.size o.size) fun ba bb bc y a8=>Pl 1<|?_
 have z:=ut v (ut (ax.mono (S':=(ob a4++[])) o aq) a8 (ag il aq)) (ag (aI u lr) aq)
 have A:=aE n z
 refine L0<|cj aX (xs:=((aP ([M.addr,M.count]))++[((((ea M.bits).length:Nat) : Int)%256)])) (ys:=(ea M.bits)) (.int .u8 0) 1 y ((aj a0 A (fun x hx=>ay) (fun _ _ h=>h))).rd (by(try simp only[List.length_append,List.length_cons,List.length_nil,av]);omega) z.size fun a9 aa bd ab ac=>Pl 1<|nt<|rt<|br<|tr<|rr (.slice a9 ((((aP ([M.addr,M.count]))++[((((ea M.bits).length:Nat) : Int)%256)])++(ea M.bits)).length) aa)<|?_
 have hs:bF dir M=(((aP ([M.addr,M.count]))++[((((ea M.bits).length:Nat) : Int)%256)])++(ea M.bits)):=by
   unfold bF
   (try simp only[s,c,d,f,bs,if_true,if_false,decide_true,decide_false,reduceIte])
   all_goals rfl
 rw[hs]
 exact⟨_,rfl,(aJ.weaken ab (le (le b.size k.size) n.size)),(aE b (aE k (ut A ac (ag (aI y n.size) aq))))⟩
 have f:(M.code==15)=false:=by simpa only[hd0,bs] using d
 have Z:=aC f
 refine sg<|Pl 3<|cu 4 [43] 47 (((dir==1)&&(M.code != 15))) (fun K B=>?_) ?_
 refine bl 43 ((dir==1)) (fun i=>?_) (fun i=>?_)
 have ad:=az i
 exact Pl 1<|L1<|aN a 0<|Pl 2<|ce B (M.code != 15) (by rw[i];rfl)
 have ad:=aC i
 exact Pl 4<|ce B false (by rw[i];rfl)
 refine Pl 1<|nt<|cb (((dir==1)&&(M.code != 15))) (fun j=>?_) (fun j=>?_)
 have C:=(bH j).1
 have D:=(bH j).2
 have be:=az C
 have bf:=aA D
 refine sg<|Pl 1<|L0<|aN a 14<|Pl 2<|L0<|cF (m:=1) (e:=5) #[.int .u8 (((M.data.length:Nat) : Int)%256)] fun bh bi ae af p=>?_
 have E:=cP ae (xs:=[(((M.data.length:Nat) : Int)%256)]) (by as_aux_lemma=>kernel_rfl) (am (by omega) aM) (by(try simp only[List.length_cons,List.length_nil]);omega) af
 refine Pl 1<|?_
 refine L0<|aN (ub p a) 14<|?_
 have F:=aE b p
 refine L0<|cj aX (xs:=([(((M.data.length:Nat) : Int)%256)])) (ys:=M.data) (.int .u8 0) 1 E (aQ.old hd F) (by(try simp only[List.length_append,List.length_cons,List.length_nil,av]);omega) p.size fun ah ai bj ak al=>Pl 1<|nt<|rt<|br<|tr<|rr (.slice ah (([(((M.data.length:Nat) : Int)%256)]++M.data).length) ai)<|?_
 have hs:bF dir M=([(((M.data.length:Nat) : Int)%256)]++M.data):=by
   unfold bF
   (try simp only[hd0,c,d,f,j,C,D,bs,if_true,if_false,decide_true,decide_false,reduceIte])
   all_goals rfl
 rw[hs]
 exact⟨_,rfl,(aJ.weaken ak b.size),(ut F al (ag (aI E b.size) aq))⟩
 refine sk<|bn<|tn<|sg<|Pl 1<|L0<|aN a 2<|Pl 1<|L0<|aN a 3<|L0<|cF (m:=2) (e:=22) #[.int .u16 M.addr,.int .u16 M.count] fun bm bo an ao G=>?_
 have ap:=dX an (xs:=[M.addr,M.count]) (by as_aux_lemma=>kernel_rfl) (am (by omega) (am (by omega) aM)) (by(try simp only[List.length_cons,List.length_nil]);omega) ao
 refine L0<|Oc<|dE (bg (xs:=[M.addr,M.count]) (ap).rd (by(try simp only[List.length_cons,List.length_nil]);omega)) fun ar au bq aw bu bv aB=>Pl 1<|nt<|rt<|rr (.slice ar ((aP ([M.addr,M.count])).length) au)<|?_
 have hs:bF dir M=(aP ([M.addr,M.count])):=by
   unfold bF
   (try simp only[hd0,c,d,f,j,bs,if_true,if_false,decide_true,decide_false,reduceIte])
   all_goals rfl
 rw[hs]
 exact⟨_,rfl,(aJ.weaken aw (le b.size G.size)),(aE b (aE G aB))⟩
theorem oI{m:Bool}{cs:Array Value}{M:aV}{w:World}{dir:Int}(h:aF m w cs.toList M)(hf:bp M)(hd0:(dir==0)=false) : Calls Tryz.prog 85 #[.int .i64 dir,.agg cs] w (i9 (bF dir M) w):=by
 obtain⟨vw,vb,vd,vr,vo,h0,hw,hbt,hd,hr,ho,hR⟩:=h
 obtain rfl:cs=(bt M vw vb vd vr vo).toArray:=by apply Array.toList_inj.1;simpa using h0
 clear h0
 obtain⟨Aw,kw,rfl,_,_⟩:=hw.shape
 obtain⟨Ab,kb,rfl,_,_⟩:=hbt.shape
 obtain⟨Ad,kd,rfl,_,_⟩:=hd.shape
 obtain⟨Ar,kr,rfl,_,_⟩:=hr.shape
 obtain⟨Ao,ko,rfl,_,_⟩:=ho.shape
 obtain⟨q0,q1,q2,q3,q4,q5,q6,q7,q8,q9,t,u,v,x,y,z,A⟩:=hR
 simp only[B8,db] at q0 q1 q2 q3 q4 q5 q6 q7 q8 q9 t u v x y z A
 have hf1:=hf.words
 have hf2:=hf.bits
 have hf3:=hf.data
 have hf4:=hf.recs
 have hf5:=hf.objects
 refine en 62 Tryz.func85 rfl<|sg<|L0<|cz (mG M.code M.fail M.addr M.count M.value M.and_ M.or_ M.addr2 M.sub M.status M.events M.messages (.slice Aw M.words.length kw) (.slice Ab M.bits.length kb) (.slice Ad M.data.length kd) (.slice Ar M.recs.length kr) M.mei M.kind M.level M.more M.next (.slice Ao M.objects.length ko)) fun a0 a1 a2 a b=>Pl 1<|nt<|sq<|bk<|sg<|Pl 1<|L0<|aN a 0<|Pl 2<|nl<|?_
 refine tn<|cb ((M.code==5)) (fun c=>?_) (fun c=>?_)
 have B:=az c
 refine sg<|Pl 1<|L0<|aN a 2<|Pl 1<|L0<|aN a 4<|L0<|cF (m:=2) (e:=22) #[.int .u16 M.addr,.int .u16 M.value] fun a3 a4 C D k=>?_
 have E:=dX C (xs:=[M.addr,M.value]) (by as_aux_lemma=>kernel_rfl) (am (by omega) (am (by omega) aM)) (by(try simp only[List.length_cons,List.length_nil]);omega) D
 refine L0<|Oc<|dE (bg (xs:=[M.addr,M.value]) (E).rd (by(try simp only[List.length_cons,List.length_nil]);omega)) fun F G a5 H a6 a7 I=>Pl 1<|nt<|rt<|br<|tr<|rr (.slice F ((aP ([M.addr,M.value])).length) G)<|?_
 have hs:bF dir M=(aP ([M.addr,M.value])):=by
   unfold bF
   (try simp only[hd0,c,bs,if_true,if_false,decide_true,decide_false,reduceIte])
   all_goals rfl
 rw[hs]
 exact⟨_,rfl,(aJ.weaken H (le b.size k.size)),(aE b (aE k I))⟩
 have B:=aC c
 refine sg<|Pl 1<|L0<|aN a 0<|Pl 2<|cu 3 [20] 23 (((M.code==15)&&(dir==0))) (fun K l=>?_) ?_
 refine bl 20 ((M.code==15)) (fun d=>?_) (fun d=>?_)
 have J:=az d
 exact Pl 3<|ce l (dir==0) (by rw[d];rfl)
 have J:=aC d
 exact Pl 3<|ce l false (by rw[d];rfl)
 refine Pl 1<|nt<|?_
 have i:((M.code==15)&&(dir==0))=false:=by simp only[hd0,bs]
 refine cf i<|sg<|Pl 3<|cu 4 [43] 47 (((dir==1)&&(M.code != 15))) (fun K n=>?_) ?_
 refine bl 43 ((dir==1)) (fun f=>?_) (fun f=>?_)
 have L:=az f
 exact Pl 1<|L1<|aN a 0<|Pl 2<|ce n (M.code != 15) (by rw[f];rfl)
 have L:=aC f
 exact Pl 4<|ce n false (by rw[f];rfl)
 refine Pl 1<|nt<|cb (((dir==1)&&(M.code != 15))) (fun g=>?_) (fun g=>?_)
 have o:=(bH g).1
 have p:=(bH g).2
 have a8:=az o
 have a9:=aA p
 refine sg<|Pl 1<|L0<|aN a 14<|Pl 2<|L0<|cF (m:=1) (e:=5) #[.int .u8 (((M.data.length:Nat) : Int)%256)] fun aa ab N O j=>?_
 have q:=cP N (xs:=[(((M.data.length:Nat) : Int)%256)]) (by as_aux_lemma=>kernel_rfl) (am (by omega) aM) (by(try simp only[List.length_cons,List.length_nil]);omega) O
 refine Pl 1<|?_
 refine L0<|aN (ub j a) 14<|?_
 have r:=aE b j
 refine L0<|cj aX (xs:=([(((M.data.length:Nat) : Int)%256)])) (ys:=M.data) (.int .u8 0) 1 q (aQ.old hd r) (by(try simp only[List.length_append,List.length_cons,List.length_nil,av]);omega) j.size fun P Q ac R S=>Pl 1<|nt<|rt<|br<|tr<|rr (.slice P (([(((M.data.length:Nat) : Int)%256)]++M.data).length) Q)<|?_
 have hs:bF dir M=([(((M.data.length:Nat) : Int)%256)]++M.data):=by
   unfold bF
   (try simp only[hd0,c,i,g,o,p,bs,if_true,if_false,decide_true,decide_false,reduceIte])
   all_goals rfl
 rw[hs]
 exact⟨_,rfl,(aJ.weaken R b.size),(ut r S (ag (aI q b.size) aq))⟩
 refine sk<|bn<|tn<|sg<|Pl 1<|L0<|aN a 2<|Pl 1<|L0<|aN a 3<|L0<|cF (m:=2) (e:=22) #[.int .u16 M.addr,.int .u16 M.count] fun ad ae T U s=>?_
 have V:=dX T (xs:=[M.addr,M.count]) (by as_aux_lemma=>kernel_rfl) (am (by omega) (am (by omega) aM)) (by(try simp only[List.length_cons,List.length_nil]);omega) U
 refine L0<|Oc<|dE (bg (xs:=[M.addr,M.count]) (V).rd (by(try simp only[List.length_cons,List.length_nil]);omega)) fun W X af Y ah ai Z=>Pl 1<|nt<|rt<|rr (.slice W ((aP ([M.addr,M.count])).length) X)<|?_
 have hs:bF dir M=(aP ([M.addr,M.count])):=by
   unfold bF
   (try simp only[hd0,c,i,g,bs,if_true,if_false,decide_true,decide_false,reduceIte])
   all_goals rfl
 rw[hs]
 exact⟨_,rfl,(aJ.weaken Y (le b.size s.size)),(aE b (aE s Z))⟩
theorem sC{m:Bool}{cs:Array Value}{M:aV}{w:World}{dir:Int}(h:aF m w cs.toList M)(hf:bp M) : Calls Tryz.prog 85 #[.int .i64 dir,.agg cs] w (i9 (bF dir M) w):=by
  rcases di (dir==0) with h0|h0
  · exact oy h hf h0
  · exact oI h hf h0
open Go.RowKit
def cX (x:Bool)(w:World)(e:Ending)(w':World) : Prop:=e = .returned (.bool x)∧ax [] w w'
theorem ky{α:Type} [DecidableEq α]{xs ys:List α}{d:α}(h:xs.length=ys.length){k:Nat}(hk:k<xs.length)(hp:xs.take k=ys.take k)(hx:xs.getD k d=ys.getD k d) : xs.take (k+1)=ys.take (k+1):=by
  rw[List.take_add_one,List.take_add_one,hp]
  simp only[List.getD_eq_getElem?_getD,List.getElem?_eq_getElem hk,List.getElem?_eq_getElem (h▸hk),Option.getD_some] at hx
  simp[List.getElem?_eq_getElem hk,List.getElem?_eq_getElem (h▸hk),hx]
theorem sf{α:Type} [DecidableEq α]{xs ys:List α}{d:α}(k:Nat)(hx:xs.getD k d≠ys.getD k d) : xs≠ys:=fun h=>hx (by rw[h])
theorem rA{m m':Bool}{u v:Value}{xs ys:List Int}{w:World}(hx:dB m w u xs)(hy:dB m' w v ys) : Calls Tryz.prog 71 #[u,v] w (cX (decide (xs=ys)) w):=by
  have hhx:=hx
  have hhy:=hy
  obtain⟨A,c,rfl,hc1,hc2⟩:=hx.shape
  obtain⟨B,c',rfl,qQ,pu⟩:=hy.shape
  have hn:xs.length≤9223372036854775807:=by have:=hc2;unfold maxLen at this;omega
  by_cases hl:xs.length=ys.length
  case neg =>
    have hno:∀ W,ax [] w W→cX (decide (xs=ys)) w (.returned (.bool false)) W:=by
      intro W hW
      rw[decide_eq_false (fun h=>hl (by rw[h]))]
      exact⟨rfl,hW⟩
    have hli:((xs.length:Int)!=(ys.length:Int))=true:=by simp;omega
    clear hx hy hhx hhy hl
    go_enter Tryz.func71,Tryz.ntmps71
    go_wp2
    go_ret
    exact hno _ (ax.refl _ _)
  have hno:∀ W k,xs.getD k 0≠ys.getD k 0→ax [] w W→cX (decide (xs=ys)) w (.returned (.bool false)) W:=by
    intro W k hk hW
    rw[decide_eq_false (sf k hk)]
    exact⟨rfl,hW⟩
  have hyes:∀ W,xs.take xs.length=ys.take xs.length→ax [] w W→cX (decide (xs=ys)) w (.returned (.bool true)) W:=by
    intro W hk hW
    rw[List.take_length,hl,List.take_length] at hk
    rw[decide_eq_true hk]
    exact⟨rfl,hW⟩
  revert hno hyes
  generalize cX (decide (xs=ys)) w=P
  intro hno hyes
  have hli:((xs.length:Int)!=(ys.length:Int))=false:=by simp;omega
  have hL:=Lib.hid hl
  clear hx hy hl
  go_enter Tryz.func71,Tryz.ntmps71
  go_wp2
  go_loopw [13] (fun i wr=>∃ k:Nat,k≤xs.length∧i = .int .i64 (k:Int)∧xs.take k=ys.take k∧ax [] w wr) (fun i _=>xs.length-(intOf i).toNat)
  case atStart=>exact⟨0,by omega,rfl,by simp,ax.refl _ _⟩
  case round =>
    obtain⟨k,hk,rfl,hpre,hu⟩:=hrel
    by_cases hlt:k<xs.length
    · obtain⟨b,off,rfl,cw0,hr0⟩:=dB.at_ hhx k hlt
      obtain⟨b',off',rfl,cw1,hr1⟩:=dB.at_ hhy k (by have:=hL.out;omega)
      have hlt':k<ys.length:=by have:=hL.out;omega
      have hstep:=fun h=>ky (d:=0) hL.out hlt hpre h
      have hno':=fun W h=>hno W k h
      revert cw0 cw1 hstep hno' hr0 hr1
      generalize xs.getD k 0=x0
      generalize ys.getD k 0=y0
      intro cw0 hr0 cw1 hr1 hstep hno'
      have hc0:=hu.cell (by simp) cw0
      have hc1:=hu.cell (by simp) cw1
      have hstep:=Lib.hid hstep
      have hno':=Lib.hid hno'
      clear cw0 cw1 hhx hhy hpre hno hyes
      have hc0:wr.drew.cell? ⟨b,off+k,none⟩=some (.int .u16 x0):=hc0
      have hc1:wr.drew.cell? ⟨b',off'+k,none⟩=some (.int .u16 y0):=hc1
      go_wp2
      refine nG (S:=fun w'=>w'.cell? ⟨b,off+k,none⟩=some (.int .u16 x0)∧w'.cell? ⟨b',off'+k,none⟩=some (.int .u16 y0)) (n:=9) #[false,false,false,false,false,false,false,false,false] (by kernel_rfl) rfl rfl ⟨hc0,hc1⟩ (fun hHeld=>?_)
      refine cJ (i:=0) (N:=some 16) (v:=?_) (a':=?_) #[true,false,false,false,false,false,false,false,false] rfl rfl (by kernel_rfl) (fun _ _ _ h=>h) (Or.inl ⟨by rfl,?_⟩) hHeld ?_ ?_
      rotate_left
      · rintro w' ⟨hs0,hs1⟩
        go_simp
        with_reducible rfl
      rotate_left
      · simp only[Act.put,List.setIfInBounds_toArray,List.set_cons_zero,List.set_cons_succ]
        rfl
      refine cJ (i:=1) (N:=some 17) (v:=?_) (a':=?_) #[true,true,false,false,false,false,false,false,false] rfl rfl (by kernel_rfl) (fun _ _ _ h=>h) (Or.inl ⟨by rfl,?_⟩) hHeld ?_ ?_
      rotate_left
      · rintro w' ⟨hs0,hs1⟩
        go_simp
        with_reducible rfl
      rotate_left
      · simp only[Act.put,List.setIfInBounds_toArray,List.set_cons_zero,List.set_cons_succ]
        rfl
      refine cJ (i:=2) (N:=some 18) (v:=?_) (a':=?_) #[true,true,true,false,false,false,false,false,false] rfl rfl (by kernel_rfl) (fun _ _ _ h=>h) (Or.inl ⟨by rfl,?_⟩) hHeld ?_ ?_
      rotate_left
      · rintro w' ⟨hs0,hs1⟩
        go_simp
        with_reducible rfl
      rotate_left
      · simp only[Act.put,List.setIfInBounds_toArray,List.set_cons_zero,List.set_cons_succ]
        rfl
      refine cJ (i:=3) (N:=some 19) (v:=?_) (a':=?_) #[true,true,true,true,false,false,false,false,false] rfl rfl (by kernel_rfl) (fun _ _ _ h=>h) (Or.inl ⟨by rfl,?_⟩) hHeld ?_ ?_
      rotate_left
      · rintro w' ⟨hs0,hs1⟩
        go_simp
        with_reducible rfl
      rotate_left
      · simp only[Act.put,List.setIfInBounds_toArray,List.set_cons_zero,List.set_cons_succ]
        rfl
      refine cJ (i:=4) (N:=some 20) (v:=?_) (a':=?_) #[true,true,true,true,true,false,false,false,false] rfl rfl (by kernel_rfl) (fun _ _ _ h=>h) (Or.inl ⟨by rfl,?_⟩) hHeld ?_ ?_
      rotate_left
      · rintro w' ⟨hs0,hs1⟩
        go_simp
        with_reducible rfl
      rotate_left
      · simp only[Act.put,List.setIfInBounds_toArray,List.set_cons_zero,List.set_cons_succ]
        rfl
      refine cJ (i:=5) (N:=some 21) (v:=?_) (a':=?_) #[true,true,true,true,true,true,false,false,false] rfl rfl (by kernel_rfl) (fun _ _ _ h=>h) (Or.inl ⟨by rfl,?_⟩) hHeld ?_ ?_
      rotate_left
      · rintro w' ⟨hs0,hs1⟩
        go_simp
        with_reducible rfl
      rotate_left
      · simp only[Act.put,List.setIfInBounds_toArray,List.set_cons_zero,List.set_cons_succ]
        rfl
      refine cJ (i:=6) (N:=some 22) (v:=?_) (a':=?_) #[true,true,true,true,true,true,true,false,false] rfl rfl (by kernel_rfl) (fun _ _ _ h=>h) (Or.inl ⟨by rfl,?_⟩) hHeld ?_ ?_
      rotate_left
      · rintro w' ⟨hs0,hs1⟩
        go_simp
        with_reducible rfl
      rotate_left
      · simp only[Act.put,List.setIfInBounds_toArray,List.set_cons_zero,List.set_cons_succ]
        rfl
      refine cJ (i:=7) (N:=some 23) (v:=?_) (a':=?_) #[true,true,true,true,true,true,true,true,false] rfl rfl (by kernel_rfl) (fun _ _ _ h=>h) (Or.inl ⟨by rfl,?_⟩) hHeld ?_ ?_
      rotate_left
      · rintro w' ⟨hs0,hs1⟩
        go_simp
        with_reducible rfl
      rotate_left
      · simp only[Act.put,List.setIfInBounds_toArray,List.set_cons_zero,List.set_cons_succ]
        rfl
      refine cJ (i:=8) (N:=some 24) (v:=?_) (a':=?_) #[true,true,true,true,true,true,true,true,true] rfl rfl (by kernel_rfl) (fun _ _ _ h=>h) (Or.inl ⟨by rfl,?_⟩) hHeld ?_ ?_
      rotate_left
      · rintro w' ⟨hs0,hs1⟩
        go_simp
        with_reducible rfl
      rotate_left
      · simp only[Act.put,List.setIfInBounds_toArray,List.set_cons_zero,List.set_cons_succ]
        rfl
      refine qH (by kernel_rfl) ?_
      clear hc0 hc1 hHeld
      go_wp2
      · exact hno'.out _ (by simpa using (show(x0 != y0)=true by assumption)) (hu.drew)
      · go_roundw
        case rel=>exact⟨k+1,by omega,by go_num,hstep.out (by simpa using (show(x0 != y0)=false by assumption)),hu.drew⟩
        case measure=>simp[intOf];omega
    · have hj3:k=xs.length:=by omega
      have H3:=Lib.hid hj3
      rw[hj3] at hpre
      clear hj3 hhx hhy
      go_wp2
      exact hyes _ hpre hu
theorem vY{m m':Bool}{u v:Value}{xs ys:List Bool}{w:World}(hx:iq m w u xs)(hy:iq m' w v ys) : Calls Tryz.prog 72 #[u,v] w (cX (decide (xs=ys)) w):=by
  have hhx:=hx
  have hhy:=hy
  obtain⟨A,c,rfl,hc1,hc2⟩:=hx.shape
  obtain⟨B,c',rfl,qQ,pu⟩:=hy.shape
  have hn:xs.length≤9223372036854775807:=by have:=hc2;unfold maxLen at this;omega
  by_cases hl:xs.length=ys.length
  case neg =>
    have hno:∀ W,ax [] w W→cX (decide (xs=ys)) w (.returned (.bool false)) W:=by
      intro W hW
      rw[decide_eq_false (fun h=>hl (by rw[h]))]
      exact⟨rfl,hW⟩
    have hli:((xs.length:Int)!=(ys.length:Int))=true:=by simp;omega
    clear hx hy hhx hhy hl
    go_enter Tryz.func72,Tryz.ntmps72
    go_wp2
    go_ret
    exact hno _ (ax.refl _ _)
  have hno:∀ W k,xs.getD k false≠ys.getD k false→ax [] w W→cX (decide (xs=ys)) w (.returned (.bool false)) W:=by
    intro W k hk hW
    rw[decide_eq_false (sf k hk)]
    exact⟨rfl,hW⟩
  have hyes:∀ W,xs.take xs.length=ys.take xs.length→ax [] w W→cX (decide (xs=ys)) w (.returned (.bool true)) W:=by
    intro W hk hW
    rw[List.take_length,hl,List.take_length] at hk
    rw[decide_eq_true hk]
    exact⟨rfl,hW⟩
  revert hno hyes
  generalize cX (decide (xs=ys)) w=P
  intro hno hyes
  have hli:((xs.length:Int)!=(ys.length:Int))=false:=by simp;omega
  have hL:=Lib.hid hl
  clear hx hy hl
  go_enter Tryz.func72,Tryz.ntmps72
  go_wp2
  go_loopw [13] (fun i wr=>∃ k:Nat,k≤xs.length∧i = .int .i64 (k:Int)∧xs.take k=ys.take k∧ax [] w wr) (fun i _=>xs.length-(intOf i).toNat)
  case atStart=>exact⟨0,by omega,rfl,by simp,ax.refl _ _⟩
  case round =>
    obtain⟨k,hk,rfl,hpre,hu⟩:=hrel
    by_cases hlt:k<xs.length
    · obtain⟨b,off,rfl,cw0⟩:=iq.at_ hhx k hlt
      obtain⟨b',off',rfl,cw1⟩:=iq.at_ hhy k (by have:=hL.out;omega)
      have hlt':k<ys.length:=by have:=hL.out;omega
      have hstep:=fun h=>ky (d:=false) hL.out hlt hpre h
      have hno':=fun W h=>hno W k h
      revert cw0 cw1 hstep hno'
      generalize xs.getD k false=x0
      generalize ys.getD k false=y0
      intro cw0 cw1 hstep hno'
      have hc0:=hu.cell (by simp) cw0
      have hc1:=hu.cell (by simp) cw1
      have hstep:=Lib.hid hstep
      have hno':=Lib.hid hno'
      clear cw0 cw1 hhx hhy hpre hno hyes
      have hc0:wr.drew.cell? ⟨b,off+k,none⟩=some (.bool x0):=hc0
      have hc1:wr.drew.cell? ⟨b',off'+k,none⟩=some (.bool y0):=hc1
      go_wp2
      refine nG (S:=fun w'=>w'.cell? ⟨b,off+k,none⟩=some (.bool x0)∧w'.cell? ⟨b',off'+k,none⟩=some (.bool y0)) (n:=9) #[false,false,false,false,false,false,false,false,false] (by kernel_rfl) rfl rfl ⟨hc0,hc1⟩ (fun hHeld=>?_)
      refine cJ (i:=0) (N:=some 16) (v:=?_) (a':=?_) #[true,false,false,false,false,false,false,false,false] rfl rfl (by kernel_rfl) (fun _ _ _ h=>h) (Or.inl ⟨by rfl,?_⟩) hHeld ?_ ?_
      rotate_left
      · rintro w' ⟨hs0,hs1⟩
        go_simp
        with_reducible rfl
      rotate_left
      · simp only[Act.put,List.setIfInBounds_toArray,List.set_cons_zero,List.set_cons_succ]
        rfl
      refine cJ (i:=1) (N:=some 17) (v:=?_) (a':=?_) #[true,true,false,false,false,false,false,false,false] rfl rfl (by kernel_rfl) (fun _ _ _ h=>h) (Or.inl ⟨by rfl,?_⟩) hHeld ?_ ?_
      rotate_left
      · rintro w' ⟨hs0,hs1⟩
        go_simp
        with_reducible rfl
      rotate_left
      · simp only[Act.put,List.setIfInBounds_toArray,List.set_cons_zero,List.set_cons_succ]
        rfl
      refine cJ (i:=2) (N:=some 18) (v:=?_) (a':=?_) #[true,true,true,false,false,false,false,false,false] rfl rfl (by kernel_rfl) (fun _ _ _ h=>h) (Or.inl ⟨by rfl,?_⟩) hHeld ?_ ?_
      rotate_left
      · rintro w' ⟨hs0,hs1⟩
        go_simp
        with_reducible rfl
      rotate_left
      · simp only[Act.put,List.setIfInBounds_toArray,List.set_cons_zero,List.set_cons_succ]
        rfl
      refine cJ (i:=3) (N:=some 19) (v:=?_) (a':=?_) #[true,true,true,true,false,false,false,false,false] rfl rfl (by kernel_rfl) (fun _ _ _ h=>h) (Or.inl ⟨by rfl,?_⟩) hHeld ?_ ?_
      rotate_left
      · rintro w' ⟨hs0,hs1⟩
        go_simp
        with_reducible rfl
      rotate_left
      · simp only[Act.put,List.setIfInBounds_toArray,List.set_cons_zero,List.set_cons_succ]
        rfl
      refine cJ (i:=4) (N:=some 20) (v:=?_) (a':=?_) #[true,true,true,true,true,false,false,false,false] rfl rfl (by kernel_rfl) (fun _ _ _ h=>h) (Or.inl ⟨by rfl,?_⟩) hHeld ?_ ?_
      rotate_left
      · rintro w' ⟨hs0,hs1⟩
        go_simp
        with_reducible rfl
      rotate_left
      · simp only[Act.put,List.setIfInBounds_toArray,List.set_cons_zero,List.set_cons_succ]
        rfl
      refine cJ (i:=5) (N:=some 21) (v:=?_) (a':=?_) #[true,true,true,true,true,true,false,false,false] rfl rfl (by kernel_rfl) (fun _ _ _ h=>h) (Or.inl ⟨by rfl,?_⟩) hHeld ?_ ?_
      rotate_left
      · rintro w' ⟨hs0,hs1⟩
        go_simp
        with_reducible rfl
      rotate_left
      · simp only[Act.put,List.setIfInBounds_toArray,List.set_cons_zero,List.set_cons_succ]
        rfl
      refine cJ (i:=6) (N:=some 22) (v:=?_) (a':=?_) #[true,true,true,true,true,true,true,false,false] rfl rfl (by kernel_rfl) (fun _ _ _ h=>h) (Or.inl ⟨by rfl,?_⟩) hHeld ?_ ?_
      rotate_left
      · rintro w' ⟨hs0,hs1⟩
        go_simp
        with_reducible rfl
      rotate_left
      · simp only[Act.put,List.setIfInBounds_toArray,List.set_cons_zero,List.set_cons_succ]
        rfl
      refine cJ (i:=7) (N:=some 23) (v:=?_) (a':=?_) #[true,true,true,true,true,true,true,true,false] rfl rfl (by kernel_rfl) (fun _ _ _ h=>h) (Or.inl ⟨by rfl,?_⟩) hHeld ?_ ?_
      rotate_left
      · rintro w' ⟨hs0,hs1⟩
        go_simp
        with_reducible rfl
      rotate_left
      · simp only[Act.put,List.setIfInBounds_toArray,List.set_cons_zero,List.set_cons_succ]
        rfl
      refine cJ (i:=8) (N:=some 24) (v:=?_) (a':=?_) #[true,true,true,true,true,true,true,true,true] rfl rfl (by kernel_rfl) (fun _ _ _ h=>h) (Or.inl ⟨by rfl,?_⟩) hHeld ?_ ?_
      rotate_left
      · rintro w' ⟨hs0,hs1⟩
        go_simp
        with_reducible rfl
      rotate_left
      · simp only[Act.put,List.setIfInBounds_toArray,List.set_cons_zero,List.set_cons_succ]
        rfl
      refine qH (by kernel_rfl) ?_
      clear hc0 hc1 hHeld
      go_wp2
      · exact hno'.out _ (by simpa using (show(x0 != y0)=true by assumption)) (hu.drew)
      · go_roundw
        case rel=>exact⟨k+1,by omega,by go_num,hstep.out (by simpa using (show(x0 != y0)=false by assumption)),hu.drew⟩
        case measure=>simp[intOf];omega
    · have hj3:k=xs.length:=by omega
      have H3:=Lib.hid hj3
      rw[hj3] at hpre
      clear hj3 hhx hhy
      go_wp2
      exact hyes _ hpre hu
open Go.RowKit
theorem aQ.cells{m:Bool}{w:World}{A:Option Addr}{n c:Nat}{xs:List Int}(h:aQ m w (.slice A n c) xs) : (A=none∧xs=[])∨xs=[]∨∃ b off,A=some ⟨b,off,none⟩∧∀ i,i<xs.length→w.cell? ⟨b,off+i,none⟩=some (.int .u8 (xs.getD i 0)):=by
  by_cases h0:xs=[]
  · exact .inr (.inl h0)
  · have hl:0<xs.length:=List.length_pos_iff.2 h0
    obtain⟨b,off,rfl,_⟩:=aQ.at_ h 0 hl
    refine .inr (.inr ⟨b,off,rfl,fun i hi=>?_⟩)
    obtain⟨b',off',hA,hc,_⟩:=aQ.at_ h i hi
    injection hA with hA
    injection hA with h1 h2
    subst h1 h2
    exact hc
theorem qG{m:Bool}{w:World}{v:Value}{xs:List Int}(h:aQ m w v xs) : (convert 27 9 v).run Tryz.prog w = .ok (.string (strOfNums xs)) w:=by
  have hh:=h
  obtain⟨A,c,rfl,h1,h2,h0,h3⟩:=hh
  rcases Nat.eq_zero_or_pos xs.length with hz|hz
  · obtain rfl:xs=[]:=List.eq_nil_of_length_eq_zero hz
    cases A with
    | none=>exact run_convert_bytes_nil w _ _ Tryz.underlying27 Tryz.underlying5 _ _ _ Tryz.underlying9
    | some a =>
      rw[run_convert_bytes_string w _ _ _ _ _ _ Tryz.underlying27 Tryz.underlying5 Tryz.underlying9]
      rw[run_bytesToString w a _ c [] (by simp[loadCells,loadCellsFrom,Sem.run_pure])]
      rfl
  · obtain⟨b,off,cells,t,fr,rfl,hb,ht,hx⟩:=h3 hz
    exact run_convert_bytes_arg w _ _ Tryz.underlying27 Tryz.underlying5 b off _ c xs rfl (fun i hi=>by
      obtain⟨b',off',hA,hc,_⟩:=aQ.at_ h i hi
      injection hA with hA
      injection hA with h1 h2
      subst h1 h2
      exact hc) _ Tryz.underlying9
theorem qK:∀ {xs ys:List Int},(∀ x,x∈xs→0≤x∧x<256)→(∀ x,x∈ys→0≤x∧x<256)→(xs.map fun n=>UInt8.ofNat n.toNat)=(ys.map fun n=>UInt8.ofNat n.toNat)→xs=ys
  | [],[],_,_,_=>rfl
  | [],_ :: _,_,_,h=>by simp at h
  | _ :: _,[],_,_,h=>by simp at h
  | x :: xs,y :: ys,hx,hy,h=>by
    simp only[List.map_cons,List.cons.injEq] at h
    have h1:=hx x (by simp)
    have h2:=hy y (by simp)
    have h3:x=y:=by
      have:=congrArg UInt8.toNat h.1
      simp at this
      omega
    rw[h3,qK (fun z hz=>hx z (by simp[hz])) (fun z hz=>hy z (by simp[hz])) h.2]
theorem sZ{m m':Bool}{w w' W:World}{u v:Value}{xs ys:List Int}(hx:aQ m w u xs)(hy:aQ m' w' v ys) : (binOp .eql 9 (.string (strOfNums xs)) (.string (strOfNums ys))).run Tryz.prog W = .ok (.bool (decide (xs=ys))) W:=by
  have e:((strOfNums xs).toList==(strOfNums ys).toList)=decide (xs=ys):=by
    by_cases h:xs=ys
    · subst h;simp
    · rw[decide_eq_false h,beq_eq_false_iff_ne]
      intro h2
      rw[ByteArray.toList_eq,ByteArray.toList_eq] at h2
      exact h (qK hx.rng hy.rng h2)
  rw[binOp_string_eql,e]
  rfl
theorem vO{A B:eq}:decide (A=B)=(decide (A.file=B.file)&&(decide (A.record=B.record)&&(decide (A.count=B.count)&&decide (A.words=B.words)))):=by
  rw[Bool.eq_iff_iff]
  cases A;cases B
  simp
theorem xw{m m':Bool}{ca cb:List Value}{A B:eq}{w:World}(ha:bA m w A ca)(hb:bA m' w B cb) : Calls Tryz.prog 74 #[.agg ca.toArray,.agg cb.toArray] w (cX (decide (A=B)) w):=by
  obtain⟨va,rfl,hwa,hra⟩:=ha
  obtain⟨vb,rfl,hwb,hrb⟩:=hb
  rw[vO]
  generalize A.file=f1 at *
  generalize A.record=f2 at *
  generalize A.count=f3 at *
  generalize A.words=f4 at *
  generalize B.file=g1 at *
  generalize B.record=g2 at *
  generalize B.count=g3 at *
  generalize B.words=g4 at *
  clear hra hrb
  have hpost:∀ W,ax [] w W→cX (decide (f1=g1)&&(decide (f2=g2)&&(decide (f3=g3)&&decide (f4=g4)))) w (.returned (.bool (decide (f1=g1)&&(decide (f2=g2)&&(decide (f3=g3)&&decide (f4=g4)))))) W:=fun W h=>⟨rfl,h⟩
  revert hpost
  generalize cX (decide (f1=g1)&&(decide (f2=g2)&&(decide (f3=g3)&&decide (f4=g4)))) w=P
  intro hpost
  by_cases h1:f1=g1
  case neg =>
    have e:(decide (f1=g1)&&(decide (f2=g2)&&(decide (f3=g3)&&decide (f4=g4))))=false:=by simp[h1]
    rw[e] at hpost
    have e1:(f1==g1)=false:=by simpa using h1
    clear h1 e hwa hwb
    replace hpost:=Lib.hid hpost
    go_enter Tryz.func74,Tryz.ntmps74
    go_wp2
    exact hpost.out _ (((ax.refl [] w).alloc _).alloc _)
  subst h1
  by_cases h1:f2=g2
  case neg =>
    have e:(decide (f1=f1)&&(decide (f2=g2)&&(decide (f3=g3)&&decide (f4=g4))))=false:=by simp[h1]
    rw[e] at hpost
    have e1:(f2==g2)=false:=by simpa using h1
    clear h1 e hwa hwb
    replace hpost:=Lib.hid hpost
    go_enter Tryz.func74,Tryz.ntmps74
    go_wp2
    exact hpost.out _ (((ax.refl [] w).alloc _).alloc _)
  subst h1
  by_cases h1:f3=g3
  case neg =>
    have e:(decide (f1=f1)&&(decide (f2=f2)&&(decide (f3=g3)&&decide (f4=g4))))=false:=by simp[h1]
    rw[e] at hpost
    have e1:(f3==g3)=false:=by simpa using h1
    clear h1 e hwa hwb
    replace hpost:=Lib.hid hpost
    go_enter Tryz.func74,Tryz.ntmps74
    go_wp2
    exact hpost.out _ (((ax.refl [] w).alloc _).alloc _)
  subst h1
  have e:(decide (f1=f1)&&(decide (f2=f2)&&(decide (f3=f3)&&decide (f4=g4))))=decide (f4=g4):=by simp
  rw[e] at hpost
  clear e
  have hcall:=fun(W:World) (h:ax [] w W)=>rA (hwa.old h) (hwb.old h)
  replace hpost:=Lib.hid hpost
  go_enter Tryz.func74,Tryz.ntmps74
  go_wp2_with (go_at_call 71;refine(hcall _ (((ax.refl [] w).alloc _).alloc _)).mono ?_;rintro e w1 ⟨rfl,hu1⟩)
  exact hpost.out _ ((((ax.refl [] w).alloc _).alloc _).step hu1)
theorem wS{A B:Obj}:decide (A=B)=(decide (A.id=B.id)&&decide (A.value=B.value)):=by
  rw[Bool.eq_iff_iff]
  cases A;cases B
  simp
theorem pD{m m':Bool}{ca cb:List Value}{A B:Obj}{w:World}(ha:cD m w A ca)(hb:cD m' w B cb) : Calls Tryz.prog 76 #[.agg ca.toArray,.agg cb.toArray] w (cX (decide (A=B)) w):=by
  obtain⟨va,rfl,hwa,hra⟩:=ha
  obtain⟨vb,rfl,hwb,hrb⟩:=hb
  rw[wS]
  generalize A.id=f1 at *
  generalize A.value=f4 at *
  generalize B.id=g1 at *
  generalize B.value=g4 at *
  clear hra hrb
  have hpost:∀ W,ax [] w W→cX (decide (f1=g1)&&decide (f4=g4)) w (.returned (.bool (decide (f1=g1)&&decide (f4=g4)))) W:=fun W h=>⟨rfl,h⟩
  revert hpost
  generalize cX (decide (f1=g1)&&decide (f4=g4)) w=P
  intro hpost
  by_cases h1:f1=g1
  case neg =>
    have e:(decide (f1=g1)&&decide (f4=g4))=false:=by simp[h1]
    rw[e] at hpost
    have e1:(f1==g1)=false:=by simpa using h1
    clear h1 e hwa hwb
    replace hpost:=Lib.hid hpost
    go_enter Tryz.func76,Tryz.ntmps76
    go_wp2
    exact hpost.out _ (((ax.refl [] w).alloc _).alloc _)
  subst h1
  have e:(decide (f1=f1)&&decide (f4=g4))=decide (f4=g4):=by simp
  rw[e] at hpost
  have hu0:ax [] w ((w.alloc (.cells #[.int .u8 f1,va] 85)).alloc (.cells #[.int .u8 f1,vb] 85)):=((ax.refl [] w).alloc _).alloc _
  have c1:=qG (hwa.old hu0)
  have c2:=qG (hwb.old hu0)
  have c3:=sZ (hwa.old hu0) (hwb.old hu0) (W:=(w.alloc (.cells #[.int .u8 f1,va] 85)).alloc (.cells #[.int .u8 f1,vb] 85))
  replace hpost:=hpost _ hu0
  generalize strOfNums f4=s1 at *
  generalize strOfNums g4=s2 at *
  generalize decide (f4=g4)=D at *
  clear hu0 hwa hwb e
  rw[binOp_string_eql] at c3
  have c4:(s1.toList==s2.toList)=D:=by simpa [Sem.run_pure] using c3
  clear c3
  replace hpost:=Lib.hid hpost
  go_enter Tryz.func76,Tryz.ntmps76
  go_wp2
  exact hpost.out
open Go.RowKit
theorem aO.at_{α:Type}{m:Bool}{e:TypeId}{sz:Nat}{R:World→α→List Value→Prop}{w:World}{A:Option Addr}{n c:Nat}{xs:List α}(h:aO m e sz R w (.slice A n c) xs)(d:α)(j:Nat)(hj:j<xs.length) :
    ∃ b off cs,A=some ⟨b,off,none⟩∧w.rangeAt b (off+j*sz) cs∧R w (xs.getD j d) cs∧cs.length=sz:=by
  obtain⟨A',c',hv,h1,h2,h0,h3⟩:=h
  injection hv with e1 e2 e3
  subst e1 e3
  obtain⟨b,off,cells,t,fr,rfl,hb,ht,hx⟩:=h3 (by omega)
  obtain⟨cs,h4,h5,h6⟩:=hx j (xs.getD j d) (by simp[List.getD_eq_getElem?_getD,List.getElem?_eq_getElem hj])
  exact⟨b,off,cs,rfl,fun i u hi=>by rw[b7 hb];exact h6 i u hi,h5,h4⟩
theorem bA.upd0{m:Bool}{w w':World}(hu:ax [] w w'){r:eq}{cs:List Value}(h:bA m w r cs) : bA m w' r cs:=bA.upd hu (bX.nil _ _ _) r cs h
theorem cD.upd0{m:Bool}{w w':World}(hu:ax [] w w'){r:Obj}{cs:List Value}(h:cD m w r cs) : cD m w' r cs:=cD.upd hu (bX.nil _ _ _) r cs h
theorem eJ{w w':World}{b o:Nat}{cs:List Value}(h:w.rangeAt b o cs){S:List Nat}(hu:ax S w w')(hb:b∉S) : w'.rangeAt b o cs:=fun j v hj=>hu.cell hb (h j v hj)
theorem o7:(Tryz.prog.info? 83).map (·.zero)=some (some (.agg #[.int .u16 0,.int .u16 0,.int .u16 0,.slice none 0 0])):=by kernel_rfl
theorem fy:(Tryz.prog.info? 83).map (·.size)=some 4:=by kernel_rfl
theorem o5:(Tryz.prog.info? 85).map (·.zero)=some (some (.agg #[.int .u8 0,.slice none 0 0])):=by kernel_rfl
theorem fu:(Tryz.prog.info? 85).map (·.size)=some 2:=by kernel_rfl
theorem bA.one{m:Bool}{w:World}{r:eq}{cs:List Value}(h:bA m w r cs) : cs.toArray.all (·.oneCell')=true∧cs.length=4:=by
  obtain⟨v,rfl,h1,_⟩:=h
  obtain⟨A,c,rfl,_⟩:=h1
  exact⟨by simp[Value.oneCell'],rfl⟩
theorem cD.one{m:Bool}{w:World}{r:Obj}{cs:List Value}(h:cD m w r cs) : cs.toArray.all (·.oneCell')=true∧cs.length=2:=by
  obtain⟨v,rfl,h1,_⟩:=h
  obtain⟨A,c,rfl,_⟩:=h1
  exact⟨by simp[Value.oneCell'],rfl⟩
theorem wB{m m':Bool}{u v:Value}{xs ys:List eq}{w:World}(hx:lN m w u xs)(hy:lN m' w v ys) :
    Calls Tryz.prog 73 #[u,v,.func (.func 74) #[] #[]] w (cX (decide (xs=ys)) w):=by
  have hhx:=hx
  have hhy:=hy
  obtain⟨A,c,rfl,hc1,hc2⟩:=hx.shape
  obtain⟨B,c',rfl,qQ,pu⟩:=hy.shape
  have hn:xs.length≤9223372036854775807:=by have:=hc2;unfold maxLen at this;omega
  by_cases hl:xs.length=ys.length
  case neg =>
    have hno:∀ W,ax [] w W→cX (decide (xs=ys)) w (.returned (.bool false)) W:=by
      intro W hW
      rw[decide_eq_false (fun h=>hl (by rw[h]))]
      exact⟨rfl,hW⟩
    have hli:((xs.length:Int)!=(ys.length:Int))=true:=by simp;omega
    clear hx hy hhx hhy hl
    go_enter Tryz.func73,Tryz.ntmps73
    go_wp2
    go_ret
    exact hno _ (ax.refl _ _)
  have hno:∀ W k,xs.getD k ⟨0,0,0,[]⟩≠ys.getD k ⟨0,0,0,[]⟩→ax [] w W→cX (decide (xs=ys)) w (.returned (.bool false)) W:=by
    intro W k hk hW
    rw[decide_eq_false (sf k hk)]
    exact⟨rfl,hW⟩
  have hyes:∀ W,xs.take xs.length=ys.take xs.length→ax [] w W→cX (decide (xs=ys)) w (.returned (.bool true)) W:=by
    intro W hk hW
    rw[List.take_length,hl,List.take_length] at hk
    rw[decide_eq_true hk]
    exact⟨rfl,hW⟩
  revert hno hyes
  generalize cX (decide (xs=ys)) w=P
  intro hno hyes
  have hli:((xs.length:Int)!=(ys.length:Int))=false:=by simp;omega
  have hL:=Lib.hid hl
  clear hx hy hl
  go_enter Tryz.func73,Tryz.ntmps73
  go_wp2
  go_loopw [17] (fun i wr=>∃ k:Nat,k≤xs.length∧i = .int .i64 (k:Int)∧xs.take k=ys.take k∧ax [] w wr) (fun i _=>xs.length-(intOf i).toNat)
  case atStart=>exact⟨0,by omega,rfl,by simp,ax.refl _ _⟩
  case round =>
    obtain⟨k,hk,rfl,hpre,hu⟩:=hrel
    by_cases hlt:k<xs.length
    · obtain⟨b,off,ca,rfl,cw0,hr0,hl0⟩:=aO.at_ hhx ⟨0,0,0,[]⟩ k hlt
      obtain⟨b',off',cb,rfl,cw1,hr1,hl1⟩:=aO.at_ hhy ⟨0,0,0,[]⟩ k (by have:=hL.out;omega)
      have hlt':k<ys.length:=by have:=hL.out;omega
      have hstep:=fun h=>ky (d:=⟨0,0,0,[]⟩) hL.out hlt hpre h
      have hno':=fun W h=>hno W k h
      revert hstep hno' hr0 hr1
      generalize xs.getD k ⟨0,0,0,[]⟩=x0
      generalize ys.getD k ⟨0,0,0,[]⟩=y0
      intro hr0 hr1 hstep hno'
      have hc0:=Lib.hid (eJ cw0 hu (by simp))
      have hc1:=Lib.hid (eJ cw1 hu (by simp))
      replace hstep:=Lib.hid hstep
      replace hno':=Lib.hid hno'
      have ha:=Lib.hid hr0
      have hb:=Lib.hid hr1
      clear cw0 cw1 hhx hhy hpre hno hyes hr0 hr1
      have tok1_0:True:=trivial
      have tok1_1:True:=trivial
      have tok1_2:True:=trivial
      have tok1_3:True:=trivial
      have tok1_4:True:=trivial
      have tok1_5:True:=trivial
      have tok1_6:True:=trivial
      have tok1_7:True:=trivial
      have tok1_8:True:=trivial
      go_wp2_with (first | (have _t:=tok1_0;refine wpList_load_mid rfl 83 _ rfl b (off+k*4) rfl ca _ hc0.out Tryz.underlying83 rfl (by rw[hl0];exact fy) ?_;clear _t tok1_0) | (have _t:=tok1_1;refine fJ rfl 83 rfl _ o7 ?_;intro g1 w1 hg1 hB1 hu1;clear _t tok1_1) | (have _t:=tok1_2;refine fE rfl 83 _ _ rfl g1 rfl ca.toArray rfl _ _ hB1 (by simp only[List.size_toArray,hl0];exact fy) (by simp only[List.size_toArray,hl0];rfl) (bA.one ha.out).1 ?_;intro w2 hB2 hu2;have U2:=hu1.fresh1 hu2 hg1;clear _t tok1_2) | (have _t:=tok1_3;refine wpList_load_mid rfl 83 _ rfl b' (off'+k*4) rfl cb _ (eJ hc1.out U2 (by simp)) Tryz.underlying83 rfl (by rw[hl1];exact fy) ?_;clear _t tok1_3) | (have _t:=tok1_4;refine fJ rfl 83 rfl _ o7 ?_;intro g3 w3 hg3 hB3 hu3;clear _t tok1_4) | (have _t:=tok1_5;refine fE rfl 83 _ _ rfl g3 rfl cb.toArray rfl _ _ hB3 (by simp only[List.size_toArray,hl1];exact fy) (by simp only[List.size_toArray,hl1];rfl) (bA.one hb.out).1 ?_;intro w4 hB4 hu4;have U4:=hu3.fresh1 hu4 hg3;have a:=U4.blk (by simp) hB2;have V4:=hu.step (U2.step U4);clear _t tok1_5) | (have _t:=tok1_6;refine wpList_load_row rfl 83 _ rfl g1 rfl _ _ _ _ a Tryz.underlying83 rfl (by simp only[List.size_toArray,hl0];exact fy) ?_;clear _t tok1_6) | (have _t:=tok1_7;refine wpList_load_row rfl 83 _ rfl g3 rfl _ _ _ _ hB4 Tryz.underlying83 rfl (by simp only[List.size_toArray,hl1];exact fy) ?_;clear _t tok1_7) | (have _t:=tok1_8;go_at_call 74;refine(xw (bA.upd0 V4 ha.out) (bA.upd0 V4 hb.out)).mono ?_;rintro e w5 ⟨rfl,hu5⟩;generalize hD:decide (x0=y0)=D;have HD:=Lib.hid hD;clear hD a hB4;clear _t tok1_8))
      · have hD0:(!D)=true:=by assumption
        exact hno'.out _ (by have:=HD.out;intro h;rw[← this,h] at hD0;simp at hD0) (V4.step hu5)
      · have hD0:(!D)=false:=by assumption
        have hxy:x0=y0:=by have:=HD.out;rw[← this] at hD0;simpa using hD0
        go_roundw
        case rel=>exact⟨k+1,by omega,by go_num,hstep.out hxy,V4.step hu5⟩
        case measure=>simp[intOf];omega
    · have hj3:k=xs.length:=by omega
      have H3:=Lib.hid hj3
      rw[hj3] at hpre
      clear hj3 hhx hhy
      go_wp2
      exact hyes _ hpre hu
theorem xm{m m':Bool}{u v:Value}{xs ys:List Obj}{w:World}(hx:mH m w u xs)(hy:mH m' w v ys) :
    Calls Tryz.prog 75 #[u,v,.func (.func 76) #[] #[]] w (cX (decide (xs=ys)) w):=by
  have hhx:=hx
  have hhy:=hy
  obtain⟨A,c,rfl,hc1,hc2⟩:=hx.shape
  obtain⟨B,c',rfl,qQ,pu⟩:=hy.shape
  have hn:xs.length≤9223372036854775807:=by have:=hc2;unfold maxLen at this;omega
  by_cases hl:xs.length=ys.length
  case neg =>
    have hno:∀ W,ax [] w W→cX (decide (xs=ys)) w (.returned (.bool false)) W:=by
      intro W hW
      rw[decide_eq_false (fun h=>hl (by rw[h]))]
      exact⟨rfl,hW⟩
    have hli:((xs.length:Int)!=(ys.length:Int))=true:=by simp;omega
    clear hx hy hhx hhy hl
    go_enter Tryz.func75,Tryz.ntmps75
    go_wp2
    go_ret
    exact hno _ (ax.refl _ _)
  have hno:∀ W k,xs.getD k ⟨0,[]⟩≠ys.getD k ⟨0,[]⟩→ax [] w W→cX (decide (xs=ys)) w (.returned (.bool false)) W:=by
    intro W k hk hW
    rw[decide_eq_false (sf k hk)]
    exact⟨rfl,hW⟩
  have hyes:∀ W,xs.take xs.length=ys.take xs.length→ax [] w W→cX (decide (xs=ys)) w (.returned (.bool true)) W:=by
    intro W hk hW
    rw[List.take_length,hl,List.take_length] at hk
    rw[decide_eq_true hk]
    exact⟨rfl,hW⟩
  revert hno hyes
  generalize cX (decide (xs=ys)) w=P
  intro hno hyes
  have hli:((xs.length:Int)!=(ys.length:Int))=false:=by simp;omega
  have hL:=Lib.hid hl
  clear hx hy hl
  go_enter Tryz.func75,Tryz.ntmps75
  go_wp2
  go_loopw [17] (fun i wr=>∃ k:Nat,k≤xs.length∧i = .int .i64 (k:Int)∧xs.take k=ys.take k∧ax [] w wr) (fun i _=>xs.length-(intOf i).toNat)
  case atStart=>exact⟨0,by omega,rfl,by simp,ax.refl _ _⟩
  case round =>
    obtain⟨k,hk,rfl,hpre,hu⟩:=hrel
    by_cases hlt:k<xs.length
    · obtain⟨b,off,ca,rfl,cw0,hr0,hl0⟩:=aO.at_ hhx ⟨0,[]⟩ k hlt
      obtain⟨b',off',cb,rfl,cw1,hr1,hl1⟩:=aO.at_ hhy ⟨0,[]⟩ k (by have:=hL.out;omega)
      have hlt':k<ys.length:=by have:=hL.out;omega
      have hstep:=fun h=>ky (d:=⟨0,[]⟩) hL.out hlt hpre h
      have hno':=fun W h=>hno W k h
      revert hstep hno' hr0 hr1
      generalize xs.getD k ⟨0,[]⟩=x0
      generalize ys.getD k ⟨0,[]⟩=y0
      intro hr0 hr1 hstep hno'
      have hc0:=Lib.hid (eJ cw0 hu (by simp))
      have hc1:=Lib.hid (eJ cw1 hu (by simp))
      replace hstep:=Lib.hid hstep
      replace hno':=Lib.hid hno'
      have ha:=Lib.hid hr0
      have hb:=Lib.hid hr1
      clear cw0 cw1 hhx hhy hpre hno hyes hr0 hr1
      have tok2_0:True:=trivial
      have tok2_1:True:=trivial
      have tok2_2:True:=trivial
      have tok2_3:True:=trivial
      have tok2_4:True:=trivial
      have tok2_5:True:=trivial
      have tok2_6:True:=trivial
      have tok2_7:True:=trivial
      have tok2_8:True:=trivial
      go_wp2_with (first | (have _t:=tok2_0;refine wpList_load_mid rfl 85 _ rfl b (off+k*2) rfl ca _ hc0.out Tryz.underlying85 rfl (by rw[hl0];exact fu) ?_;clear _t tok2_0) | (have _t:=tok2_1;refine fJ rfl 85 rfl _ o5 ?_;intro g1 w1 hg1 hB1 hu1;clear _t tok2_1) | (have _t:=tok2_2;refine fE rfl 85 _ _ rfl g1 rfl ca.toArray rfl _ _ hB1 (by simp only[List.size_toArray,hl0];exact fu) (by simp only[List.size_toArray,hl0];rfl) (cD.one ha.out).1 ?_;intro w2 hB2 hu2;have U2:=hu1.fresh1 hu2 hg1;clear _t tok2_2) | (have _t:=tok2_3;refine wpList_load_mid rfl 85 _ rfl b' (off'+k*2) rfl cb _ (eJ hc1.out U2 (by simp)) Tryz.underlying85 rfl (by rw[hl1];exact fu) ?_;clear _t tok2_3) | (have _t:=tok2_4;refine fJ rfl 85 rfl _ o5 ?_;intro g3 w3 hg3 hB3 hu3;clear _t tok2_4) | (have _t:=tok2_5;refine fE rfl 85 _ _ rfl g3 rfl cb.toArray rfl _ _ hB3 (by simp only[List.size_toArray,hl1];exact fu) (by simp only[List.size_toArray,hl1];rfl) (cD.one hb.out).1 ?_;intro w4 hB4 hu4;have U4:=hu3.fresh1 hu4 hg3;have a:=U4.blk (by simp) hB2;have V4:=hu.step (U2.step U4);clear _t tok2_5) | (have _t:=tok2_6;refine wpList_load_row rfl 85 _ rfl g1 rfl _ _ _ _ a Tryz.underlying85 rfl (by simp only[List.size_toArray,hl0];exact fu) ?_;clear _t tok2_6) | (have _t:=tok2_7;refine wpList_load_row rfl 85 _ rfl g3 rfl _ _ _ _ hB4 Tryz.underlying85 rfl (by simp only[List.size_toArray,hl1];exact fu) ?_;clear _t tok2_7) | (have _t:=tok2_8;go_at_call 76;refine(pD (cD.upd0 V4 ha.out) (cD.upd0 V4 hb.out)).mono ?_;rintro e w5 ⟨rfl,hu5⟩;generalize hD:decide (x0=y0)=D;have HD:=Lib.hid hD;clear hD a hB4;clear _t tok2_8))
      · have hD0:(!D)=true:=by assumption
        exact hno'.out _ (by have:=HD.out;intro h;rw[← this,h] at hD0;simp at hD0) (V4.step hu5)
      · have hD0:(!D)=false:=by assumption
        have hxy:x0=y0:=by have:=HD.out;rw[← this] at hD0;simpa using hD0
        go_roundw
        case rel=>exact⟨k+1,by omega,by go_num,hstep.out hxy,V4.step hu5⟩
        case measure=>simp[intOf];omega
    · have hj3:k=xs.length:=by omega
      have H3:=Lib.hid hj3
      rw[hj3] at hpre
      clear hj3 hhx hhy
      go_wp2
      exact hyes _ hpre hu
open Go.RowKit
def dj (M:aV) : List Int:=[M.code,M.fail,M.addr,M.count,M.value,M.and_,M.or_,M.addr2,M.sub,M.status,M.events,M.messages,M.mei*256+M.kind,M.level*256+M.more,M.next]
def fT (M:aV) : Array Value:=((dj M).map (Value.int .u16)).toArray
theorem qf:(Tryz.prog.info? 137).map (·.zero)=some (some (.agg ((List.replicate 15 (Value.int .u16 0)).toArray))):=by kernel_rfl
theorem jY:(Tryz.prog.info? 137).map (·.size)=some 15:=by kernel_rfl
theorem nT(a0 a1 a2 a3 a4 a5 a6 a7 a8 a9 a b c d e:Int)(w:World) : (Instr.build 137 #[(0,.int .u16 a0),(1,.int .u16 a1),(2,.int .u16 a2),(3,.int .u16 a3),(4,.int .u16 a4),(5,.int .u16 a5),(6,.int .u16 a6),(7,.int .u16 a7),(8,.int .u16 a8),(9,.int .u16 a9),(10,.int .u16 a),(11,.int .u16 b),(12,.int .u16 c),(13,.int .u16 d),(14,.int .u16 e)]).run Tryz.prog w
    = .ok (.agg #[.int .u16 a0,.int .u16 a1,.int .u16 a2,.int .u16 a3,.int .u16 a4,.int .u16 a5,.int .u16 a6,.int .u16 a7,.int .u16 a8,.int .u16 a9,.int .u16 a,.int .u16 b,.int .u16 c,.int .u16 d,.int .u16 e]) w:=by kernel_rfl
theorem tI{P:Program}{fn:Func}{p:Tmp}{ty:TypeId}(h:fn.results = #[.cell p ty]){R:Ending→World→Prop}{a:Act}{w:World}(hd0:a.defers=[])(g:Nat)(t:TypeId)(cs:Array Value)(fr:Nat × Nat)(d:TypeDesc)
    (hp:a.tmps.getD p undef = .pointer (some ⟨g,0,none⟩)) (hg:w.heap[g]? = some (.cells cs t fr))
    (hu:P.underlying ty=some d) (hd:(match d with | .struct _ | .array _ _=>true | _=>false)=true) (hi:(P.info? ty).map (·.size)=some cs.size)
    (hR:R (.returned (.agg cs)) w) : bodyPost P fn R .ret a w:=by
  have hp':a.tmps[p]?.getD undef = .pointer (some ⟨g,0,none⟩):=by simpa using hp
  exact bodyPost_ret (by simp[results,h,hp',asAddr,run_loadVar_row w g t ty cs fr d hg hu hd hi]) hd0 hR
theorem lm{m:Bool}{cs:Array Value}{M:aV}{w:World}(h:aF m w cs.toList M) : Calls Tryz.prog 70 #[.agg cs] w (bv (.agg (fT M)) w):=by
  obtain⟨vw,vb,vd,vr,vo,h0,_,_,_,_,_,hR⟩:=h
  obtain⟨c0,c1,c2,c3,c4,c5,c6,c7,c8,c9,f,i,l1,l2,l3,l4,a,c,b,d,e,l5⟩:=M
  obtain⟨r0,r1,r2,r3,r4,r5,r6,r7,r8,r9,o,p,j,k,l,n,q⟩:=hR
  simp only[B8,db] at r0 r1 r2 r3 r4 r5 r6 r7 r8 r9 o p j k l n q
  have hpost:∀ W,ax [] w W→bv (.agg (fT ⟨c0,c1,c2,c3,c4,c5,c6,c7,c8,c9,f,i,l1,l2,l3,l4,a,c,b,d,e,l5⟩)) w (.returned (.agg #[.int .u16 c0,.int .u16 c1,.int .u16 c2,.int .u16 c3,.int .u16 c4,.int .u16 c5,.int .u16 c6,.int .u16 c7,.int .u16 c8,.int .u16 c9,.int .u16 f,.int .u16 i,.int .u16 (a*256+c),.int .u16 (b*256+d),.int .u16 e])) W:=fun W hW=>⟨rfl,hW⟩
  revert hpost
  generalize bv (.agg (fT ⟨c0,c1,c2,c3,c4,c5,c6,c7,c8,c9,f,i,l1,l2,l3,l4,a,c,b,d,e,l5⟩)) w=P
  intro hpost
  replace hpost:=Lib.hid hpost
  have w0:IntKind.u16.wrap c0=c0:=by show c0%65536=c0;omega
  have w1:IntKind.u16.wrap c1=c1:=by show c1%65536=c1;omega
  have r:IntKind.u16.wrap a=a:=by show a%65536=a;omega
  have s:IntKind.u16.wrap c=c:=by show c%65536=c;omega
  have t:IntKind.u16.wrap b=b:=by show b%65536=b;omega
  have u:IntKind.u16.wrap d=d:=by show d%65536=d;omega
  have v:IntKind.u16.wrap e=e:=by show e%65536=e;omega
  have x1:IntKind.u16.wrap (a*256)=a*256:=by show(a*256)%65536=a*256;omega
  have x2:IntKind.u16.wrap (b*256)=b*256:=by show(b*256)%65536=b*256;omega
  have o1:=mJ j k
  have o2:=mJ l n
  have hcs:cs = #[.int .u8 c0,.int .u8 c1,.int .u16 c2,.int .u16 c3,.int .u16 c4,.int .u16 c5,.int .u16 c6,.int .u16 c7,.int .u16 c8,.int .u16 c9,.int .u16 f,.int .u16 i,vw,vb,vd,vr,.int .u8 a,.int .u8 c,.int .u8 b,.int .u8 d,.int .u8 e,vo]:=by
    apply Array.toList_inj.1
    exact h0
  subst hcs
  have hbp:=nT
  clear h0 r0 r1 r2 r3 r4 r5 r6 r7 r8 r9 o p j k l n q
  go_enter Tryz.func70,Tryz.ntmps70
  have tok1_0:True:=trivial
  have tok1_1:True:=trivial
  have tok1_2:True:=trivial
  go_wp2_with (first | (have _t:=tok1_0;refine wJ rfl 31 _ rfl (.agg #[.int .u8 c0,.int .u8 c1,.int .u16 c2,.int .u16 c3,.int .u16 c4,.int .u16 c5,.int .u16 c6,.int .u16 c7,.int .u16 c8,.int .u16 c9,.int .u16 f,.int .u16 i,vw,vb,vd,vr,.int .u8 a,.int .u8 c,.int .u8 b,.int .u8 d,.int .u8 e,vo]) rfl ?_;intro g w1 hg hB hu1;clear _t tok1_0) | (have _t:=tok1_1;refine fJ rfl 137 rfl _ qf ?_;intro gp w2 hgp hBp hu2;replace hB:=hu2.blk (by simp) hB;have k0:w2.cell? ⟨g,0,none⟩=some (.int .u8 c0):=(b7 hB 0).trans rfl;have k1:w2.cell? ⟨g,1,none⟩=some (.int .u8 c1):=(b7 hB 1).trans rfl;have k2:w2.cell? ⟨g,2,none⟩=some (.int .u16 c2):=(b7 hB 2).trans rfl;have k3:w2.cell? ⟨g,3,none⟩=some (.int .u16 c3):=(b7 hB 3).trans rfl;have k4:w2.cell? ⟨g,4,none⟩=some (.int .u16 c4):=(b7 hB 4).trans rfl;have k5:w2.cell? ⟨g,5,none⟩=some (.int .u16 c5):=(b7 hB 5).trans rfl;have k6:w2.cell? ⟨g,6,none⟩=some (.int .u16 c6):=(b7 hB 6).trans rfl;have k7:w2.cell? ⟨g,7,none⟩=some (.int .u16 c7):=(b7 hB 7).trans rfl;have k8:w2.cell? ⟨g,8,none⟩=some (.int .u16 c8):=(b7 hB 8).trans rfl;have k9:w2.cell? ⟨g,9,none⟩=some (.int .u16 c9):=(b7 hB 9).trans rfl;have x:w2.cell? ⟨g,10,none⟩=some (.int .u16 f):=(b7 hB 10).trans rfl;have y:w2.cell? ⟨g,11,none⟩=some (.int .u16 i):=(b7 hB 11).trans rfl;have z:w2.cell? ⟨g,16,none⟩=some (.int .u8 a):=(b7 hB 16).trans rfl;have A:w2.cell? ⟨g,17,none⟩=some (.int .u8 c):=(b7 hB 17).trans rfl;have B:w2.cell? ⟨g,18,none⟩=some (.int .u8 b):=(b7 hB 18).trans rfl;have C:w2.cell? ⟨g,19,none⟩=some (.int .u8 d):=(b7 hB 19).trans rfl;have D:w2.cell? ⟨g,20,none⟩=some (.int .u8 e):=(b7 hB 20).trans rfl;clear hB;clear _t tok1_1) | (have _t:=tok1_2;refine fE rfl 137 _ _ rfl gp rfl _ rfl _ _ hBp jY rfl (by simp[Value.oneCell']) ?_;intro w3 hB3 hu3;clear _t tok1_2))
  refine tI rfl rfl gp _ _ _ _ rfl hB3 Tryz.underlying137 rfl jY ?_
  exact hpost.out _ (hu1.step (hu2.fresh1 hu3 hgp))
open Go.RowKit
theorem hG:∀ (xs ys:List Int),xs.length=ys.length→((List.range xs.length).all fun i=>xs.getD i 0==ys.getD i 0)=(xs==ys)
  | [],[],_=>rfl
  | x :: xs,y :: ys,h=>by
    have ih:=hG xs ys (by simpa using h)
    rw[List.length_cons,List.range_succ_eq_map,List.all_cons,List.all_map]
    simp only[List.getD_cons_zero,Function.comp_def,List.getD_cons_succ,ih]
    simp[List.cons_beq_cons]
  | [],_ :: _,h=>by simp at h
  | _ :: _,[],h=>by simp at h
theorem mB{P:Program}(w:World)(t e:TypeId)(k:IntKind)(n:Nat)(ht:P.underlying t=some (.array n e))(he:P.underlying e=some (.int k))(hsz:∀ w,(sizeOf e).run P w = .ok 1 w)
    (xs ys:List Int) (hx:xs.length=n) (hy:ys.length=n) :
    (binOp .eql t (.agg (xs.map (Value.int k)).toArray) (.agg (ys.map (Value.int k)).toArray)).run P w = .ok (.bool (xs==ys)) w:=by
  rw[run_eql_struct]
  suffices h:(Op.equalIn 10000 t (.agg (xs.map (Value.int k)).toArray) (.agg (ys.map (Value.int k)).toArray)).run P w = .ok (xs==ys) w by
    rw[h]
    rfl
  rw[show(10000:Nat)=9998+2 from rfl]
  rw[← hG xs ys (hx.trans hy.symm),hx,List.range_eq_range',Op.equalIn]
  simp only[Sem.run_bind,run_underlying ht,Result.andThen_ok,hsz,Std.Legacy.Range.forIn_eq_forIn_range',Std.Legacy.Range.size,Nat.sub_zero,Nat.add_sub_cancel,Nat.div_one]
  have hl:∀ i∈List.range' 0 n 1,i<n:=fun i hi=>by simpa using (List.mem_range'_1.1 hi).2
  generalize List.range' 0 n 1=l at hl ⊢
  induction l with
  | nil=>simp
  | cons i l ih =>
    have hi:i<n:=hl i (by simp)
    have px:(part e (xs.map (Value.int k)).toArray (i*1)).run P w = .ok (Value.int k (xs.getD i 0)) w:=by
      simp[part,isAgg,run_underlying he,List.getD,List.getElem?_eq_getElem (show i<xs.length by omega)]
    have py:(part e (ys.map (Value.int k)).toArray (i*1)).run P w = .ok (Value.int k (ys.getD i 0)) w:=by
      simp[part,isAgg,run_underlying he,List.getD,List.getElem?_eq_getElem (show i<ys.length by omega)]
    have pe:(Op.equalIn (9998+1) e (Value.int k (xs.getD i 0)) (Value.int k (ys.getD i 0))).run P w = .ok (xs.getD i 0==ys.getD i 0) w:=run_equalIn_int w 9998 e k k _ _ he
    simp only[List.forIn_cons,Sem.run_bind,px,py,pe,Result.andThen_ok,List.all_cons]
    cases hb:(xs.getD i 0==ys.getD i 0)
    · simp
    · simp only[Bool.not_true,Bool.false_eq_true,if_false,Sem.run_pure,Result.andThen_ok,Bool.true_and]
      exact ih fun j hj=>hl j (by simp[hj])
theorem uO{A B:aV}(ha:fp A)(hb:fp B) : dj A=dj B↔A = { B with words:=A.words,bits:=A.bits,data:=A.data,recs:=A.recs,objects:=A.objects }:=by
  obtain⟨_,_,_,_,_,_,_,_,_,_,_,_,a1,a2,a3,a4,_⟩:=ha
  obtain⟨_,_,_,_,_,_,_,_,_,_,_,_,b1,b2,b3,b4,_⟩:=hb
  cases A;cases B
  simp only[B8] at a1 a2 a3 a4 b1 b2 b3 b4
  simp only[dj,List.cons.injEq,and_true,aV.mk.injEq,true_and]
  constructor
  · rintro⟨h1,h2,h3,h4,h5,h6,h7,h8,h9,a,b,c,e,f,d⟩
    refine⟨h1,h2,h3,h4,h5,h6,h7,h8,h9,a,b,c,?_,?_,?_,?_,d⟩<;>omega
  · rintro⟨h1,h2,h3,h4,h5,h6,h7,h8,h9,a,b,c,e,f,d,h,g⟩
    refine⟨h1,h2,h3,h4,h5,h6,h7,h8,h9,a,b,c,?_,?_,g⟩<;>omega
theorem xW{A B:aV}(ha:fp A)(hb:fp B) : A=B↔dj A=dj B∧A.words=B.words∧A.bits=B.bits∧A.data=B.data∧A.recs=B.recs∧A.objects=B.objects:=by
  rw[uO ha hb]
  constructor
  · rintro rfl
    exact⟨rfl,rfl,rfl,rfl,rfl,rfl⟩
  · rintro⟨h1,h2,h3,h4,h5,h6⟩
    rw[h1,h2,h3,h4,h5,h6]
open Go.RowKit
theorem nF{ev:Operand→Value}{o:Oper}{x y:Operand}{t:TypeId}{A B:aV}{w:World}(ho:o.op = .binOp .eql 137 x y t)(hx:ev x = .agg (fT A))(hy:ev y = .agg (fT B)) :
    (execOp ev o).run Tryz.prog w = .ok (.value (.bool (dj A==dj B))) w:=by
  have hg:(eqGuard .eql 137 x y (.agg (fT A)) (.agg (fT B))).run Tryz.prog w = .ok () w:=run_eqGuard_agg w .eql _ x y _ _ (by kernel_rfl)
  have he:(binOp .eql 137 (.agg (fT A)) (.agg (fT B))).run Tryz.prog w = .ok (.bool (dj A==dj B)) w:=mB (P:=Tryz.prog) w 137 22 .u16 15 Tryz.underlying137 Tryz.underlying22 (fun w=>by kernel_rfl) (dj A) (dj B) rfl rfl
  unfold execOp
  simp only[ho,hx,hy,Sem.run_bind,hg,he,Sem.run_pure,Result.andThen]
theorem fF{A B:aV}(ha:fp A)(hb:fp B) : decide (A=B)=(dj A==dj B&&(decide (A.words=B.words)&&(decide (A.bits=B.bits)&&(decide (A.data=B.data)&&(decide (A.recs=B.recs)&&decide (A.objects=B.objects)))))):=by
  rw[Bool.eq_iff_iff]
  simp only[Bool.and_eq_true,decide_eq_true_eq,beq_iff_eq]
  exact xW ha hb
theorem fz{m m':Bool}{pc qc:Array Value}{A B:aV}{w:World}(ha:aF m w pc.toList A)(hb:aF m' w qc.toList B) :
    Calls Tryz.prog 56 #[.agg pc,.agg qc] w (cX (decide (A=B)) w):=by
 have pM:=ha
 obtain⟨pvw,pvb,pvd,pvr,pvo,ph0,phw,phb,phd,phr,pho,pR⟩:=ha
 obtain rfl:pc=(bt A pvw pvb pvd pvr pvo).toArray:=by apply Array.toList_inj.1;simpa using ph0
 clear ph0
 obtain⟨pw,pkw,rfl,_,_⟩:=phw.shape
 obtain⟨pb,pkb,rfl,_,_⟩:=phb.shape
 obtain⟨pd,pkd,rfl,_,_⟩:=phd.shape
 obtain⟨pr,pkr,rfl,_,_⟩:=phr.shape
 obtain⟨po,pko,rfl,_,_⟩:=pho.shape
 have qM:=hb
 obtain⟨qvw,qvb,qvd,qvr,qvo,qh0,qhw,qhb,qhd,qhr,qho,qR⟩:=hb
 obtain rfl:qc=(bt B qvw qvb qvd qvr qvo).toArray:=by apply Array.toList_inj.1;simpa using qh0
 clear qh0
 obtain⟨qw,qkw,rfl,_,_⟩:=qhw.shape
 obtain⟨qb,qkb,rfl,_,_⟩:=qhb.shape
 obtain⟨qd,qkd,rfl,_,_⟩:=qhd.shape
 obtain⟨qr,qkr,rfl,_,_⟩:=qhr.shape
 obtain⟨qo,qko,rfl,_,_⟩:=qho.shape
 refine en 47 Tryz.func56 rfl<|sg<|L0<|cz (mG A.code A.fail A.addr A.count A.value A.and_ A.or_ A.addr2 A.sub A.status A.events A.messages (.slice pw A.words.length pkw) (.slice pb A.bits.length pkb) (.slice pd A.data.length pkd) (.slice pr A.recs.length pkr) A.mei A.kind A.level A.more A.next (.slice po A.objects.length pko)) fun k aj ak ac ad=>L0<|cz (mG B.code B.fail B.addr B.count B.value B.and_ B.or_ B.addr2 B.sub B.status B.events B.messages (.slice qw B.words.length qkw) (.slice qb B.bits.length qkb) (.slice qd B.data.length qkd) (.slice qr B.recs.length qkr) B.mei B.kind B.level B.more B.next (.slice qo B.objects.length qko)) fun l al am ae X=>Pl 1<|nt<|sq<|Rg 43 (fun w'=>w'.heap[k]? = some (.cells (mG A.code A.fail A.addr A.count A.value A.and_ A.or_ A.addr2 A.sub A.status A.events A.messages (.slice pw A.words.length pkw) (.slice pb A.bits.length pkb) (.slice pd A.data.length pkd) (.slice pr A.recs.length pkr) A.mei A.kind A.level A.more A.next (.slice po A.objects.length pko)) 31 (0,0))∧w'.heap[l]? = some (.cells (mG B.code B.fail B.addr B.count B.value B.and_ B.or_ B.addr2 B.sub B.status B.events B.messages (.slice qw B.words.length qkw) (.slice qb B.bits.length qkb) (.slice qd B.data.length qkd) (.slice qr B.recs.length qkr) B.mei B.kind B.level B.more B.next (.slice qo B.objects.length qko)) 31 (0,0))∧w'.cell? ⟨k,12,none⟩=some (.slice pw A.words.length pkw)∧w'.cell? ⟨l,12,none⟩=some (.slice qw B.words.length qkw)∧w'.cell? ⟨k,13,none⟩=some (.slice pb A.bits.length pkb)∧w'.cell? ⟨l,13,none⟩=some (.slice qb B.bits.length qkb)∧w'.cell? ⟨k,14,none⟩=some (.slice pd A.data.length pkd)∧aQ false w' (.slice pd A.data.length pkd) A.data∧w'.cell? ⟨l,14,none⟩=some (.slice qd B.data.length qkd)∧aQ false w' (.slice qd B.data.length qkd) B.data∧w'.cell? ⟨k,15,none⟩=some (.slice pr A.recs.length pkr)∧w'.cell? ⟨l,15,none⟩=some (.slice qr B.recs.length qkr)∧w'.cell? ⟨k,21,none⟩=some (.slice po A.objects.length pko)∧w'.cell? ⟨l,21,none⟩=some (.slice qo B.objects.length qko)) fun an U=>?_
 have o:=ub (aE X U) ac
 have p:=ub U ae
 have Q:=aE (aE ad X) U
 have Y:=aQ.old phd Q
 have Z:=aQ.old qhd Q
 refine aZ ⟨o,p,(aa o rfl),(aa p rfl),(aa o rfl),(aa p rfl),(aa o rfl),(aO.any Y (fun _ _ h=>h)),(aa p rfl),(aO.any Z (fun _ _ h=>h)),(aa o rfl),(aa p rfl),(aa o rfl),(aa p rfl)⟩ fun a0=>Rr 0 a0 (.agg (mG A.code A.fail A.addr A.count A.value A.and_ A.or_ A.addr2 A.sub A.status A.events A.messages (.slice pw A.words.length pkw) (.slice pb A.bits.length pkb) (.slice pd A.data.length pkd) (.slice pr A.recs.length pkr) A.mei A.kind A.level A.more A.next (.slice po A.objects.length pko))) (fun w' hs=>fM (g:=k) (off:=0) [.int .u8 A.code,.int .u8 A.fail,.int .u16 A.addr,.int .u16 A.count,.int .u16 A.value,.int .u16 A.and_,.int .u16 A.or_,.int .u16 A.addr2,.int .u16 A.sub,.int .u16 A.status,.int .u16 A.events,.int .u16 A.messages,.slice pw A.words.length pkw,.slice pb A.bits.length pkb,.slice pd A.data.length pkd,.slice pr A.recs.length pkr,.int .u8 A.mei,.int .u8 A.kind,.int .u8 A.level,.int .u8 A.more,.int .u8 A.next,.slice po A.objects.length pko] rfl (by kernel_rfl) hs.1 (by kernel_rfl) (by kernel_rfl) rfl)<|Rr 2 a0 (.agg (mG B.code B.fail B.addr B.count B.value B.and_ B.or_ B.addr2 B.sub B.status B.events B.messages (.slice qw B.words.length qkw) (.slice qb B.bits.length qkb) (.slice qd B.data.length qkd) (.slice qr B.recs.length qkr) B.mei B.kind B.level B.more B.next (.slice qo B.objects.length qko))) (fun w' hs=>fM (g:=l) (off:=0) [.int .u8 B.code,.int .u8 B.fail,.int .u16 B.addr,.int .u16 B.count,.int .u16 B.value,.int .u16 B.and_,.int .u16 B.or_,.int .u16 B.addr2,.int .u16 B.sub,.int .u16 B.status,.int .u16 B.events,.int .u16 B.messages,.slice qw B.words.length qkw,.slice qb B.bits.length qkb,.slice qd B.data.length qkd,.slice qr B.recs.length qkr,.int .u8 B.mei,.int .u8 B.kind,.int .u8 B.level,.int .u8 B.more,.int .u8 B.next,.slice qo B.objects.length qko] rfl (by kernel_rfl) hs.2.1 (by kernel_rfl) (by kernel_rfl) rfl)<|?_
 refine R0 1 rfl<|Oc<|m1 (lm (aF.old pM Q)) fun ao I=>?_
 have q:=ub I o
 have r:=ub I p
 have a1:=aQ.old Y I
 have a2:=aQ.old Z I
 refine aZ ⟨q,r,(aa q rfl),(aa r rfl),(aa q rfl),(aa r rfl),(aa q rfl),(aO.any a1 (fun _ _ h=>h)),(aa r rfl),(aO.any a2 (fun _ _ h=>h)),(aa q rfl),(aa r rfl),(aa q rfl),(aa r rfl)⟩ fun ap=>?_
 have a3:=aE Q I
 refine R0 3 rfl<|Oc<|m1 (lm (aF.old qM a3)) fun aq J=>?_
 have s:=ub J q
 have t:=ub J r
 have a4:=aQ.old a1 J
 have a5:=aQ.old a2 J
 refine aZ ⟨s,t,(aa s rfl),(aa t rfl),(aa s rfl),(aa t rfl),(aa s rfl),(aO.any a4 (fun _ _ h=>h)),(aa t rfl),(aO.any a5 (fun _ _ h=>h)),(aa s rfl),(aa t rfl),(aa s rfl),(aa t rfl)⟩ fun e=>Rr 4 e (.bool (dj A==dj B)) (fun _ _=>nF rfl (by kernel_rfl) (by kernel_rfl))<|Rt 5 e<|?_
 have R:=aE a3 J
 refine u7 10 ((dj A==dj B)) (fun u=>?_) (fun u=>?_)
 refine Rt 6 e<|Rl 7 e (fun _ hs=>hs.2.2.1)<|Rt 8 e<|Rl 9 e (fun _ hs=>hs.2.2.2.1)<|?_
 refine R0 10 rfl<|Oc<|m1 (rA (dB.old phw R) (dB.old qhw R)) fun ar K=>?_
 have v:=ub K s
 have x:=ub K t
 have a6:=aQ.old a4 K
 have a7:=aQ.old a5 K
 refine aZ ⟨v,x,(aa v rfl),(aa x rfl),(aa v rfl),(aa x rfl),(aa v rfl),(aO.any a6 (fun _ _ h=>h)),(aa x rfl),(aO.any a7 (fun _ _ h=>h)),(aa v rfl),(aa x rfl),(aa v rfl),(aa x rfl)⟩ fun f=>Rt 11 f<|Rt 12 f<|?_
 have S:=aE R K
 refine u7 17 ((decide (A.words=B.words))) (fun j=>?_) (fun j=>?_)
 have af:=of_decide_eq_true j
 refine Rt 13 f<|Rl 14 f (fun _ hs=>hs.2.2.2.2.1)<|Rt 15 f<|Rl 16 f (fun _ hs=>hs.2.2.2.2.2.1)<|?_
 refine R0 17 rfl<|Oc<|m1 (vY (iq.old phb S) (iq.old qhb S)) fun au L=>?_
 have y:=ub L v
 have z:=ub L x
 have V:=aQ.old a6 L
 have W:=aQ.old a7 L
 refine aZ ⟨y,z,(aa y rfl),(aa z rfl),(aa y rfl),(aa z rfl),(aa y rfl),(aO.any V (fun _ _ h=>h)),(aa z rfl),(aO.any W (fun _ _ h=>h)),(aa y rfl),(aa z rfl),(aa y rfl),(aa z rfl)⟩ fun d=>Rt 18 d<|Rt 19 d<|?_
 have M:=aE S L
 refine u7 24 ((decide (A.bits=B.bits))) (fun C=>?_) (fun C=>?_)
 have ag:=of_decide_eq_true C
 refine Rt 20 d<|Rl 21 d (fun _ hs=>hs.2.2.2.2.2.2.1)<|Rr 22 d (.string (strOfNums A.data)) (fun _ hs=>cl (A:=pd) (n:=A.data.length) (c:=pkd) rfl (by kernel_rfl) Tryz.underlying27 Tryz.underlying5 Tryz.underlying9 hs.2.2.2.2.2.2.2.1)<|Rt 23 d<|Rl 24 d (fun _ hs=>hs.2.2.2.2.2.2.2.2.1)<|Rr 25 d (.string (strOfNums B.data)) (fun _ hs=>cl (A:=qd) (n:=B.data.length) (c:=qkd) rfl (by kernel_rfl) Tryz.underlying27 Tryz.underlying5 Tryz.underlying9 hs.2.2.2.2.2.2.2.2.2.1)<|Rr 26 d (.bool (decide (A.data=B.data))) (fun _ _=>ey (a:=(strOfNums A.data)) (b:=(strOfNums B.data)) rfl (by kernel_rfl) (by kernel_rfl) (i7 V W))<|Rt 27 d<|Rt 28 d<|u7 33 ((decide (A.data=B.data))) (fun F=>?_) (fun F=>?_)
 have ah:=of_decide_eq_true F
 refine Rt 29 d<|Rl 30 d (fun _ hs=>hs.2.2.2.2.2.2.2.2.2.2.1)<|Rt 31 d<|Rl 32 d (fun _ hs=>hs.2.2.2.2.2.2.2.2.2.2.2.1)<|?_
 refine R0 33 rfl<|Oc<|m1 (wB (lN.old phr M) (lN.old qhr M)) fun av N=>?_
 have D:=ub N y
 have E:=ub N z
 have a8:=aQ.old V N
 have a9:=aQ.old W N
 refine aZ ⟨D,E,(aa D rfl),(aa E rfl),(aa D rfl),(aa E rfl),(aa D rfl),(aO.any a8 (fun _ _ h=>h)),(aa E rfl),(aO.any a9 (fun _ _ h=>h)),(aa D rfl),(aa E rfl),(aa D rfl),(aa E rfl)⟩ fun i=>Rt 34 i<|Rt 35 i<|?_
 have T:=aE M N
 refine u7 40 ((decide (A.recs=B.recs))) (fun O=>?_) (fun O=>?_)
 have ai:=of_decide_eq_true O
 refine Rt 36 i<|Rl 37 i (fun _ hs=>hs.2.2.2.2.2.2.2.2.2.2.2.2.1)<|Rt 38 i<|Rl 39 i (fun _ hs=>hs.2.2.2.2.2.2.2.2.2.2.2.2.2)<|?_
 refine R0 40 rfl<|Oc<|m1 (xm (mH.old pho T) (mH.old qho T)) fun aw P=>?_
 have G:=ub P D
 have H:=ub P E
 refine aZ ⟨G,H,(aa G rfl),(aa H rfl),(aa G rfl),(aa H rfl),(aa G rfl),(aO.any (aQ.old a8 P) (fun _ _ h=>h)),(aa H rfl),(aO.any (aQ.old a9 P) (fun _ _ h=>h)),(aa G rfl),(aa H rfl),(aa G rfl),(aa H rfl)⟩ fun ab=>Rt 41 ab<|Rt 42 ab<|re<|tn<|rt<|rr (.bool (decide (A.objects=B.objects)))<|?_
 have hs:decide (A=B)=(decide (A.objects=B.objects)):=by
   rw[fF pR qR]
   (try simp only[u,j,C,F,O,bs,if_true,if_false,decide_true,decide_false])
 rw[hs]
 exact⟨rfl,(aE T P)⟩
 have ai:=of_decide_eq_false O
 refine Ro 36 i<|Ro 37 i<|Ro 38 i<|Ro 39 i<|Ro 40 i<|Rt 41 i<|Rt 42 i<|re<|tn<|rt<|rr (.bool false)<|?_
 have hs:decide (A=B)=false:=by
   rw[fF pR qR]
   (try simp only[u,j,C,F,O,bs,if_true,if_false,decide_true,decide_false])
 rw[hs]
 exact⟨rfl,T⟩
 have ah:=of_decide_eq_false F
 refine Ro 29 d<|Ro 30 d<|Ro 31 d<|Ro 32 d<|Ro 33 d<|Rt 34 d<|Rt 35 d<|Ro 36 d<|Ro 37 d<|Ro 38 d<|Ro 39 d<|Ro 40 d<|Rt 41 d<|Rt 42 d<|?_
 refine re<|tn<|rt<|rr (.bool false)<|?_
 have hs:decide (A=B)=false:=by
   rw[fF pR qR]
   (try simp only[u,j,C,F,bs,if_true,if_false,decide_true,decide_false])
 rw[hs]
 exact⟨rfl,M⟩
 have ag:=of_decide_eq_false C
 refine Ro 20 d<|Ro 21 d<|Ro 22 d<|Ro 23 d<|Ro 24 d<|Ro 25 d<|Ro 26 d<|Rt 27 d<|Rt 28 d<|Ro 29 d<|Ro 30 d<|Ro 31 d<|Ro 32 d<|Ro 33 d<|?_
 refine Rt 34 d<|Rt 35 d<|Ro 36 d<|Ro 37 d<|Ro 38 d<|Ro 39 d<|Ro 40 d<|Rt 41 d<|Rt 42 d<|re<|tn<|rt<|rr (.bool false)<|?_
 have hs:decide (A=B)=false:=by
   rw[fF pR qR]
   (try simp only[u,j,C,bs,if_true,if_false,decide_true,decide_false])
 rw[hs]
 exact⟨rfl,M⟩
 have af:=of_decide_eq_false j
 refine Ro 13 f<|Ro 14 f<|Ro 15 f<|Ro 16 f<|Ro 17 f<|Rt 18 f<|Rt 19 f<|Ro 20 f<|Ro 21 f<|Ro 22 f<|Ro 23 f<|Ro 24 f<|Ro 25 f<|Ro 26 f<|?_
 refine Rt 27 f<|Rt 28 f<|Ro 29 f<|Ro 30 f<|Ro 31 f<|Ro 32 f<|Ro 33 f<|Rt 34 f<|Rt 35 f<|Ro 36 f<|Ro 37 f<|Ro 38 f<|Ro 39 f<|Ro 40 f<|?_
 refine Rt 41 f<|Rt 42 f<|re<|tn<|rt<|rr (.bool false)<|?_
 have hs:decide (A=B)=false:=by
   rw[fF pR qR]
   (try simp only[u,j,bs,if_true,if_false,decide_true,decide_false])
 rw[hs]
 exact⟨rfl,S⟩
 refine Ro 6 e<|Ro 7 e<|Ro 8 e<|Ro 9 e<|Ro 10 e<|Rt 11 e<|Rt 12 e<|Ro 13 e<|Ro 14 e<|Ro 15 e<|Ro 16 e<|Ro 17 e<|Rt 18 e<|Rt 19 e<|?_
 refine Ro 20 e<|Ro 21 e<|Ro 22 e<|Ro 23 e<|Ro 24 e<|Ro 25 e<|Ro 26 e<|Rt 27 e<|Rt 28 e<|Ro 29 e<|Ro 30 e<|Ro 31 e<|Ro 32 e<|Ro 33 e<|?_
 refine Rt 34 e<|Rt 35 e<|Ro 36 e<|Ro 37 e<|Ro 38 e<|Ro 39 e<|Ro 40 e<|Rt 41 e<|Rt 42 e<|re<|tn<|rt<|rr (.bool false)<|?_
 have hs:decide (A=B)=false:=by
   rw[fF pR qR]
   (try simp only[u,bs,if_true,if_false,decide_true,decide_false])
 rw[hs]
 exact⟨rfl,R⟩
open Go.RowKit
def ib (Q:World→Ending→World→Prop)(w:World)(e:Ending)(w':World) : Prop:=∃ F free,e = .returned (.func (.func F) #[] free)∧zf Tryz.prog F=some (false,true)∧ax [] w w'∧Calls Tryz.prog F free w' (Q w')
theorem ld{g:Nat}{C:ap}{w:World}{a most:Int}(hC:ah w g C)(ha:0≤a∧a<65536) :
    Calls Tryz.prog 110 #[.pointer (some ⟨g,0,none⟩),.int .u16 a,.int .i64 most] w (lP g .i64 65536 C.wordV (bL C a most) w):=by
 have hlen:=hC.len
 have hrr:=hC.wordV
 refine en 26 Tryz.func110 rfl<|sg<|Pl 1<|ng<|Pl 1<|L0<|Oc<|m3 (bD hC) fun l d e m=>L0<|Oi C.wordV<|Pl 1<|nt<|?_
 refine sg<|Pl 4<|cu 4 [14] 18 (((decide (1≤C.wordV))&&(decide (C.wordV≤most)))) (fun K c=>?_) ?_
 refine bl 14 ((decide (1≤C.wordV))) (fun b=>?_) (fun b=>?_)
 have f:=of_decide_eq_true b
 exact Pl 4<|ce c (decide (C.wordV≤most)) (by rw[b];rfl)
 have f:=of_decide_eq_false b
 exact Pl 4<|ce c false (by rw[b];rfl)
 refine L0<|Oc<|m2 (aU (((decide (1≤C.wordV))&&(decide (C.wordV≤most)))) 5 d) fun o h i=>ng<|Pl 3<|L0<|Oc<|mq (i8 (a:=a) (n:=C.wordV) (by omega))<|L0<|Oc<|m2 (aU ((el a C.wordV)) 7 h) fun p j k=>ng<|Pl 2<|nl<|?_
 refine tn<|rt<|rr (.int .i64 C.wordV)<|?_
 have hs:bL C a most=(((C.wordsC 1).need ((decide (1≤C.wordV))&&(decide (C.wordV≤most))) 5).need (el a C.wordV) 7):=by
   unfold bL
   (try simp only[bs,if_true,if_false,decide_true,decide_false,reduceIte])
   all_goals rfl
 rw[hs]
 exact⟨rfl,j,(u1 e (u1 i k im) im),hrr⟩
theorem jj{g:Nat}{C:ap}{w:World}{n:Int}(hC:ah w g C)(hn:0≤n∧n<65536) :
    Calls Tryz.prog 116 #[.pointer (some ⟨g,0,none⟩),.int .i64 n] w (fun e w'=>∃ v,e = .returned v∧mO w.heap.size w' v ((cM C n).wordsR n)∧ah w' g ((cM C n).wordsC n)∧ax [g] w w'):=by
 have hlen:=hC.len
 refine en 16 Tryz.func116 rfl<|sg<|Pl 1<|ng<|Pl 2<|L0<|Oc<|m3 (bE hC) fun l c a m=>L0<|Oi C.byteV<|Pl 1<|L0<|Oi (2*n)<|Pl 1<|L0<|Oc<|m2 (aU ((C.byteV==(2*n))) 5 c) fun o d b=>?_
 refine ng<|Pl 2<|L0<|Oc<|qO (dx (n:=n) d) fun f h p i q r j k=>Pl 1<|nt<|rt<|rr (.slice f ((((C.bytesC 1).need (C.byteV==(2*n)) 5).wordsR n).length) h)<|?_
 have hs:cM C n=((C.bytesC 1).need (C.byteV==(2*n)) 5):=by
   unfold cM
   (try simp only[bs,if_true,if_false,decide_true,decide_false,reduceIte])
   all_goals rfl
 rw[hs]
 exact⟨_,rfl,(aJ.weaken i (le a.size b.size)),j,(u1 a (u1 b k im) im)⟩
theorem gQ{most:Int}{g gm:Nat}{c:Int}{C:ap}{w:World}(hcode:B8 c)(hC:ah w g C)(hm:w.heap[gm]? = some (.cells (mC c) 31 (0,0)))(hne:g≠gm){bc:Nat}{bm:Nat}(hbc:w.heap[bc]? = some (.cells #[.pointer (some ⟨g,0,none⟩)] 143 (0,0)))(n_bc_g:bc≠g)(n_bc_gm:bc≠gm)(hbm:w.heap[bm]? = some (.cells #[.pointer (some ⟨gm,0,none⟩)] 145 (0,0)))(n_bm_g:bm≠g)(n_bm_gm:bm≠gm) :
    Calls Tryz.prog 109 #[.int .i64 most,.pointer (some ⟨bc,0,none⟩),.pointer (some ⟨bm,0,none⟩)] w (qy g gm (bL (C.wordsC 1) C.wordV most) (mG c 0 C.wordV (C.wordsC 1).wordV 0 0 0 0 0 0 0 0 nS nS nS nS 0 0 0 0 0 nS) w):=by
 obtain⟨hcode1,hcode2⟩:=hcode
 have hlen:=hC.len
 refine en 20 Tryz.func109 rfl<|sq<|Rg 6 (fun w'=>w'.cell? ⟨bm,0,none⟩=some (.pointer (some ⟨gm,0,none⟩))∧w'.cell? ⟨bc,0,none⟩=some (.pointer (some ⟨g,0,none⟩))) fun I d=>?_
 have m:=ub d hbm
 have n:=ub d hbc
 refine aZ ⟨(aa m rfl),(aa n rfl)⟩ fun o=>Rl 0 o (fun _ hs=>hs.1)<|Rl 1 o (fun _ hs=>hs.2)<|?_
 refine R0 2 rfl<|Oc<|m3 (bD (ah.old hC d)) fun J F i K=>?_
 have p:=aY i n_bm_g m
 have q:=aY i n_bc_g n
 refine aZ ⟨(aa p rfl),(aa q rfl)⟩ fun r=>Rt 3 r<|Rt 4 r<|?_
 have s:=uz d i
 have t:=aY s (Ne.symm hne) hm
 refine R0 5 rfl<|cn t 2 (mG c 0 C.wordV 0 0 0 0 0 0 0 0 0 nS nS nS nS 0 0 0 0 0 nS) fun L G j=>?_
 have u:=aY j n_bm_gm p
 have v:=aY j n_bc_gm q
 refine aZ ⟨(aa u rfl),(aa v rfl)⟩ fun M=>re<|tn<|Rg 12 (fun w'=>w'.cell? ⟨bm,0,none⟩=some (.pointer (some ⟨gm,0,none⟩))∧w'.cell? ⟨bc,0,none⟩=some (.pointer (some ⟨g,0,none⟩))∧w'.cell? ⟨gm,2,none⟩=some (.int .u16 C.wordV)) fun N e=>?_
 have x:=ub e u
 have y:=ub e v
 have z:=ub e G
 refine aZ ⟨(aa x rfl),(aa y rfl),(aa z rfl)⟩ fun b=>Rl 0 b (fun _ hs=>hs.1)<|Rl 1 b (fun _ hs=>hs.2.1)<|Rl 2 b (fun _ hs=>hs.1)<|Rt 3 b<|Rt 4 b<|Rl 5 b (fun _ hs=>hs.2.2)<|Rt 6 b<|?_
 have A:=aE j e
 refine R0 7 rfl<|Oc<|m3 (ld (a:=C.wordV) (most:=most) (ah.upd F A (ae hne ay) (ak (aL t (by decide)) aD)) (by omega)) fun O H f P=>?_
 have B:=aY f n_bm_g x
 have D:=aY f n_bc_g y
 have k:=aY f (Ne.symm hne) z
 refine aZ ⟨(aa B rfl),(aa D rfl),(aa k rfl)⟩ fun l=>Rr 8 l (.int .u16 ((C.wordsC 1).wordV)) (fun _ _=>cC (.int .u16 (IntKind.u16.wrap ((C.wordsC 1).wordV))) (by kernel_rfl) (congrArg (Value.int .u16) (oQ (by omega))))<|Rt 9 l<|Rt 10 l<|R0 11 rfl<|cn k 3 (mG c 0 C.wordV ((C.wordsC 1).wordV) 0 0 0 0 0 0 0 0 nS nS nS nS 0 0 0 0 0 nS) fun Q E h=>?_
 refine aZ ⟨(aa (aY h n_bm_gm B) rfl),(aa (aY h n_bc_gm D) rfl),(aa E rfl)⟩ fun R=>re<|rm (.tuple #[])<|?_
 exact⟨rfl,(ah.upd H h (ae hne ay) (ak (aL k (by decide)) aD)),E,(ui s (ui A (us f h)))⟩
theorem Bt{g gm:Nat}{c:Int}{C:ap}{w:World}(hcode:B8 c)(hC:ah w g C)(hm:w.heap[gm]? = some (.cells (mC c) 31 (0,0)))(hne:g≠gm){bc:Nat}{bm:Nat}{bw:Nat}(hbc:w.heap[bc]? = some (.cells #[.pointer (some ⟨g,0,none⟩)] 143 (0,0)))(n_bc_g:bc≠g)(n_bc_gm:bc≠gm)(hbm:w.heap[bm]? = some (.cells #[.pointer (some ⟨gm,0,none⟩)] 145 (0,0)))(n_bm_g:bm≠g)(n_bm_gm:bm≠gm)(hbw:w.heap[bw]? = some (.cells #[.func (.func 109) #[] #[.pointer (some ⟨bc,0,none⟩),.pointer (some ⟨bm,0,none⟩)]] 183 (0,0)))(n_bw_g:bw≠g)(n_bw_gm:bw≠gm) :
    Calls Tryz.prog 111 #[.pointer (some ⟨bw,0,none⟩)] w (bT g gm (d6 125 c C).1 (d6 125 c C).2 w):=by
 obtain⟨hcode1,hcode2⟩:=hcode
 have hlen:=hC.len
 refine en 3 Tryz.func111 rfl<|go<|L0<|aN hbw 0<|L0<|fb #[] #[.pointer (some ⟨bc,0,none⟩),.pointer (some ⟨bm,0,none⟩)] (args:=#[.int .i64 125,.pointer (some ⟨bc,0,none⟩),.pointer (some ⟨bm,0,none⟩)])<|m3 (gQ (most:=125) ⟨hcode1,hcode2⟩ hC hm hne hbc n_bc_g n_bc_gm hbm n_bm_g n_bm_gm) fun e a b d=>?_
 have f:=(hC).wordV
 have h:=dN (da (hC).rng 1)
 refine nl<|rm (.tuple #[])<|?_
 have hs:d6 125 c C=((bL (C.wordsC 1) C.wordV 125),(aV.mk c 0 C.wordV ((C.wordsC 1).wordV) 0 0 0 0 0 0 0 0 [] [] [] [] 0 0 0 0 0 [])):=by
   unfold d6
   (try simp only[bs,if_true,if_false,decide_true,decide_false,reduceIte])
   all_goals rfl
 rw[hs]
 exact⟨rfl,a,⟨_,⟨b,rfl⟩,⟨_,_,_,_,_,rfl,aO.nil ..,aO.nil ..,aO.nil ..,aO.nil ..,aO.nil ..,⟨(b8 (x:=c) (by omega)),(b8 (x:=0) (by omega)),(aK (x:=C.wordV) (by omega)),(aK (x:=(C.wordsC 1).wordV) (by omega)),(aK (x:=0) (by omega)),(aK (x:=0) (by omega)),(aK (x:=0) (by omega)),(aK (x:=0) (by omega)),(aK (x:=0) (by omega)),(aK (x:=0) (by omega)),(aK (x:=0) (by omega)),(aK (x:=0) (by omega)),(b8 (x:=0) (by omega)),(b8 (x:=0) (by omega)),(b8 (x:=0) (by omega)),(b8 (x:=0) (by omega)),(b8 (x:=0) (by omega))⟩⟩⟩,d⟩
theorem Bb{g gm:Nat}{c:Int}{C:ap}{w:World}(hcode:B8 c)(hC:ah w g C)(hm:w.heap[gm]? = some (.cells (mC c) 31 (0,0)))(hne:g≠gm){bc:Nat}{bm:Nat}(hbc:w.heap[bc]? = some (.cells #[.pointer (some ⟨g,0,none⟩)] 143 (0,0)))(n_bc_g:bc≠g)(n_bc_gm:bc≠gm)(hbm:w.heap[bm]? = some (.cells #[.pointer (some ⟨gm,0,none⟩)] 145 (0,0)))(n_bm_g:bm≠g)(n_bm_gm:bm≠gm) :
    Calls Tryz.prog 112 #[.pointer (some ⟨bc,0,none⟩),.pointer (some ⟨bm,0,none⟩)] w (bT g gm (dL c C).1 (dL c C).2 w):=by
 obtain⟨hcode1,hcode2⟩:=hcode
 have hlen:=hC.len
 refine en 26 Tryz.func112 rfl<|sg<|L0<|aN hbc 0<|L0<|Oc<|m3 (bE hC) fun N B k O=>L0<|Oi C.byteV<|Pl 1<|ng<|?_
 have l:=aY k n_bc_g hbc
 refine L0<|aN l 0<|Pl 1<|L0<|Oe (.int .i64 (Int.tmod C.byteV 2)) (.int .i64 (C.byteV%2)) (congrArg (Value.int .i64) (Int.tmod_eq_emod_of_nonneg (by omega)))<|Pl 2<|cu 3 [10] 13 ((((C.byteV%2)==0)&&(decide (2≤C.byteV)))) (fun K m=>?_) ?_
 refine bl 10 (((C.byteV%2)==0)) (fun a=>?_) (fun a=>?_)
 have D:=az a
 exact Pl 3<|ce m (decide (2≤C.byteV)) (by rw[a];rfl)
 have D:=aC a
 exact Pl 3<|ce m false (by rw[a];rfl)
 refine Pl 1<|cu 3 [14] 17 (((((C.byteV%2)==0)&&(decide (2≤C.byteV)))&&(decide (C.byteV≤250)))) (fun K o=>?_) ?_
 refine bl 14 ((((C.byteV%2)==0)&&(decide (2≤C.byteV)))) (fun b=>?_) (fun b=>?_)
 have E:=(bH b).1
 have F:=(bH b).2
 have P:=az E
 have Q:=of_decide_eq_true F
 exact Pl 3<|ce o (decide (C.byteV≤250)) (by rw[b];rfl)
 exact Pl 3<|ce o false (by rw[b];rfl)
 refine L0<|Oc<|m2 (aU (((((C.byteV%2)==0)&&(decide (2≤C.byteV)))&&(decide (C.byteV≤250)))) 5 B) fun R G H=>nt<|Rg 8 (fun w'=>w'.cell? ⟨bm,0,none⟩=some (.pointer (some ⟨gm,0,none⟩))∧w'.cell? ⟨bc,0,none⟩=some (.pointer (some ⟨g,0,none⟩))) fun S p=>?_
 have q:=aE H p
 have i:=u1 k q im
 have r:=aY i n_bm_g hbm
 have s:=aY q n_bc_g l
 refine aZ ⟨(aa r rfl),(aa s rfl)⟩ fun f=>Rl 0 f (fun _ hs=>hs.1)<|Rl 1 f (fun _ hs=>hs.2)<|Rt 2 f<|Rr 3 f (.int .i64 (C.byteV/2)) (fun _ _=>cC (.int .i64 (IntKind.i64.wrap (Int.tdiv C.byteV 2))) (by kernel_rfl) (congrArg (Value.int .i64) (qP (by omega) (by omega))))<|?_
 refine R0 4 rfl<|Oc<|qO (dx (n:=(C.byteV/2)) (ah.old G p)) fun I J T t U V L j=>?_
 have u:=aY j n_bm_g r
 have v:=aY j n_bc_g s
 refine aZ ⟨(aa u rfl),(aa v rfl)⟩ fun y=>Rt 5 y<|Rt 6 y<|?_
 have z:=u1 i j im
 have A:=aY z (Ne.symm hne) hm
 refine R0 7 rfl<|cn A 12 (mG c 0 0 0 0 0 0 0 0 0 0 0 (.slice I ((((C.bytesC 1).need ((((C.byteV%2)==0)&&(decide (2≤C.byteV)))&&(decide (C.byteV≤250))) 5).wordsR (C.byteV/2)).length) J) nS nS nS 0 0 0 0 0 nS) fun W M d=>?_
 refine aZ ⟨(aa (aY d n_bm_gm u) rfl),(aa (aY d n_bc_gm v) rfl)⟩ fun X=>re<|rm (.tuple #[])<|?_
 have hs:dL c C=((((C.bytesC 1).need ((((C.byteV%2)==0)&&(decide (2≤C.byteV)))&&(decide (C.byteV≤250))) 5).wordsC (C.byteV/2)),(aV.mk c 0 0 0 0 0 0 0 0 0 0 0 (((C.bytesC 1).need ((((C.byteV%2)==0)&&(decide (2≤C.byteV)))&&(decide (C.byteV≤250))) 5).wordsR (C.byteV/2)) [] [] [] 0 0 0 0 0 [])):=by
   unfold dL ug mL
   (try simp only[bs,if_true,if_false,decide_true,decide_false,reduceIte])
   all_goals rfl
 rw[hs]
 exact⟨rfl,(ah.upd L d (ae hne ay) (ak (aL A (by decide)) aD)),⟨_,⟨M,rfl⟩,⟨_,_,_,_,_,rfl,((aj t d (fun x hx=>(ae (fun e=>(aB (al hm) i.size t) (e▸hx)) ay)) (fun _ _ h=>h))).rd,aO.nil ..,aO.nil ..,aO.nil ..,aO.nil ..,⟨(b8 (x:=c) (by omega)),(b8 (x:=0) (by omega)),(aK (x:=0) (by omega)),(aK (x:=0) (by omega)),(aK (x:=0) (by omega)),(aK (x:=0) (by omega)),(aK (x:=0) (by omega)),(aK (x:=0) (by omega)),(aK (x:=0) (by omega)),(aK (x:=0) (by omega)),(aK (x:=0) (by omega)),(aK (x:=0) (by omega)),(b8 (x:=0) (by omega)),(b8 (x:=0) (by omega)),(b8 (x:=0) (by omega)),(b8 (x:=0) (by omega)),(b8 (x:=0) (by omega))⟩⟩⟩,(us z d)⟩
theorem Bm{g gm:Nat}{c:Int}{C:ap}{w:World}(hcode:B8 c)(hC:ah w g C)(hm:w.heap[gm]? = some (.cells (mC c) 31 (0,0)))(hne:g≠gm){bc:Nat}{bm:Nat}(hbc:w.heap[bc]? = some (.cells #[.pointer (some ⟨g,0,none⟩)] 143 (0,0)))(n_bc_g:bc≠g)(n_bc_gm:bc≠gm)(hbm:w.heap[bm]? = some (.cells #[.pointer (some ⟨gm,0,none⟩)] 145 (0,0)))(n_bm_g:bm≠g)(n_bm_gm:bm≠gm) :
    Calls Tryz.prog 114 #[.pointer (some ⟨bc,0,none⟩),.pointer (some ⟨bm,0,none⟩)] w (bT g gm (gz c C).1 (gz c C).2 w):=by
 obtain⟨hcode1,hcode2⟩:=hcode
 have hlen:=hC.len
 refine en 12 Tryz.func114 rfl<|Rg 12 (fun w'=>w'.cell? ⟨bm,0,none⟩=some (.pointer (some ⟨gm,0,none⟩))∧w'.cell? ⟨bc,0,none⟩=some (.pointer (some ⟨g,0,none⟩))) fun B a=>?_
 have i:=ub a hbm
 have j:=ub a hbc
 refine aZ ⟨(aa i rfl),(aa j rfl)⟩ fun b=>Rl 0 b (fun _ hs=>hs.1)<|Rl 1 b (fun _ hs=>hs.1)<|Rl 2 b (fun _ hs=>hs.2)<|Rl 4 b (fun _ hs=>hs.2)<|?_
 refine R0 3 rfl<|Oc<|m3 (bD (ah.old hC a)) fun D v d E=>?_
 have k:=aY d n_bm_g i
 have l:=aY d n_bc_g j
 refine aZ ⟨(aa k rfl),(aa l rfl)⟩ fun F=>R0 5 rfl<|Oc<|m3 (bD v) fun G y e H=>?_
 have m:=aY e n_bm_g k
 have n:=aY e n_bc_g l
 refine aZ ⟨(aa m rfl),(aa n rfl)⟩ fun o=>Rt 6 o<|Rt 7 o<|?_
 have p:=uz a (u1 d e im)
 have q:=aY p (Ne.symm hne) hm
 refine R0 8 rfl<|cn q 2 (mG c 0 C.wordV 0 0 0 0 0 0 0 0 0 nS nS nS nS 0 0 0 0 0 nS) fun I z f=>?_
 have r:=aY f n_bm_gm m
 have s:=aY f n_bc_gm n
 refine aZ ⟨(aa r rfl),(aa s rfl)⟩ fun t=>Rt 9 t<|Rt 10 t<|R0 11 rfl<|cn z 4 (mG c 0 C.wordV 0 ((C.wordsC 1).wordV) 0 0 0 0 0 0 0 nS nS nS nS 0 0 0 0 0 nS) fun J A h=>?_
 refine aZ ⟨(aa (aY h n_bm_gm r) rfl),(aa (aY h n_bc_gm s) rfl)⟩ fun K=>re<|rm (.tuple #[])<|?_
 have hs:gz c C=(((C.wordsC 1).wordsC 1),(aV.mk c 0 C.wordV 0 ((C.wordsC 1).wordV) 0 0 0 0 0 0 0 [] [] [] [] 0 0 0 0 0 [])):=by
   unfold gz
   (try simp only[bs,if_true,if_false,decide_true,decide_false,reduceIte])
   all_goals rfl
 rw[hs]
 have u:=u1 f h im
 exact⟨rfl,(ah.upd y u (ae hne ay) (ak (aL q (by decide)) aD)),⟨_,⟨A,rfl⟩,⟨_,_,_,_,_,rfl,aO.nil ..,aO.nil ..,aO.nil ..,aO.nil ..,aO.nil ..,⟨(b8 (x:=c) (by omega)),(b8 (x:=0) (by omega)),(aK (x:=C.wordV) (by omega)),(aK (x:=0) (by omega)),(aK (x:=(C.wordsC 1).wordV) (by omega)),(aK (x:=0) (by omega)),(aK (x:=0) (by omega)),(aK (x:=0) (by omega)),(aK (x:=0) (by omega)),(aK (x:=0) (by omega)),(aK (x:=0) (by omega)),(aK (x:=0) (by omega)),(b8 (x:=0) (by omega)),(b8 (x:=0) (by omega)),(b8 (x:=0) (by omega)),(b8 (x:=0) (by omega)),(b8 (x:=0) (by omega))⟩⟩⟩,(us p u)⟩
theorem Aq{ask:Bool}{g gm:Nat}{c:Int}{C:ap}{w:World}(hcode:B8 c)(hC:ah w g C)(hm:w.heap[gm]? = some (.cells (mC c) 31 (0,0)))(hne:g≠gm){bc:Nat}{bm:Nat}{bw:Nat}{ba:Nat}(hbc:w.heap[bc]? = some (.cells #[.pointer (some ⟨g,0,none⟩)] 143 (0,0)))(n_bc_g:bc≠g)(n_bc_gm:bc≠gm)(hbm:w.heap[bm]? = some (.cells #[.pointer (some ⟨gm,0,none⟩)] 145 (0,0)))(n_bm_g:bm≠g)(n_bm_gm:bm≠gm)(hbw:w.heap[bw]? = some (.cells #[.func (.func 109) #[] #[.pointer (some ⟨bc,0,none⟩),.pointer (some ⟨bm,0,none⟩)]] 183 (0,0)))(n_bw_g:bw≠g)(n_bw_gm:bw≠gm)(hba:w.heap[ba]? = some (.cells #[.bool ask] 4 (0,0)))(n_ba_g:ba≠g)(n_ba_gm:ba≠gm)(hask:ask=true) :
    Calls Tryz.prog 115 #[.pointer (some ⟨bw,0,none⟩),.pointer (some ⟨ba,0,none⟩),.pointer (some ⟨bc,0,none⟩),.pointer (some ⟨bm,0,none⟩)] w (bT g gm (gC c C).1 (gC c C).2 w):=by
 obtain⟨hcode1,hcode2⟩:=hcode
 have hlen:=hC.len
 refine en 17 Tryz.func115 rfl<|sg<|L0<|aN hbw 0<|L0<|fb #[] #[.pointer (some ⟨bc,0,none⟩),.pointer (some ⟨bm,0,none⟩)] (args:=#[.int .i64 123,.pointer (some ⟨bc,0,none⟩),.pointer (some ⟨bm,0,none⟩)])<|m3 (gQ (most:=123) ⟨hcode1,hcode2⟩ hC hm hne hbc n_bc_g n_bc_gm hbm n_bm_g n_bm_gm) fun B u v k=>?_
 have D:=(hC).wordV
 have E:=dN (da (hC).rng 1)
 refine ng<|?_
 refine L0<|aN (ax.blk k (ae n_ba_g (ae n_ba_gm ay)) hba) 0<|nt<|ct hask<|Rg 11 (fun w'=>w'.cell? ⟨bm,0,none⟩=some (.pointer (some ⟨gm,0,none⟩))∧w'.cell? ⟨bc,0,none⟩=some (.pointer (some ⟨g,0,none⟩))∧w'.cell? ⟨gm,3,none⟩=some (.int .u16 ((C.wordsC 1).wordV))) fun F i=>?_
 have d:=aE k i
 have l:=ax.blk d (ae n_bm_g (ae n_bm_gm ay)) hbm
 have m:=ax.blk d (ae n_bc_g (ae n_bc_gm ay)) hbc
 have o:=ub i v
 refine aZ ⟨(aa l rfl),(aa m rfl),(aa o rfl)⟩ fun a=>Rl 0 a (fun _ hs=>hs.1)<|Rl 1 a (fun _ hs=>hs.2.1)<|Rl 2 a (fun _ hs=>hs.1)<|Rt 3 a<|Rt 4 a<|Rl 5 a (fun _ hs=>hs.2.2)<|Rr 6 a (.int .i64 ((C.wordsC 1).wordV)) (fun _ _=>cC (.int .i64 (IntKind.i64.wrap ((C.wordsC 1).wordV))) (by kernel_rfl) (congrArg (Value.int .i64) (i64_in (by omega))))<|?_
 refine R0 7 rfl<|Oc<|qO (jj (n:=(C.wordsC 1).wordV) (ah.old u i) (by omega)) fun y z G p H I A f=>?_
 have q:=aY f n_bm_g l
 have r:=aY f n_bc_g m
 have j:=aY f (Ne.symm hne) o
 refine aZ ⟨(aa q rfl),(aa r rfl),(aa j rfl)⟩ fun s=>Rt 8 s<|Rt 9 s<|R0 10 rfl<|cn j 12 (mG c 0 C.wordV ((C.wordsC 1).wordV) 0 0 0 0 0 0 0 0 (.slice y (((cM (bL (C.wordsC 1) C.wordV 123) ((C.wordsC 1).wordV)).wordsR ((C.wordsC 1).wordV)).length) z) nS nS nS 0 0 0 0 0 nS) fun J t b=>?_
 refine aZ ⟨(aa (aY b n_bm_gm q) rfl),(aa (aY b n_bc_gm r) rfl),(aa t rfl)⟩ fun K=>re<|rm (.tuple #[])<|?_
 have hs:gC c C=(((cM (bL (C.wordsC 1) C.wordV 123) ((C.wordsC 1).wordV)).wordsC ((C.wordsC 1).wordV)),(aV.mk c 0 C.wordV ((C.wordsC 1).wordV) 0 0 0 0 0 0 0 0 ((cM (bL (C.wordsC 1) C.wordV 123) ((C.wordsC 1).wordV)).wordsR ((C.wordsC 1).wordV)) [] [] [] 0 0 0 0 0 [])):=by
   unfold gC pn
   (try simp only[hask,bs,if_true,if_false,decide_true,decide_false,reduceIte])
   all_goals rfl
 rw[hs]
 exact⟨rfl,(ah.upd A b (ae hne ay) (ak (aL j (by decide)) aD)),⟨_,⟨t,rfl⟩,⟨_,_,_,_,_,rfl,((aj p b (fun x hx=>(ae (fun e=>(aB (al hm) d.size p) (e▸hx)) ay)) (fun _ _ h=>h))).rd,aO.nil ..,aO.nil ..,aO.nil ..,aO.nil ..,⟨(b8 (x:=c) (by omega)),(b8 (x:=0) (by omega)),(aK (x:=C.wordV) (by omega)),(aK (x:=(C.wordsC 1).wordV) (by omega)),(aK (x:=0) (by omega)),(aK (x:=0) (by omega)),(aK (x:=0) (by omega)),(aK (x:=0) (by omega)),(aK (x:=0) (by omega)),(aK (x:=0) (by omega)),(aK (x:=0) (by omega)),(aK (x:=0) (by omega)),(b8 (x:=0) (by omega)),(b8 (x:=0) (by omega)),(b8 (x:=0) (by omega)),(b8 (x:=0) (by omega)),(b8 (x:=0) (by omega))⟩⟩⟩,(ut d (us f b) (ac im (ac im aq)))⟩
theorem AP{ask:Bool}{g gm:Nat}{c:Int}{C:ap}{w:World}(hcode:B8 c)(hC:ah w g C)(hm:w.heap[gm]? = some (.cells (mC c) 31 (0,0)))(hne:g≠gm){bc:Nat}{bm:Nat}{bw:Nat}{ba:Nat}(hbc:w.heap[bc]? = some (.cells #[.pointer (some ⟨g,0,none⟩)] 143 (0,0)))(n_bc_g:bc≠g)(n_bc_gm:bc≠gm)(hbm:w.heap[bm]? = some (.cells #[.pointer (some ⟨gm,0,none⟩)] 145 (0,0)))(n_bm_g:bm≠g)(n_bm_gm:bm≠gm)(hbw:w.heap[bw]? = some (.cells #[.func (.func 109) #[] #[.pointer (some ⟨bc,0,none⟩),.pointer (some ⟨bm,0,none⟩)]] 183 (0,0)))(n_bw_g:bw≠g)(n_bw_gm:bw≠gm)(hba:w.heap[ba]? = some (.cells #[.bool ask] 4 (0,0)))(n_ba_g:ba≠g)(n_ba_gm:ba≠gm)(hask:ask=false) :
    Calls Tryz.prog 115 #[.pointer (some ⟨bw,0,none⟩),.pointer (some ⟨ba,0,none⟩),.pointer (some ⟨bc,0,none⟩),.pointer (some ⟨bm,0,none⟩)] w (bT g gm (d6 123 c C).1 (d6 123 c C).2 w):=by
 obtain⟨hcode1,hcode2⟩:=hcode
 have hlen:=hC.len
 refine en 17 Tryz.func115 rfl<|sg<|L0<|aN hbw 0<|L0<|fb #[] #[.pointer (some ⟨bc,0,none⟩),.pointer (some ⟨bm,0,none⟩)] (args:=#[.int .i64 123,.pointer (some ⟨bc,0,none⟩),.pointer (some ⟨bm,0,none⟩)])<|m3 (gQ (most:=123) ⟨hcode1,hcode2⟩ hC hm hne hbc n_bc_g n_bc_gm hbm n_bm_g n_bm_gm) fun e b d a=>?_
 have f:=(hC).wordV
 have h:=dN (da (hC).rng 1)
 refine ng<|?_
 refine L0<|aN (ax.blk a (ae n_ba_g (ae n_ba_gm ay)) hba) 0<|nt<|cf hask<|sk<|rm (.tuple #[])<|?_
 have hs:d6 123 c C=((bL (C.wordsC 1) C.wordV 123),(aV.mk c 0 C.wordV ((C.wordsC 1).wordV) 0 0 0 0 0 0 0 0 [] [] [] [] 0 0 0 0 0 [])):=by
   unfold d6
   (try simp only[hask,bs,if_true,if_false,decide_true,decide_false,reduceIte])
   all_goals rfl
 rw[hs]
 exact⟨rfl,b,⟨_,⟨d,rfl⟩,⟨_,_,_,_,_,rfl,aO.nil ..,aO.nil ..,aO.nil ..,aO.nil ..,aO.nil ..,⟨(b8 (x:=c) (by omega)),(b8 (x:=0) (by omega)),(aK (x:=C.wordV) (by omega)),(aK (x:=(C.wordsC 1).wordV) (by omega)),(aK (x:=0) (by omega)),(aK (x:=0) (by omega)),(aK (x:=0) (by omega)),(aK (x:=0) (by omega)),(aK (x:=0) (by omega)),(aK (x:=0) (by omega)),(aK (x:=0) (by omega)),(aK (x:=0) (by omega)),(b8 (x:=0) (by omega)),(b8 (x:=0) (by omega)),(b8 (x:=0) (by omega)),(b8 (x:=0) (by omega)),(b8 (x:=0) (by omega))⟩⟩⟩,a⟩
theorem Bp{g gm:Nat}{c:Int}{C:ap}{w:World}(hcode:B8 c)(hC:ah w g C)(hm:w.heap[gm]? = some (.cells (mC c) 31 (0,0)))(hne:g≠gm){bc:Nat}{bm:Nat}(hbc:w.heap[bc]? = some (.cells #[.pointer (some ⟨g,0,none⟩)] 143 (0,0)))(n_bc_g:bc≠g)(n_bc_gm:bc≠gm)(hbm:w.heap[bm]? = some (.cells #[.pointer (some ⟨gm,0,none⟩)] 145 (0,0)))(n_bm_g:bm≠g)(n_bm_gm:bm≠gm) :
    Calls Tryz.prog 117 #[.pointer (some ⟨bc,0,none⟩),.pointer (some ⟨bm,0,none⟩)] w (bT g gm (eN c C).1 (eN c C).2 w):=by
 obtain⟨hcode1,hcode2⟩:=hcode
 have hlen:=hC.len
 refine en 17 Tryz.func117 rfl<|Rg 18 (fun w'=>w'.cell? ⟨bm,0,none⟩=some (.pointer (some ⟨gm,0,none⟩))∧w'.cell? ⟨bc,0,none⟩=some (.pointer (some ⟨g,0,none⟩))) fun L b=>?_
 have k:=ub b hbm
 have l:=ub b hbc
 refine aZ ⟨(aa k rfl),(aa l rfl)⟩ fun a=>Rl 0 a (fun _ hs=>hs.1)<|Rl 1 a (fun _ hs=>hs.1)<|Rl 2 a (fun _ hs=>hs.1)<|Rl 3 a (fun _ hs=>hs.2)<|Rl 5 a (fun _ hs=>hs.2)<|Rl 7 a (fun _ hs=>hs.2)<|?_
 refine R0 4 rfl<|Oc<|m3 (bD (ah.old hC b)) fun M F d N=>?_
 have m:=aY d n_bm_g k
 have n:=aY d n_bc_g l
 refine aZ ⟨(aa m rfl),(aa n rfl)⟩ fun O=>R0 6 rfl<|Oc<|m3 (bD F) fun P G e Q=>?_
 have o:=aY e n_bm_g m
 have p:=aY e n_bc_g n
 refine aZ ⟨(aa o rfl),(aa p rfl)⟩ fun R=>R0 8 rfl<|Oc<|m3 (bD G) fun S H f T=>?_
 have q:=aY f n_bm_g o
 have r:=aY f n_bc_g p
 refine aZ ⟨(aa q rfl),(aa r rfl)⟩ fun s=>Rt 9 s<|Rt 10 s<|?_
 have t:=uz b (u1 d (u1 e f im) im)
 have u:=aY t (Ne.symm hne) hm
 refine R0 11 rfl<|cn u 2 (mG c 0 C.wordV 0 0 0 0 0 0 0 0 0 nS nS nS nS 0 0 0 0 0 nS) fun U I h=>?_
 have v:=aY h n_bm_gm q
 have y:=aY h n_bc_gm r
 refine aZ ⟨(aa v rfl),(aa y rfl)⟩ fun z=>Rt 12 z<|Rt 13 z<|R0 14 rfl<|cn I 5 (mG c 0 C.wordV 0 0 ((C.wordsC 1).wordV) 0 0 0 0 0 0 nS nS nS nS 0 0 0 0 0 nS) fun V J i=>?_
 have A:=aY i n_bm_gm v
 have B:=aY i n_bc_gm y
 refine aZ ⟨(aa A rfl),(aa B rfl)⟩ fun D=>Rt 15 D<|Rt 16 D<|R0 17 rfl<|cn J 6 (mG c 0 C.wordV 0 0 ((C.wordsC 1).wordV) (((C.wordsC 1).wordsC 1).wordV) 0 0 0 0 0 nS nS nS nS 0 0 0 0 0 nS) fun W K j=>?_
 refine aZ ⟨(aa (aY j n_bm_gm A) rfl),(aa (aY j n_bc_gm B) rfl)⟩ fun X=>re<|rm (.tuple #[])<|?_
 have hs:eN c C=((((C.wordsC 1).wordsC 1).wordsC 1),(aV.mk c 0 C.wordV 0 0 ((C.wordsC 1).wordV) (((C.wordsC 1).wordsC 1).wordV) 0 0 0 0 0 [] [] [] [] 0 0 0 0 0 [])):=by
   unfold eN
   (try simp only[bs,if_true,if_false,decide_true,decide_false,reduceIte])
   all_goals rfl
 rw[hs]
 have E:=u1 h (u1 i j im) im
 exact⟨rfl,(ah.upd H E (ae hne ay) (ak (aL u (by decide)) aD)),⟨_,⟨K,rfl⟩,⟨_,_,_,_,_,rfl,aO.nil ..,aO.nil ..,aO.nil ..,aO.nil ..,aO.nil ..,⟨(b8 (x:=c) (by omega)),(b8 (x:=0) (by omega)),(aK (x:=C.wordV) (by omega)),(aK (x:=0) (by omega)),(aK (x:=0) (by omega)),(aK (x:=(C.wordsC 1).wordV) (by omega)),(aK (x:=((C.wordsC 1).wordsC 1).wordV) (by omega)),(aK (x:=0) (by omega)),(aK (x:=0) (by omega)),(aK (x:=0) (by omega)),(aK (x:=0) (by omega)),(aK (x:=0) (by omega)),(b8 (x:=0) (by omega)),(b8 (x:=0) (by omega)),(b8 (x:=0) (by omega)),(b8 (x:=0) (by omega)),(b8 (x:=0) (by omega))⟩⟩⟩,(us t E)⟩
theorem BD{g gm:Nat}{c:Int}{C:ap}{w:World}(hcode:B8 c)(hC:ah w g C)(hm:w.heap[gm]? = some (.cells (mC c) 31 (0,0)))(hne:g≠gm){bc:Nat}{bm:Nat}{bw:Nat}(hbc:w.heap[bc]? = some (.cells #[.pointer (some ⟨g,0,none⟩)] 143 (0,0)))(n_bc_g:bc≠g)(n_bc_gm:bc≠gm)(hbm:w.heap[bm]? = some (.cells #[.pointer (some ⟨gm,0,none⟩)] 145 (0,0)))(n_bm_g:bm≠g)(n_bm_gm:bm≠gm)(hbw:w.heap[bw]? = some (.cells #[.func (.func 109) #[] #[.pointer (some ⟨bc,0,none⟩),.pointer (some ⟨bm,0,none⟩)]] 183 (0,0)))(n_bw_g:bw≠g)(n_bw_gm:bw≠gm) :
    Calls Tryz.prog 118 #[.pointer (some ⟨bw,0,none⟩),.pointer (some ⟨bc,0,none⟩),.pointer (some ⟨bm,0,none⟩)] w (bT g gm (gF c C).1 (gF c C).2 w):=by
 obtain⟨hcode1,hcode2⟩:=hcode
 have hlen:=hC.len
 refine en 21 Tryz.func118 rfl<|sg<|L0<|aN hbw 0<|L0<|fb #[] #[.pointer (some ⟨bc,0,none⟩),.pointer (some ⟨bm,0,none⟩)] (args:=#[.int .i64 125,.pointer (some ⟨bc,0,none⟩),.pointer (some ⟨bm,0,none⟩)])<|m3 (gQ (most:=125) ⟨hcode1,hcode2⟩ hC hm hne hbc n_bc_g n_bc_gm hbm n_bm_g n_bm_gm) fun X P Q q=>?_
 have Y:=(hC).wordV
 have Z:=dN (da (hC).rng 1)
 refine nt<|sq<|Rg 6 (fun w'=>w'.cell? ⟨bm,0,none⟩=some (.pointer (some ⟨gm,0,none⟩))∧w'.cell? ⟨bc,0,none⟩=some (.pointer (some ⟨g,0,none⟩))) fun a0 k=>?_
 have o:=aE q k
 have r:=ax.blk o (ae n_bm_g (ae n_bm_gm ay)) hbm
 have s:=ax.blk o (ae n_bc_g (ae n_bc_gm ay)) hbc
 refine aZ ⟨(aa r rfl),(aa s rfl)⟩ fun t=>Rl 0 t (fun _ hs=>hs.1)<|Rl 1 t (fun _ hs=>hs.2)<|?_
 refine R0 2 rfl<|Oc<|m3 (bD (ah.old P k)) fun a1 R d a2=>?_
 have u:=aY d n_bm_g r
 have v:=aY d n_bc_g s
 refine aZ ⟨(aa u rfl),(aa v rfl)⟩ fun y=>Rt 3 y<|Rt 4 y<|?_
 have z:=aY (uz k d) (Ne.symm hne) Q
 refine R0 5 rfl<|cn z 7 (mG c 0 C.wordV ((C.wordsC 1).wordV) 0 0 0 ((bL (C.wordsC 1) C.wordV 125).wordV) 0 0 0 0 nS nS nS nS 0 0 0 0 0 nS) fun a3 S l=>?_
 have A:=aY l n_bm_gm u
 have B:=aY l n_bc_gm v
 refine aZ ⟨(aa A rfl),(aa B rfl)⟩ fun a4=>re<|tn<|Rg 12 (fun w'=>w'.cell? ⟨bm,0,none⟩=some (.pointer (some ⟨gm,0,none⟩))∧w'.cell? ⟨bc,0,none⟩=some (.pointer (some ⟨g,0,none⟩))∧w'.cell? ⟨gm,7,none⟩=some (.int .u16 ((bL (C.wordsC 1) C.wordV 125).wordV))) fun a5 f=>?_
 have D:=ub f A
 have E:=ub f B
 have F:=ub f S
 refine aZ ⟨(aa D rfl),(aa E rfl),(aa F rfl)⟩ fun b=>Rl 0 b (fun _ hs=>hs.1)<|Rl 1 b (fun _ hs=>hs.2.1)<|Rl 2 b (fun _ hs=>hs.2.1)<|Rl 3 b (fun _ hs=>hs.1)<|Rt 4 b<|Rt 5 b<|Rl 6 b (fun _ hs=>hs.2.2)<|?_
 have G:=aE l f
 refine R0 7 rfl<|Oc<|m3 (ld (a:=(bL (C.wordsC 1) C.wordV 125).wordV) (most:=121) (ah.upd R G (ae hne ay) (ak (aL z (by decide)) aD)) (by omega)) fun a6 T i a7=>?_
 have H:=aY i n_bm_g D
 have I:=aY i n_bc_g E
 have J:=aY i (Ne.symm hne) F
 refine aZ ⟨(aa H rfl),(aa I rfl),(aa J rfl)⟩ fun a8=>R0 8 rfl<|Oc<|qO (jj (n:=((bL (C.wordsC 1) C.wordV 125).wordsC 1).wordV) T (by omega)) fun U V a9 K ab ad W m=>?_
 have L:=aY m n_bm_g H
 have M:=aY m n_bc_g I
 have p:=aY m (Ne.symm hne) J
 refine aZ ⟨(aa L rfl),(aa M rfl),(aa p rfl)⟩ fun N=>Rt 9 N<|Rt 10 N<|R0 11 rfl<|cn p 12 (mG c 0 C.wordV ((C.wordsC 1).wordV) 0 0 0 ((bL (C.wordsC 1) C.wordV 125).wordV) 0 0 0 0 (.slice U (((cM (bL ((bL (C.wordsC 1) C.wordV 125).wordsC 1) ((bL (C.wordsC 1) C.wordV 125).wordV) 121) (((bL (C.wordsC 1) C.wordV 125).wordsC 1).wordV)).wordsR (((bL (C.wordsC 1) C.wordV 125).wordsC 1).wordV)).length) V) nS nS nS 0 0 0 0 0 nS) fun af O j=>?_
 refine aZ ⟨(aa (aY j n_bm_gm L) rfl),(aa (aY j n_bc_gm M) rfl),(aa O rfl)⟩ fun ag=>re<|rm (.tuple #[])<|?_
 have hs:gF c C=(((cM (bL ((bL (C.wordsC 1) C.wordV 125).wordsC 1) ((bL (C.wordsC 1) C.wordV 125).wordV) 121) (((bL (C.wordsC 1) C.wordV 125).wordsC 1).wordV)).wordsC (((bL (C.wordsC 1) C.wordV 125).wordsC 1).wordV)),(aV.mk c 0 C.wordV ((C.wordsC 1).wordV) 0 0 0 ((bL (C.wordsC 1) C.wordV 125).wordV) 0 0 0 0 ((cM (bL ((bL (C.wordsC 1) C.wordV 125).wordsC 1) ((bL (C.wordsC 1) C.wordV 125).wordV) 121) (((bL (C.wordsC 1) C.wordV 125).wordsC 1).wordV)).wordsR (((bL (C.wordsC 1) C.wordV 125).wordsC 1).wordV)) [] [] [] 0 0 0 0 0 [])):=by
   unfold gF p3 xM oJ
   (try simp only[bs,if_true,if_false,decide_true,decide_false,reduceIte])
   all_goals rfl
 rw[hs]
 exact⟨rfl,(ah.upd W j (ae hne ay) (ak (aL p (by decide)) aD)),⟨_,⟨O,rfl⟩,⟨_,_,_,_,_,rfl,((aj K j (fun x hx=>(ae (fun e=>(aB (al hm) (le (le (le (le (le q.size k.size) d.size) l.size) f.size) i.size) K) (e▸hx)) ay)) (fun _ _ h=>h))).rd,aO.nil ..,aO.nil ..,aO.nil ..,aO.nil ..,⟨(b8 (x:=c) (by omega)),(b8 (x:=0) (by omega)),(aK (x:=C.wordV) (by omega)),(aK (x:=(C.wordsC 1).wordV) (by omega)),(aK (x:=0) (by omega)),(aK (x:=0) (by omega)),(aK (x:=0) (by omega)),(aK (x:=(bL (C.wordsC 1) C.wordV 125).wordV) (by omega)),(aK (x:=0) (by omega)),(aK (x:=0) (by omega)),(aK (x:=0) (by omega)),(aK (x:=0) (by omega)),(b8 (x:=0) (by omega)),(b8 (x:=0) (by omega)),(b8 (x:=0) (by omega)),(b8 (x:=0) (by omega)),(b8 (x:=0) (by omega))⟩⟩⟩,(ut o (ui d (ui G (ui i (us m j)))) (ac im (ac im aq)))⟩
theorem BP{g gm:Nat}{c:Int}{C:ap}{w:World}(hcode:B8 c)(hC:ah w g C)(hm:w.heap[gm]? = some (.cells (mC c) 31 (0,0)))(hne:g≠gm){bc:Nat}{bm:Nat}(hbc:w.heap[bc]? = some (.cells #[.pointer (some ⟨g,0,none⟩)] 143 (0,0)))(n_bc_g:bc≠g)(n_bc_gm:bc≠gm)(hbm:w.heap[bm]? = some (.cells #[.pointer (some ⟨gm,0,none⟩)] 145 (0,0)))(n_bm_g:bm≠g)(n_bm_gm:bm≠gm) :
    Calls Tryz.prog 119 #[.pointer (some ⟨bc,0,none⟩),.pointer (some ⟨bm,0,none⟩)] w (bT g gm (gB c C).1 (gB c C).2 w):=by
 obtain⟨hcode1,hcode2⟩:=hcode
 have hlen:=hC.len
 refine en 7 Tryz.func119 rfl<|Rg 6 (fun w'=>w'.cell? ⟨bm,0,none⟩=some (.pointer (some ⟨gm,0,none⟩))∧w'.cell? ⟨bc,0,none⟩=some (.pointer (some ⟨g,0,none⟩))) fun p a=>?_
 have e:=ub a hbm
 have f:=ub a hbc
 refine aZ ⟨(aa e rfl),(aa f rfl)⟩ fun h=>Rl 0 h (fun _ hs=>hs.1)<|Rl 1 h (fun _ hs=>hs.2)<|?_
 refine R0 2 rfl<|Oc<|m3 (bD (ah.old hC a)) fun q n d r=>?_
 have i:=aY d n_bm_g e
 have j:=aY d n_bc_g f
 refine aZ ⟨(aa i rfl),(aa j rfl)⟩ fun k=>Rt 3 k<|Rt 4 k<|?_
 have l:=uz a d
 have m:=aY l (Ne.symm hne) hm
 refine R0 5 rfl<|cn m 2 (mG c 0 C.wordV 0 0 0 0 0 0 0 0 0 nS nS nS nS 0 0 0 0 0 nS) fun s o b=>?_
 refine aZ ⟨(aa (aY b n_bm_gm i) rfl),(aa (aY b n_bc_gm j) rfl)⟩ fun t=>re<|rm (.tuple #[])<|?_
 have hs:gB c C=((C.wordsC 1),(aV.mk c 0 C.wordV 0 0 0 0 0 0 0 0 0 [] [] [] [] 0 0 0 0 0 [])):=by
   unfold gB
   (try simp only[bs,if_true,if_false,decide_true,decide_false,reduceIte])
   all_goals rfl
 rw[hs]
 exact⟨rfl,(ah.upd n b (ae hne ay) (ak (aL m (by decide)) aD)),⟨_,⟨o,rfl⟩,⟨_,_,_,_,_,rfl,aO.nil ..,aO.nil ..,aO.nil ..,aO.nil ..,aO.nil ..,⟨(b8 (x:=c) (by omega)),(b8 (x:=0) (by omega)),(aK (x:=C.wordV) (by omega)),(aK (x:=0) (by omega)),(aK (x:=0) (by omega)),(aK (x:=0) (by omega)),(aK (x:=0) (by omega)),(aK (x:=0) (by omega)),(aK (x:=0) (by omega)),(aK (x:=0) (by omega)),(aK (x:=0) (by omega)),(aK (x:=0) (by omega)),(b8 (x:=0) (by omega)),(b8 (x:=0) (by omega)),(b8 (x:=0) (by omega)),(b8 (x:=0) (by omega)),(b8 (x:=0) (by omega))⟩⟩⟩,(us l b)⟩
theorem BQ{g gm:Nat}{c:Int}{C:ap}{w:World}(hcode:B8 c)(hC:ah w g C)(hm:w.heap[gm]? = some (.cells (mC c) 31 (0,0)))(hne:g≠gm){bc:Nat}{bm:Nat}(hbc:w.heap[bc]? = some (.cells #[.pointer (some ⟨g,0,none⟩)] 143 (0,0)))(n_bc_g:bc≠g)(n_bc_gm:bc≠gm)(hbm:w.heap[bm]? = some (.cells #[.pointer (some ⟨gm,0,none⟩)] 145 (0,0)))(n_bm_g:bm≠g)(n_bm_gm:bm≠gm) :
    Calls Tryz.prog 120 #[.pointer (some ⟨bc,0,none⟩),.pointer (some ⟨bm,0,none⟩)] w (bT g gm (xH c C).1 (xH c C).2 w):=by
 obtain⟨hcode1,hcode2⟩:=hcode
 have hlen:=hC.len
 refine en 36 Tryz.func120 rfl<|sg<|L0<|aN hbc 0<|L0<|Oc<|m3 (bD hC) fun T G k U=>L0<|Oi C.wordV<|Pl 1<|ng<|?_
 have l:=aY k n_bc_g hbc
 refine L0<|aN l 0<|Pl 1<|L0<|Oe (.int .i64 (Int.tmod C.wordV 2)) (.int .i64 (C.wordV%2)) (congrArg (Value.int .i64) (Int.tmod_eq_emod_of_nonneg (by omega)))<|Pl 2<|cu 3 [11] 14 ((((C.wordV%2)==0)&&(decide (2≤C.wordV)))) (fun K m=>?_) ?_
 refine bl 11 (((C.wordV%2)==0)) (fun a=>?_) (fun a=>?_)
 have H:=az a
 exact Pl 3<|ce m (decide (2≤C.wordV)) (by rw[a];rfl)
 have H:=aC a
 exact Pl 3<|ce m false (by rw[a];rfl)
 refine Pl 1<|cu 3 [15] 18 (((((C.wordV%2)==0)&&(decide (2≤C.wordV)))&&(decide (C.wordV≤64)))) (fun K o=>?_) ?_
 refine bl 15 ((((C.wordV%2)==0)&&(decide (2≤C.wordV)))) (fun b=>?_) (fun b=>?_)
 have I:=(bH b).1
 have J:=(bH b).2
 have V:=az I
 have W:=of_decide_eq_true J
 exact Pl 3<|ce o (decide (C.wordV≤64)) (by rw[b];rfl)
 exact Pl 3<|ce o false (by rw[b];rfl)
 refine L0<|Oc<|m2 (aU (((((C.wordV%2)==0)&&(decide (2≤C.wordV)))&&(decide (C.wordV≤64)))) 5 G) fun X L p=>ng<|?_
 have q:=aY p n_bc_g l
 refine L0<|aN q 0<|L0<|Oc<|m3 (bD L) fun Y M r Z=>L0<|Oi (((C.wordsC 1).need ((((C.wordV%2)==0)&&(decide (2≤C.wordV)))&&(decide (C.wordV≤64))) 5).wordV)<|Pl 1<|ng<|?_
 have s:=aY r n_bc_g q
 refine L0<|aN s 0<|Pl 1<|L0<|Oi (2*(((C.wordsC 1).need ((((C.wordV%2)==0)&&(decide (2≤C.wordV)))&&(decide (C.wordV≤64))) 5).wordV))<|L0<|Oi (2+(2*(((C.wordsC 1).need ((((C.wordV%2)==0)&&(decide (2≤C.wordV)))&&(decide (C.wordV≤64))) 5).wordV)))<|Pl 2<|L0<|Oc<|m2 (aU (((2+(2*(((C.wordsC 1).need ((((C.wordV%2)==0)&&(decide (2≤C.wordV)))&&(decide (C.wordV≤64))) 5).wordV)))==C.wordV)) 5 M) fun a0 N O=>nt<|Rg 7 (fun w'=>w'.cell? ⟨bm,0,none⟩=some (.pointer (some ⟨gm,0,none⟩))∧w'.cell? ⟨bc,0,none⟩=some (.pointer (some ⟨g,0,none⟩))) fun a1 t=>?_
 have u:=aE O t
 have f:=u1 k (u1 p (u1 r u im) im) im
 have v:=aY f n_bm_g hbm
 have y:=aY u n_bc_g s
 refine aZ ⟨(aa v rfl),(aa y rfl)⟩ fun i=>Rl 0 i (fun _ hs=>hs.1)<|Rl 1 i (fun _ hs=>hs.2)<|Rt 2 i<|?_
 refine R0 3 rfl<|Oc<|qO (dx (n:=((C.wordsC 1).need ((((C.wordV%2)==0)&&(decide (2≤C.wordV)))&&(decide (C.wordV≤64))) 5).wordV) (ah.old N t)) fun P Q a2 z a3 a4 R j=>?_
 have A:=aY j n_bm_g v
 have B:=aY j n_bc_g y
 refine aZ ⟨(aa A rfl),(aa B rfl)⟩ fun D=>Rt 4 D<|Rt 5 D<|?_
 have E:=u1 f j im
 have F:=aY E (Ne.symm hne) hm
 refine R0 6 rfl<|cn F 12 (mG c 0 0 0 0 0 0 0 0 0 0 0 (.slice P ((((((C.wordsC 1).need ((((C.wordV%2)==0)&&(decide (2≤C.wordV)))&&(decide (C.wordV≤64))) 5).wordsC 1).need ((2+(2*(((C.wordsC 1).need ((((C.wordV%2)==0)&&(decide (2≤C.wordV)))&&(decide (C.wordV≤64))) 5).wordV)))==C.wordV) 5).wordsR (((C.wordsC 1).need ((((C.wordV%2)==0)&&(decide (2≤C.wordV)))&&(decide (C.wordV≤64))) 5).wordV)).length) Q) nS nS nS 0 0 0 0 0 nS) fun a5 S d=>?_
 refine aZ ⟨(aa (aY d n_bm_gm A) rfl),(aa (aY d n_bc_gm B) rfl)⟩ fun a6=>re<|rm (.tuple #[])<|?_
 have hs:xH c C=((((((C.wordsC 1).need ((((C.wordV%2)==0)&&(decide (2≤C.wordV)))&&(decide (C.wordV≤64))) 5).wordsC 1).need ((2+(2*(((C.wordsC 1).need ((((C.wordV%2)==0)&&(decide (2≤C.wordV)))&&(decide (C.wordV≤64))) 5).wordV)))==C.wordV) 5).wordsC (((C.wordsC 1).need ((((C.wordV%2)==0)&&(decide (2≤C.wordV)))&&(decide (C.wordV≤64))) 5).wordV)),(aV.mk c 0 0 0 0 0 0 0 0 0 0 0 (((((C.wordsC 1).need ((((C.wordV%2)==0)&&(decide (2≤C.wordV)))&&(decide (C.wordV≤64))) 5).wordsC 1).need ((2+(2*(((C.wordsC 1).need ((((C.wordV%2)==0)&&(decide (2≤C.wordV)))&&(decide (C.wordV≤64))) 5).wordV)))==C.wordV) 5).wordsR (((C.wordsC 1).need ((((C.wordV%2)==0)&&(decide (2≤C.wordV)))&&(decide (C.wordV≤64))) 5).wordV)) [] [] [] 0 0 0 0 0 [])):=by
   unfold xH AS zx mL
   (try simp only[bs,if_true,if_false,decide_true,decide_false,reduceIte])
   all_goals rfl
 rw[hs]
 exact⟨rfl,(ah.upd R d (ae hne ay) (ak (aL F (by decide)) aD)),⟨_,⟨S,rfl⟩,⟨_,_,_,_,_,rfl,((aj z d (fun x hx=>(ae (fun e=>(aB (al hm) f.size z) (e▸hx)) ay)) (fun _ _ h=>h))).rd,aO.nil ..,aO.nil ..,aO.nil ..,aO.nil ..,⟨(b8 (x:=c) (by omega)),(b8 (x:=0) (by omega)),(aK (x:=0) (by omega)),(aK (x:=0) (by omega)),(aK (x:=0) (by omega)),(aK (x:=0) (by omega)),(aK (x:=0) (by omega)),(aK (x:=0) (by omega)),(aK (x:=0) (by omega)),(aK (x:=0) (by omega)),(aK (x:=0) (by omega)),(aK (x:=0) (by omega)),(b8 (x:=0) (by omega)),(b8 (x:=0) (by omega)),(b8 (x:=0) (by omega)),(b8 (x:=0) (by omega)),(b8 (x:=0) (by omega))⟩⟩⟩,(us E d)⟩
open Go.RowKit
theorem ti{g gm:Nat}{C:ap}{w:World}(hC:ah w g C)(hm:w.heap[gm]? = some (.cells (mC 3) 31 (0,0)))(hne:g≠gm) : Calls Tryz.prog 86 #[.int .i64 0,.pointer (some ⟨gm,0,none⟩),.pointer (some ⟨g,0,none⟩)] w (ib (fun W=>bT g gm (d6 125 3 C).1 (d6 125 3 C).2 W) w):=by
 refine en 67 Tryz.func86 rfl<|sg<|L0<|cz #[.pointer (some ⟨gm,0,none⟩)] fun n D f o a=>L0<|cz #[.pointer (some ⟨g,0,none⟩)] fun p E h q b=>Pl 1<|ng<|Pl 1<|L0<|bI #[.nilFunc] fun r F d s t=>L0<|cn s 0 #[.func (.func 109) #[] #[.pointer (some ⟨p,0,none⟩),.pointer (some ⟨n,0,none⟩)]] fun G u v=>nl<|?_
 refine tn<|sg<|Pl 2<|L0<|bI #[.bool false] fun H I x y z=>L0<|cn y 0 #[.bool true] fun J A B=>nt<|sq<|sg<|?_
 have i:=ud z B x
 have j:=ud t (aE v i) d
 have k:=aE b j
 have l:=ub k o
 refine L0<|aN l 0<|Pl 2<|?_
 have e:=aE a k
 have m:=ub e hm
 refine L0<|aN m 0<|Pl 1<|nt<|bk<|sg<|L0<|aN A 0<|Pl 9<|nt<|c1<|sg<|?_
 refine Pl 2<|nt<|rt<|br<|tr<|rr (.func (.func 111) #[] #[.pointer (some ⟨r,0,none⟩)])<|?_
 exact⟨_,_,rfl,by kernel_rfl,e,Bt (c:=3) ⟨by decide,by decide⟩ (ah.old hC e) m hne (ub j q) (Ne.symm (nb (ah.lt hC) a.size h)) (Ne.symm (nb (al hm) a.size h)) l (Ne.symm (nb (ah.lt hC) lr f)) (Ne.symm (nb (al hm) lr f)) (ub i u) (Ne.symm (nb (ah.lt hC) (le a.size b.size) d)) (Ne.symm (nb (al hm) (le a.size b.size) d))⟩
theorem sH{g gm:Nat}{C:ap}{w:World}(hC:ah w g C)(hm:w.heap[gm]? = some (.cells (mC 4) 31 (0,0)))(hne:g≠gm) : Calls Tryz.prog 86 #[.int .i64 0,.pointer (some ⟨gm,0,none⟩),.pointer (some ⟨g,0,none⟩)] w (ib (fun W=>bT g gm (d6 125 4 C).1 (d6 125 4 C).2 W) w):=by
 refine en 67 Tryz.func86 rfl<|sg<|L0<|cz #[.pointer (some ⟨gm,0,none⟩)] fun n D f o a=>L0<|cz #[.pointer (some ⟨g,0,none⟩)] fun p E h q b=>Pl 1<|ng<|Pl 1<|L0<|bI #[.nilFunc] fun r F d s t=>L0<|cn s 0 #[.func (.func 109) #[] #[.pointer (some ⟨p,0,none⟩),.pointer (some ⟨n,0,none⟩)]] fun G u v=>nl<|?_
 refine tn<|sg<|Pl 2<|L0<|bI #[.bool false] fun H I x y z=>L0<|cn y 0 #[.bool true] fun J A B=>nt<|sq<|sg<|?_
 have i:=ud z B x
 have j:=ud t (aE v i) d
 have k:=aE b j
 have l:=ub k o
 refine L0<|aN l 0<|Pl 2<|?_
 have e:=aE a k
 have m:=ub e hm
 refine L0<|aN m 0<|Pl 1<|nt<|bk<|sg<|L0<|aN A 0<|Pl 9<|nt<|c1<|sg<|?_
 refine Pl 2<|nt<|rt<|br<|tr<|rr (.func (.func 111) #[] #[.pointer (some ⟨r,0,none⟩)])<|?_
 exact⟨_,_,rfl,by kernel_rfl,e,Bt (c:=4) ⟨by decide,by decide⟩ (ah.old hC e) m hne (ub j q) (Ne.symm (nb (ah.lt hC) a.size h)) (Ne.symm (nb (al hm) a.size h)) l (Ne.symm (nb (ah.lt hC) lr f)) (Ne.symm (nb (al hm) lr f)) (ub i u) (Ne.symm (nb (ah.lt hC) (le a.size b.size) d)) (Ne.symm (nb (al hm) (le a.size b.size) d))⟩
theorem sE{g gm:Nat}{C:ap}{w:World}(hC:ah w g C)(hm:w.heap[gm]? = some (.cells (mC 3) 31 (0,0)))(hne:g≠gm) : Calls Tryz.prog 86 #[.int .i64 1,.pointer (some ⟨gm,0,none⟩),.pointer (some ⟨g,0,none⟩)] w (ib (fun W=>bT g gm (dL 3 C).1 (dL 3 C).2 W) w):=by
 refine en 67 Tryz.func86 rfl<|sg<|L0<|cz #[.pointer (some ⟨gm,0,none⟩)] fun d z e m a=>L0<|cz #[.pointer (some ⟨g,0,none⟩)] fun f A h n o=>Pl 1<|ng<|Pl 1<|L0<|bI #[.nilFunc] fun B D p q r=>L0<|cn q 0 #[.func (.func 109) #[] #[.pointer (some ⟨f,0,none⟩),.pointer (some ⟨d,0,none⟩)]] fun E F s=>nl<|?_
 refine tn<|sg<|Pl 2<|L0<|bI #[.bool false] fun G H t u v=>L0<|cn u 0 #[.bool false] fun I x y=>nt<|sq<|sg<|?_
 have i:=ud r (aE s (ud v y t)) p
 have j:=aE o i
 have k:=ub j m
 refine L0<|aN k 0<|Pl 2<|?_
 have b:=aE a j
 have l:=ub b hm
 refine L0<|aN l 0<|Pl 1<|nt<|bk<|sg<|L0<|aN x 0<|Pl 9<|nt<|c0<|sq<|sq<|?_
 refine go<|Pl 3<|nt<|c1<|bG<|c1<|sg<|Pl 2<|nt<|rt<|?_
 refine br<|tr<|rr (.func (.func 112) #[] #[.pointer (some ⟨f,0,none⟩),.pointer (some ⟨d,0,none⟩)])<|?_
 exact⟨_,_,rfl,by kernel_rfl,b,Bb (c:=3) ⟨by decide,by decide⟩ (ah.old hC b) l hne (ub i n) (Ne.symm (nb (ah.lt hC) a.size h)) (Ne.symm (nb (al hm) a.size h)) k (Ne.symm (nb (ah.lt hC) lr e)) (Ne.symm (nb (al hm) lr e))⟩
theorem rG{g gm:Nat}{C:ap}{w:World}(hC:ah w g C)(hm:w.heap[gm]? = some (.cells (mC 4) 31 (0,0)))(hne:g≠gm) : Calls Tryz.prog 86 #[.int .i64 1,.pointer (some ⟨gm,0,none⟩),.pointer (some ⟨g,0,none⟩)] w (ib (fun W=>bT g gm (dL 4 C).1 (dL 4 C).2 W) w):=by
 refine en 67 Tryz.func86 rfl<|sg<|L0<|cz #[.pointer (some ⟨gm,0,none⟩)] fun d z e m a=>L0<|cz #[.pointer (some ⟨g,0,none⟩)] fun f A h n o=>Pl 1<|ng<|Pl 1<|L0<|bI #[.nilFunc] fun B D p q r=>L0<|cn q 0 #[.func (.func 109) #[] #[.pointer (some ⟨f,0,none⟩),.pointer (some ⟨d,0,none⟩)]] fun E F s=>nl<|?_
 refine tn<|sg<|Pl 2<|L0<|bI #[.bool false] fun G H t u v=>L0<|cn u 0 #[.bool false] fun I x y=>nt<|sq<|sg<|?_
 have i:=ud r (aE s (ud v y t)) p
 have j:=aE o i
 have k:=ub j m
 refine L0<|aN k 0<|Pl 2<|?_
 have b:=aE a j
 have l:=ub b hm
 refine L0<|aN l 0<|Pl 1<|nt<|bk<|sg<|L0<|aN x 0<|Pl 9<|nt<|c0<|sq<|sq<|?_
 refine go<|Pl 3<|nt<|c0<|sg<|Pl 3<|nt<|c1<|bG<|c1<|?_
 refine sg<|Pl 2<|nt<|rt<|br<|tr<|rr (.func (.func 112) #[] #[.pointer (some ⟨f,0,none⟩),.pointer (some ⟨d,0,none⟩)])<|?_
 exact⟨_,_,rfl,by kernel_rfl,b,Bb (c:=4) ⟨by decide,by decide⟩ (ah.old hC b) l hne (ub i n) (Ne.symm (nb (ah.lt hC) a.size h)) (Ne.symm (nb (al hm) a.size h)) k (Ne.symm (nb (ah.lt hC) lr e)) (Ne.symm (nb (al hm) lr e))⟩
theorem se{g gm:Nat}{C:ap}{w:World}(hC:ah w g C)(hm:w.heap[gm]? = some (.cells (mC 6) 31 (0,0)))(hne:g≠gm) : Calls Tryz.prog 86 #[.int .i64 0,.pointer (some ⟨gm,0,none⟩),.pointer (some ⟨g,0,none⟩)] w (ib (fun W=>bT g gm (gz 6 C).1 (gz 6 C).2 W) w):=by
 refine en 67 Tryz.func86 rfl<|sg<|L0<|cz #[.pointer (some ⟨gm,0,none⟩)] fun d z e m a=>L0<|cz #[.pointer (some ⟨g,0,none⟩)] fun f A h n o=>Pl 1<|ng<|Pl 1<|L0<|bI #[.nilFunc] fun B D p q r=>L0<|cn q 0 #[.func (.func 109) #[] #[.pointer (some ⟨f,0,none⟩),.pointer (some ⟨d,0,none⟩)]] fun E F s=>nl<|?_
 refine tn<|sg<|Pl 2<|L0<|bI #[.bool false] fun G H t u v=>L0<|cn u 0 #[.bool true] fun I x y=>nt<|sq<|sg<|?_
 have i:=ud r (aE s (ud v y t)) p
 have j:=aE o i
 have k:=ub j m
 refine L0<|aN k 0<|Pl 2<|?_
 have b:=aE a j
 have l:=ub b hm
 refine L0<|aN l 0<|Pl 1<|nt<|bk<|sg<|L0<|aN x 0<|Pl 9<|nt<|c0<|sq<|sq<|?_
 refine go<|Pl 3<|nt<|c0<|sg<|Pl 3<|nt<|c0<|go<|Pl 7<|nl<|?_
 refine tn<|c0<|sg<|Pl 3<|nt<|c1<|sg<|Pl 2<|nt<|rt<|?_
 refine br<|tr<|rr (.func (.func 114) #[] #[.pointer (some ⟨f,0,none⟩),.pointer (some ⟨d,0,none⟩)])<|?_
 exact⟨_,_,rfl,by kernel_rfl,b,Bm (c:=6) ⟨by decide,by decide⟩ (ah.old hC b) l hne (ub i n) (Ne.symm (nb (ah.lt hC) a.size h)) (Ne.symm (nb (al hm) a.size h)) k (Ne.symm (nb (ah.lt hC) lr e)) (Ne.symm (nb (al hm) lr e))⟩
theorem tg{g gm:Nat}{C:ap}{w:World}(hC:ah w g C)(hm:w.heap[gm]? = some (.cells (mC 6) 31 (0,0)))(hne:g≠gm) : Calls Tryz.prog 86 #[.int .i64 1,.pointer (some ⟨gm,0,none⟩),.pointer (some ⟨g,0,none⟩)] w (ib (fun W=>bT g gm (gz 6 C).1 (gz 6 C).2 W) w):=by
 refine en 67 Tryz.func86 rfl<|sg<|L0<|cz #[.pointer (some ⟨gm,0,none⟩)] fun d z e m a=>L0<|cz #[.pointer (some ⟨g,0,none⟩)] fun f A h n o=>Pl 1<|ng<|Pl 1<|L0<|bI #[.nilFunc] fun B D p q r=>L0<|cn q 0 #[.func (.func 109) #[] #[.pointer (some ⟨f,0,none⟩),.pointer (some ⟨d,0,none⟩)]] fun E F s=>nl<|?_
 refine tn<|sg<|Pl 2<|L0<|bI #[.bool false] fun G H t u v=>L0<|cn u 0 #[.bool false] fun I x y=>nt<|sq<|sg<|?_
 have i:=ud r (aE s (ud v y t)) p
 have j:=aE o i
 have k:=ub j m
 refine L0<|aN k 0<|Pl 2<|?_
 have b:=aE a j
 have l:=ub b hm
 refine L0<|aN l 0<|Pl 1<|nt<|bk<|sg<|L0<|aN x 0<|Pl 9<|nt<|c0<|sq<|sq<|?_
 refine go<|Pl 3<|nt<|c0<|sg<|Pl 3<|nt<|c0<|go<|Pl 7<|nl<|?_
 refine tn<|c0<|sg<|Pl 3<|nt<|c1<|sg<|Pl 2<|nt<|rt<|?_
 refine br<|tr<|rr (.func (.func 114) #[] #[.pointer (some ⟨f,0,none⟩),.pointer (some ⟨d,0,none⟩)])<|?_
 exact⟨_,_,rfl,by kernel_rfl,b,Bm (c:=6) ⟨by decide,by decide⟩ (ah.old hC b) l hne (ub i n) (Ne.symm (nb (ah.lt hC) a.size h)) (Ne.symm (nb (al hm) a.size h)) k (Ne.symm (nb (ah.lt hC) lr e)) (Ne.symm (nb (al hm) lr e))⟩
theorem pj{g gm:Nat}{C:ap}{w:World}(hC:ah w g C)(hm:w.heap[gm]? = some (.cells (mC 16) 31 (0,0)))(hne:g≠gm) : Calls Tryz.prog 86 #[.int .i64 0,.pointer (some ⟨gm,0,none⟩),.pointer (some ⟨g,0,none⟩)] w (ib (fun W=>bT g gm (gC 16 C).1 (gC 16 C).2 W) w):=by
 refine en 67 Tryz.func86 rfl<|sg<|L0<|cz #[.pointer (some ⟨gm,0,none⟩)] fun j E k t a=>L0<|cz #[.pointer (some ⟨g,0,none⟩)] fun l F m u b=>Pl 1<|ng<|Pl 1<|L0<|bI #[.nilFunc] fun v G d x e=>L0<|cn x 0 #[.func (.func 109) #[] #[.pointer (some ⟨l,0,none⟩),.pointer (some ⟨j,0,none⟩)]] fun H y f=>nl<|?_
 refine tn<|sg<|Pl 2<|L0<|bI #[.bool false] fun z I h A B=>L0<|cn A 0 #[.bool true] fun J n D=>nt<|sq<|sg<|?_
 have o:=ud B D h
 have p:=ud e (aE f o) d
 have q:=aE b p
 have r:=ub q t
 refine L0<|aN r 0<|Pl 2<|?_
 have i:=aE a q
 have s:=ub i hm
 refine L0<|aN s 0<|Pl 1<|nt<|bk<|sg<|L0<|aN n 0<|Pl 9<|nt<|c0<|sq<|sq<|?_
 refine go<|Pl 3<|nt<|c0<|sg<|Pl 3<|nt<|c0<|go<|Pl 7<|nl<|?_
 refine tn<|c0<|sg<|Pl 3<|nt<|c0<|sg<|Pl 3<|nt<|c1<|?_
 refine sg<|Pl 2<|nt<|rt<|br<|tr<|rr (.func (.func 115) #[] #[.pointer (some ⟨v,0,none⟩),.pointer (some ⟨z,0,none⟩),.pointer (some ⟨l,0,none⟩),.pointer (some ⟨j,0,none⟩)])<|?_
 exact⟨_,_,rfl,by kernel_rfl,i,Aq (c:=16) ⟨by decide,by decide⟩ (ah.old hC i) s hne (ub p u) (Ne.symm (nb (ah.lt hC) a.size m)) (Ne.symm (nb (al hm) a.size m)) r (Ne.symm (nb (ah.lt hC) lr k)) (Ne.symm (nb (al hm) lr k)) (ub o y) (Ne.symm (nb (ah.lt hC) (le a.size b.size) d)) (Ne.symm (nb (al hm) (le a.size b.size) d)) n (Ne.symm (nb (ah.lt hC) (le (le (le a.size b.size) e.size) f.size) h)) (Ne.symm (nb (al hm) (le (le (le a.size b.size) e.size) f.size) h)) rfl⟩
theorem qs{g gm:Nat}{C:ap}{w:World}(hC:ah w g C)(hm:w.heap[gm]? = some (.cells (mC 16) 31 (0,0)))(hne:g≠gm) : Calls Tryz.prog 86 #[.int .i64 1,.pointer (some ⟨gm,0,none⟩),.pointer (some ⟨g,0,none⟩)] w (ib (fun W=>bT g gm (d6 123 16 C).1 (d6 123 16 C).2 W) w):=by
 refine en 67 Tryz.func86 rfl<|sg<|L0<|cz #[.pointer (some ⟨gm,0,none⟩)] fun j E k t a=>L0<|cz #[.pointer (some ⟨g,0,none⟩)] fun l F m u b=>Pl 1<|ng<|Pl 1<|L0<|bI #[.nilFunc] fun v G d x e=>L0<|cn x 0 #[.func (.func 109) #[] #[.pointer (some ⟨l,0,none⟩),.pointer (some ⟨j,0,none⟩)]] fun H y f=>nl<|?_
 refine tn<|sg<|Pl 2<|L0<|bI #[.bool false] fun z I h A B=>L0<|cn A 0 #[.bool false] fun J n D=>nt<|sq<|sg<|?_
 have o:=ud B D h
 have p:=ud e (aE f o) d
 have q:=aE b p
 have r:=ub q t
 refine L0<|aN r 0<|Pl 2<|?_
 have i:=aE a q
 have s:=ub i hm
 refine L0<|aN s 0<|Pl 1<|nt<|bk<|sg<|L0<|aN n 0<|Pl 9<|nt<|c0<|sq<|sq<|?_
 refine go<|Pl 3<|nt<|c0<|sg<|Pl 3<|nt<|c0<|go<|Pl 7<|nl<|?_
 refine tn<|c0<|sg<|Pl 3<|nt<|c0<|sg<|Pl 3<|nt<|c1<|?_
 refine sg<|Pl 2<|nt<|rt<|br<|tr<|rr (.func (.func 115) #[] #[.pointer (some ⟨v,0,none⟩),.pointer (some ⟨z,0,none⟩),.pointer (some ⟨l,0,none⟩),.pointer (some ⟨j,0,none⟩)])<|?_
 exact⟨_,_,rfl,by kernel_rfl,i,AP (c:=16) ⟨by decide,by decide⟩ (ah.old hC i) s hne (ub p u) (Ne.symm (nb (ah.lt hC) a.size m)) (Ne.symm (nb (al hm) a.size m)) r (Ne.symm (nb (ah.lt hC) lr k)) (Ne.symm (nb (al hm) lr k)) (ub o y) (Ne.symm (nb (ah.lt hC) (le a.size b.size) d)) (Ne.symm (nb (al hm) (le a.size b.size) d)) n (Ne.symm (nb (ah.lt hC) (le (le (le a.size b.size) e.size) f.size) h)) (Ne.symm (nb (al hm) (le (le (le a.size b.size) e.size) f.size) h)) rfl⟩
theorem oR{g gm:Nat}{C:ap}{w:World}(hC:ah w g C)(hm:w.heap[gm]? = some (.cells (mC 22) 31 (0,0)))(hne:g≠gm) : Calls Tryz.prog 86 #[.int .i64 0,.pointer (some ⟨gm,0,none⟩),.pointer (some ⟨g,0,none⟩)] w (ib (fun W=>bT g gm (eN 22 C).1 (eN 22 C).2 W) w):=by
 refine en 67 Tryz.func86 rfl<|sg<|L0<|cz #[.pointer (some ⟨gm,0,none⟩)] fun d z e m a=>L0<|cz #[.pointer (some ⟨g,0,none⟩)] fun f A h n o=>Pl 1<|ng<|Pl 1<|L0<|bI #[.nilFunc] fun B D p q r=>L0<|cn q 0 #[.func (.func 109) #[] #[.pointer (some ⟨f,0,none⟩),.pointer (some ⟨d,0,none⟩)]] fun E F s=>nl<|?_
 refine tn<|sg<|Pl 2<|L0<|bI #[.bool false] fun G H t u v=>L0<|cn u 0 #[.bool true] fun I x y=>nt<|sq<|sg<|?_
 have i:=ud r (aE s (ud v y t)) p
 have j:=aE o i
 have k:=ub j m
 refine L0<|aN k 0<|Pl 2<|?_
 have b:=aE a j
 have l:=ub b hm
 refine L0<|aN l 0<|Pl 1<|nt<|bk<|sg<|L0<|aN x 0<|Pl 9<|nt<|c0<|sq<|sq<|?_
 refine go<|Pl 3<|nt<|c0<|sg<|Pl 3<|nt<|c0<|go<|Pl 7<|nl<|?_
 refine tn<|c0<|sg<|Pl 3<|nt<|c0<|sg<|Pl 3<|nt<|c0<|?_
 refine sg<|Pl 3<|nt<|c1<|sg<|Pl 2<|nt<|rt<|br<|tr<|?_
 refine rr (.func (.func 117) #[] #[.pointer (some ⟨f,0,none⟩),.pointer (some ⟨d,0,none⟩)])<|?_
 exact⟨_,_,rfl,by kernel_rfl,b,Bp (c:=22) ⟨by decide,by decide⟩ (ah.old hC b) l hne (ub i n) (Ne.symm (nb (ah.lt hC) a.size h)) (Ne.symm (nb (al hm) a.size h)) k (Ne.symm (nb (ah.lt hC) lr e)) (Ne.symm (nb (al hm) lr e))⟩
theorem pP{g gm:Nat}{C:ap}{w:World}(hC:ah w g C)(hm:w.heap[gm]? = some (.cells (mC 22) 31 (0,0)))(hne:g≠gm) : Calls Tryz.prog 86 #[.int .i64 1,.pointer (some ⟨gm,0,none⟩),.pointer (some ⟨g,0,none⟩)] w (ib (fun W=>bT g gm (eN 22 C).1 (eN 22 C).2 W) w):=by
 refine en 67 Tryz.func86 rfl<|sg<|L0<|cz #[.pointer (some ⟨gm,0,none⟩)] fun d z e m a=>L0<|cz #[.pointer (some ⟨g,0,none⟩)] fun f A h n o=>Pl 1<|ng<|Pl 1<|L0<|bI #[.nilFunc] fun B D p q r=>L0<|cn q 0 #[.func (.func 109) #[] #[.pointer (some ⟨f,0,none⟩),.pointer (some ⟨d,0,none⟩)]] fun E F s=>nl<|?_
 refine tn<|sg<|Pl 2<|L0<|bI #[.bool false] fun G H t u v=>L0<|cn u 0 #[.bool false] fun I x y=>nt<|sq<|sg<|?_
 have i:=ud r (aE s (ud v y t)) p
 have j:=aE o i
 have k:=ub j m
 refine L0<|aN k 0<|Pl 2<|?_
 have b:=aE a j
 have l:=ub b hm
 refine L0<|aN l 0<|Pl 1<|nt<|bk<|sg<|L0<|aN x 0<|Pl 9<|nt<|c0<|sq<|sq<|?_
 refine go<|Pl 3<|nt<|c0<|sg<|Pl 3<|nt<|c0<|go<|Pl 7<|nl<|?_
 refine tn<|c0<|sg<|Pl 3<|nt<|c0<|sg<|Pl 3<|nt<|c0<|?_
 refine sg<|Pl 3<|nt<|c1<|sg<|Pl 2<|nt<|rt<|br<|tr<|?_
 refine rr (.func (.func 117) #[] #[.pointer (some ⟨f,0,none⟩),.pointer (some ⟨d,0,none⟩)])<|?_
 exact⟨_,_,rfl,by kernel_rfl,b,Bp (c:=22) ⟨by decide,by decide⟩ (ah.old hC b) l hne (ub i n) (Ne.symm (nb (ah.lt hC) a.size h)) (Ne.symm (nb (al hm) a.size h)) k (Ne.symm (nb (ah.lt hC) lr e)) (Ne.symm (nb (al hm) lr e))⟩
theorem pq{g gm:Nat}{C:ap}{w:World}(hC:ah w g C)(hm:w.heap[gm]? = some (.cells (mC 23) 31 (0,0)))(hne:g≠gm) : Calls Tryz.prog 86 #[.int .i64 0,.pointer (some ⟨gm,0,none⟩),.pointer (some ⟨g,0,none⟩)] w (ib (fun W=>bT g gm (gF 23 C).1 (gF 23 C).2 W) w):=by
 refine en 67 Tryz.func86 rfl<|sg<|L0<|cz #[.pointer (some ⟨gm,0,none⟩)] fun f D h q a=>L0<|cz #[.pointer (some ⟨g,0,none⟩)] fun i E j r b=>Pl 1<|ng<|Pl 1<|L0<|bI #[.nilFunc] fun s F d t u=>L0<|cn t 0 #[.func (.func 109) #[] #[.pointer (some ⟨i,0,none⟩),.pointer (some ⟨f,0,none⟩)]] fun G v x=>nl<|?_
 refine tn<|sg<|Pl 2<|L0<|bI #[.bool false] fun H I y z A=>L0<|cn z 0 #[.bool true] fun J k B=>nt<|sq<|sg<|?_
 have l:=ud A B y
 have m:=ud u (aE x l) d
 have n:=aE b m
 have o:=ub n q
 refine L0<|aN o 0<|Pl 2<|?_
 have e:=aE a n
 have p:=ub e hm
 refine L0<|aN p 0<|Pl 1<|nt<|bk<|sg<|L0<|aN k 0<|Pl 9<|nt<|c0<|sq<|sq<|?_
 refine go<|Pl 3<|nt<|c0<|sg<|Pl 3<|nt<|c0<|go<|Pl 3<|L1<|aN k 0<|?_
 refine Pl 3<|nt<|c0<|sg<|Pl 3<|nt<|c0<|sg<|Pl 3<|nl<|?_
 refine tn<|c0<|sg<|Pl 3<|nt<|c0<|sg<|Pl 3<|nt<|c1<|?_
 refine sg<|Pl 2<|nt<|rt<|br<|tr<|rr (.func (.func 118) #[] #[.pointer (some ⟨s,0,none⟩),.pointer (some ⟨i,0,none⟩),.pointer (some ⟨f,0,none⟩)])<|?_
 exact⟨_,_,rfl,by kernel_rfl,e,BD (c:=23) ⟨by decide,by decide⟩ (ah.old hC e) p hne (ub m r) (Ne.symm (nb (ah.lt hC) a.size j)) (Ne.symm (nb (al hm) a.size j)) o (Ne.symm (nb (ah.lt hC) lr h)) (Ne.symm (nb (al hm) lr h)) (ub l v) (Ne.symm (nb (ah.lt hC) (le a.size b.size) d)) (Ne.symm (nb (al hm) (le a.size b.size) d))⟩
theorem qe{g gm:Nat}{C:ap}{w:World}(hC:ah w g C)(hm:w.heap[gm]? = some (.cells (mC 23) 31 (0,0)))(hne:g≠gm) : Calls Tryz.prog 86 #[.int .i64 1,.pointer (some ⟨gm,0,none⟩),.pointer (some ⟨g,0,none⟩)] w (ib (fun W=>bT g gm (dL 23 C).1 (dL 23 C).2 W) w):=by
 refine en 67 Tryz.func86 rfl<|sg<|L0<|cz #[.pointer (some ⟨gm,0,none⟩)] fun d z e n a=>L0<|cz #[.pointer (some ⟨g,0,none⟩)] fun f A h o p=>Pl 1<|ng<|Pl 1<|L0<|bI #[.nilFunc] fun B D q r s=>L0<|cn r 0 #[.func (.func 109) #[] #[.pointer (some ⟨f,0,none⟩),.pointer (some ⟨d,0,none⟩)]] fun E F t=>nl<|?_
 refine tn<|sg<|Pl 2<|L0<|bI #[.bool false] fun G H u v x=>L0<|cn v 0 #[.bool false] fun I i y=>nt<|sq<|sg<|?_
 have j:=ud s (aE t (ud x y u)) q
 have k:=aE p j
 have l:=ub k n
 refine L0<|aN l 0<|Pl 2<|?_
 have b:=aE a k
 have m:=ub b hm
 refine L0<|aN m 0<|Pl 1<|nt<|bk<|sg<|L0<|aN i 0<|Pl 9<|nt<|c0<|sq<|sq<|?_
 refine go<|Pl 3<|nt<|c0<|sg<|Pl 3<|nt<|c0<|go<|Pl 3<|L1<|aN i 0<|?_
 refine Pl 3<|nt<|c1<|sg<|Pl 2<|nt<|rt<|br<|tr<|rr (.func (.func 112) #[] #[.pointer (some ⟨f,0,none⟩),.pointer (some ⟨d,0,none⟩)])<|?_
 exact⟨_,_,rfl,by kernel_rfl,b,Bb (c:=23) ⟨by decide,by decide⟩ (ah.old hC b) m hne (ub j o) (Ne.symm (nb (ah.lt hC) a.size h)) (Ne.symm (nb (al hm) a.size h)) l (Ne.symm (nb (ah.lt hC) lr e)) (Ne.symm (nb (al hm) lr e))⟩
theorem pY{g gm:Nat}{C:ap}{w:World}(hC:ah w g C)(hm:w.heap[gm]? = some (.cells (mC 24) 31 (0,0)))(hne:g≠gm) : Calls Tryz.prog 86 #[.int .i64 0,.pointer (some ⟨gm,0,none⟩),.pointer (some ⟨g,0,none⟩)] w (ib (fun W=>bT g gm (gB 24 C).1 (gB 24 C).2 W) w):=by
 refine en 67 Tryz.func86 rfl<|sg<|L0<|cz #[.pointer (some ⟨gm,0,none⟩)] fun d z e n a=>L0<|cz #[.pointer (some ⟨g,0,none⟩)] fun f A h o p=>Pl 1<|ng<|Pl 1<|L0<|bI #[.nilFunc] fun B D q r s=>L0<|cn r 0 #[.func (.func 109) #[] #[.pointer (some ⟨f,0,none⟩),.pointer (some ⟨d,0,none⟩)]] fun E F t=>nl<|?_
 refine tn<|sg<|Pl 2<|L0<|bI #[.bool false] fun G H u v x=>L0<|cn v 0 #[.bool true] fun I i y=>nt<|sq<|sg<|?_
 have j:=ud s (aE t (ud x y u)) q
 have k:=aE p j
 have l:=ub k n
 refine L0<|aN l 0<|Pl 2<|?_
 have b:=aE a k
 have m:=ub b hm
 refine L0<|aN m 0<|Pl 1<|nt<|bk<|sg<|L0<|aN i 0<|Pl 9<|nt<|c0<|sq<|sq<|?_
 refine go<|Pl 3<|nt<|c0<|sg<|Pl 3<|nt<|c0<|go<|Pl 7<|nl<|?_
 refine tn<|c0<|sg<|Pl 3<|nt<|c0<|sg<|Pl 3<|nt<|c0<|?_
 refine sg<|Pl 3<|nt<|c0<|sg<|Pl 3<|nt<|c0<|sg<|?_
 refine Pl 3<|L1<|aN i 0<|Pl 2<|nt<|c1<|sg<|Pl 2<|nt<|rt<|br<|tr<|?_
 refine rr (.func (.func 119) #[] #[.pointer (some ⟨f,0,none⟩),.pointer (some ⟨d,0,none⟩)])<|?_
 exact⟨_,_,rfl,by kernel_rfl,b,BP (c:=24) ⟨by decide,by decide⟩ (ah.old hC b) m hne (ub j o) (Ne.symm (nb (ah.lt hC) a.size h)) (Ne.symm (nb (al hm) a.size h)) l (Ne.symm (nb (ah.lt hC) lr e)) (Ne.symm (nb (al hm) lr e))⟩
theorem p7{g gm:Nat}{C:ap}{w:World}(hC:ah w g C)(hm:w.heap[gm]? = some (.cells (mC 24) 31 (0,0)))(hne:g≠gm) : Calls Tryz.prog 86 #[.int .i64 1,.pointer (some ⟨gm,0,none⟩),.pointer (some ⟨g,0,none⟩)] w (ib (fun W=>bT g gm (xH 24 C).1 (xH 24 C).2 W) w):=by
 refine en 67 Tryz.func86 rfl<|sg<|L0<|cz #[.pointer (some ⟨gm,0,none⟩)] fun d z e n a=>L0<|cz #[.pointer (some ⟨g,0,none⟩)] fun f A h o p=>Pl 1<|ng<|Pl 1<|L0<|bI #[.nilFunc] fun B D q r s=>L0<|cn r 0 #[.func (.func 109) #[] #[.pointer (some ⟨f,0,none⟩),.pointer (some ⟨d,0,none⟩)]] fun E F t=>nl<|?_
 refine tn<|sg<|Pl 2<|L0<|bI #[.bool false] fun G H u v x=>L0<|cn v 0 #[.bool false] fun I i y=>nt<|sq<|sg<|?_
 have j:=ud s (aE t (ud x y u)) q
 have k:=aE p j
 have l:=ub k n
 refine L0<|aN l 0<|Pl 2<|?_
 have b:=aE a k
 have m:=ub b hm
 refine L0<|aN m 0<|Pl 1<|nt<|bk<|sg<|L0<|aN i 0<|Pl 9<|nt<|c0<|sq<|sq<|?_
 refine go<|Pl 3<|nt<|c0<|sg<|Pl 3<|nt<|c0<|go<|Pl 7<|nl<|?_
 refine tn<|c0<|sg<|Pl 3<|nt<|c0<|sg<|Pl 3<|nt<|c0<|?_
 refine sg<|Pl 3<|nt<|c0<|sg<|Pl 3<|nt<|c0<|sg<|?_
 refine Pl 3<|L1<|aN i 0<|Pl 2<|nt<|c0<|sg<|Pl 3<|nt<|c1<|sg<|?_
 refine Pl 2<|nt<|rt<|br<|tr<|rr (.func (.func 120) #[] #[.pointer (some ⟨f,0,none⟩),.pointer (some ⟨d,0,none⟩)])<|?_
 exact⟨_,_,rfl,by kernel_rfl,b,BQ (c:=24) ⟨by decide,by decide⟩ (ah.old hC b) m hne (ub j o) (Ne.symm (nb (ah.lt hC) a.size h)) (Ne.symm (nb (al hm) a.size h)) l (Ne.symm (nb (ah.lt hC) lr e)) (Ne.symm (nb (al hm) lr e))⟩
theorem qu{c:Int}{g gm:Nat}{C:ap}{w:World}(hC:ah w g C)(hm:w.heap[gm]? = some (.cells (mC c) 31 (0,0)))(hne:g≠gm)(k3:(c==3)=false)(k4:(c==4)=false)(k6:(c==6)=false)(f:(c==16)=false)(h:(c==22)=false)(a:(c==23)=false)(b:(c==24)=false) : Calls Tryz.prog 86 #[.int .i64 0,.pointer (some ⟨gm,0,none⟩),.pointer (some ⟨g,0,none⟩)] w (bv .nilFunc w):=by
 refine en 67 Tryz.func86 rfl<|sg<|L0<|cz #[.pointer (some ⟨gm,0,none⟩)] fun i x y j k=>L0<|cz #[.pointer (some ⟨g,0,none⟩)] fun l z A B m=>Pl 1<|ng<|Pl 1<|L0<|bI #[.nilFunc] fun D E n o p=>L0<|cn o 0 #[.func (.func 109) #[] #[.pointer (some ⟨l,0,none⟩),.pointer (some ⟨i,0,none⟩)]] fun F G q=>nl<|?_
 refine tn<|sg<|Pl 2<|L0<|bI #[.bool false] fun H I r s t=>L0<|cn s 0 #[.bool true] fun J u v=>nt<|sq<|sg<|?_
 have d:=aE m (ud p (aE q (ud t v r)) n)
 refine L0<|aN (ub d j) 0<|Pl 2<|?_
 have e:=aE k d
 refine L0<|aN (ub e hm) 0<|Pl 1<|nt<|bk<|sg<|L0<|aN u 0<|Pl 4<|sy 22 k3<|Pl 5<|nt<|cf k4<|?_
 refine sq<|sg<|Pl 3<|nt<|cf k3<|sg<|Pl 3<|nt<|cf k4<|go<|?_
 refine Pl 3<|sy 35 a<|Pl 4<|nt<|c0<|sg<|Pl 3<|nt<|cf k6<|sg<|?_
 refine Pl 3<|nt<|cf f<|sg<|Pl 3<|nt<|cf h<|sg<|Pl 3<|nl<|?_
 refine tn<|cf a<|sg<|Pl 3<|sy 59 b<|Pl 3<|nt<|c0<|sg<|Pl 3<|nl<|?_
 refine tn<|cf b<|sk<|bn<|tn<|sg<|Pl 1<|nt<|rt<|rr (.nilFunc)<|?_
 exact⟨rfl,e⟩
theorem p6{c:Int}{g gm:Nat}{C:ap}{w:World}(hC:ah w g C)(hm:w.heap[gm]? = some (.cells (mC c) 31 (0,0)))(hne:g≠gm)(k3:(c==3)=false)(k4:(c==4)=false)(k6:(c==6)=false)(f:(c==16)=false)(h:(c==22)=false)(a:(c==23)=false)(b:(c==24)=false) : Calls Tryz.prog 86 #[.int .i64 1,.pointer (some ⟨gm,0,none⟩),.pointer (some ⟨g,0,none⟩)] w (bv .nilFunc w):=by
 refine en 67 Tryz.func86 rfl<|sg<|L0<|cz #[.pointer (some ⟨gm,0,none⟩)] fun i x y j k=>L0<|cz #[.pointer (some ⟨g,0,none⟩)] fun l z A B m=>Pl 1<|ng<|Pl 1<|L0<|bI #[.nilFunc] fun D E n o p=>L0<|cn o 0 #[.func (.func 109) #[] #[.pointer (some ⟨l,0,none⟩),.pointer (some ⟨i,0,none⟩)]] fun F G q=>nl<|?_
 refine tn<|sg<|Pl 2<|L0<|bI #[.bool false] fun H I r s t=>L0<|cn s 0 #[.bool false] fun J u v=>nt<|sq<|sg<|?_
 have d:=aE m (ud p (aE q (ud t v r)) n)
 refine L0<|aN (ub d j) 0<|Pl 2<|?_
 have e:=aE k d
 refine L0<|aN (ub e hm) 0<|Pl 1<|nt<|bk<|sg<|L0<|aN u 0<|Pl 9<|nt<|c0<|sq<|sq<|?_
 refine go<|Pl 3<|nt<|cf k3<|sg<|Pl 3<|nt<|cf k4<|go<|Pl 3<|sy 35 a<|?_
 refine Pl 4<|nt<|c0<|sg<|Pl 3<|nt<|cf k6<|sg<|Pl 3<|nl<|?_
 refine tn<|cf f<|sg<|Pl 3<|nt<|cf h<|sg<|Pl 3<|nt<|cf a<|?_
 refine sg<|Pl 3<|sy 59 b<|Pl 3<|nt<|c0<|sg<|Pl 3<|nt<|cf b<|?_
 refine sk<|bn<|tn<|sg<|Pl 1<|nt<|rt<|rr (.nilFunc)<|?_
 exact⟨rfl,e⟩
theorem jQ{dir c:Int}{r:ap × aV}{g gm:Nat}{C:ap}{w:World}(hC:ah w g C)(hm:w.heap[gm]? = some (.cells (mC c) 31 (0,0)))(hne:g≠gm)(hd:dir=0∨dir=1)(h:bU dir c C=some r) : Calls Tryz.prog 86 #[.int .i64 dir,.pointer (some ⟨gm,0,none⟩),.pointer (some ⟨g,0,none⟩)] w (ib (fun W=>bT g gm r.1 r.2 W) w):=by
  by_cases h3:c=3
  · subst h3
    rcases hd with rfl|rfl
    · obtain rfl:d6 125 3 C=r:=Option.some.inj h
      exact ti hC hm hne
    · obtain rfl:dL 3 C=r:=Option.some.inj h
      exact sE hC hm hne
  by_cases h4:c=4
  · subst h4
    rcases hd with rfl|rfl
    · obtain rfl:d6 125 4 C=r:=Option.some.inj h
      exact sH hC hm hne
    · obtain rfl:dL 4 C=r:=Option.some.inj h
      exact rG hC hm hne
  by_cases h6:c=6
  · subst h6
    rcases hd with rfl|rfl
    · obtain rfl:gz 6 C=r:=Option.some.inj h
      exact se hC hm hne
    · obtain rfl:gz 6 C=r:=Option.some.inj h
      exact tg hC hm hne
  by_cases a:c=16
  · subst a
    rcases hd with rfl|rfl
    · obtain rfl:gC 16 C=r:=Option.some.inj h
      exact pj hC hm hne
    · obtain rfl:d6 123 16 C=r:=Option.some.inj h
      exact qs hC hm hne
  by_cases b:c=22
  · subst b
    rcases hd with rfl|rfl
    · obtain rfl:eN 22 C=r:=Option.some.inj h
      exact oR hC hm hne
    · obtain rfl:eN 22 C=r:=Option.some.inj h
      exact pP hC hm hne
  by_cases d:c=23
  · subst d
    rcases hd with rfl|rfl
    · obtain rfl:gF 23 C=r:=Option.some.inj h
      exact pq hC hm hne
    · obtain rfl:dL 23 C=r:=Option.some.inj h
      exact qe hC hm hne
  by_cases e:c=24
  · subst e
    rcases hd with rfl|rfl
    · obtain rfl:gB 24 C=r:=Option.some.inj h
      exact pY hC hm hne
    · obtain rfl:xH 24 C=r:=Option.some.inj h
      exact p7 hC hm hne
  exfalso
  unfold bU at h
  simp[h3,h4,h6,a,b,d,e] at h
theorem jS{dir c:Int}{g gm:Nat}{C:ap}{w:World}(hC:ah w g C)(hm:w.heap[gm]? = some (.cells (mC c) 31 (0,0)))(hne:g≠gm)(hd:dir=0∨dir=1)(h:bU dir c C=none) : Calls Tryz.prog 86 #[.int .i64 dir,.pointer (some ⟨gm,0,none⟩),.pointer (some ⟨g,0,none⟩)] w (bv .nilFunc w):=by
  have k3:(c==3)=false:=by
    cases hk:(c==3)
    · rfl
    · obtain rfl:c=3:=by simpa using hk
      rcases hd with rfl|rfl<;>cases h
  have k4:(c==4)=false:=by
    cases hk:(c==4)
    · rfl
    · obtain rfl:c=4:=by simpa using hk
      rcases hd with rfl|rfl<;>cases h
  have k6:(c==6)=false:=by
    cases hk:(c==6)
    · rfl
    · obtain rfl:c=6:=by simpa using hk
      rcases hd with rfl|rfl<;>cases h
  have a:(c==16)=false:=by
    cases hk:(c==16)
    · rfl
    · obtain rfl:c=16:=by simpa using hk
      rcases hd with rfl|rfl<;>cases h
  have b:(c==22)=false:=by
    cases hk:(c==22)
    · rfl
    · obtain rfl:c=22:=by simpa using hk
      rcases hd with rfl|rfl<;>cases h
  have d:(c==23)=false:=by
    cases hk:(c==23)
    · rfl
    · obtain rfl:c=23:=by simpa using hk
      rcases hd with rfl|rfl<;>cases h
  have e:(c==24)=false:=by
    cases hk:(c==24)
    · rfl
    · obtain rfl:c=24:=by simpa using hk
      rcases hd with rfl|rfl<;>cases h
  rcases hd with rfl|rfl
  · exact qu hC hm hne k3 k4 k6 a b d e
  · exact p6 hC hm hne k3 k4 k6 a b d e
open Go.RowKit
theorem mu{m:Bool}{A:Option Addr}{cp:Nat}{b:List Int}{w:World}{c:Int}(hcode:B8 c)(hsl:aQ m w (.slice A b.length cp) b)(hb:b.length≤1048576) :
    Calls Tryz.prog 60 #[.int .i64 0,.int .u8 c,.slice A b.length cp] w (dl (au bU 0 c b) w):=by
 obtain⟨hcode1,hcode2⟩:=hcode
 have hln:(b.length:Int)≤1048576:=by omega
 refine en 40 Tryz.func60 rfl<|sg<|L0<|bI mZ fun U V l j v=>Pl 1<|nt<|sq<|sg<|Pl 6<|nt<|c0<|?_
 refine bG<|sg<|Pl 2<|L0<|bI mZ fun W X g n K=>L0<|bf n (mC c) fun Y x o=>ng<|Pl 1<|?_
 have h:=ud K o g
 have p:=aE v h
 refine L0<|Oc<|e3 (d9 (aQ.old hsl p) (by omega)) fun Z a0 d y a=>Pl 1<|ng<|Pl 2<|?_
 have z:=aE p a
 refine wo (bU 0 c ⟨b,false,0⟩) (fun hr=>?_) (fun r hr=>?_)
 refine L0<|Oc<|m1 (jS (dir:=0) (c:=c) y (ub a x) (Ne.symm (nb (al n) o.size d)) (Or.inl rfl) hr) fun a1 B=>Pl 1<|nt<|sq<|sg<|Pl 2<|nt<|c1<|sg<|Pl 1<|?_
 refine L0<|bf (ub (aE h (aE a B)) j) mZ fun a2 L M=>Pl 1<|nt<|rt<|tr<|cU L (.int .i64 4)<|?_
 have hs:au bU 0 c b=(aV.zero,4):=by
   unfold au
   (try simp only[bs,if_true,if_false,decide_true,decide_false,eq_self,true_or,or_true,or_false,false_or,if_true,if_false,dt,du,dv,dy,reduceIte,hr])
   all_goals rfl
 rw[hs]
 exact bW (ud z (uz B M) l)
 have C:=nb (al n) o.size d
 refine L0<|Oc<|zJ (jQ (dir:=0) (c:=c) y (ub a x) (Ne.symm C) (Or.inl rfl) hr) fun N D a3 O E hcall51=>Pl 1<|nt<|sq<|sg<|Pl 2<|nt<|c0<|bG<|sq<|?_
 refine go<|Pl 1<|L0<|fb (f:=N) (args:=D) (hf:=O) #[] D<|m3 (hcall51) fun a4 F P G=>?_
 obtain⟨Q,k,q⟩:=P
 refine ng<|Pl 1<|L0<|Oc<|m2 (bP F) fun a5 H s=>nt<|sq<|sg<|Pl 1<|L0<|Oc<|mq (bi H)<|?_
 have a6:=ah.len H
 refine Pl 1<|ng<|Pl 2<|nt<|?_
 have t:=uz E (u1 G s im)
 have I:=ut z t (ac (ni p.size d) (ac (ni v.size g) aq))
 refine cb ((r.1.endC.e != 0)) (fun i=>?_) (fun i=>?_)
 have u:=aA i
 refine sg<|Pl 2<|?_
 refine L0<|bf (ub (ud h (ud a t d) g) j) mZ fun a7 R S=>Pl 1<|nt<|rt<|tr<|cU R (.int .i64 r.1.endC.e)<|?_
 have hs:au bU 0 c b=b6 r.2 r.1:=by
   unfold au
   (try simp only[i,bs,if_true,if_false,decide_true,decide_false,eq_self,true_or,or_true,or_false,false_or,if_true,if_false,dt,du,dv,dy,reduceIte,hr])
   all_goals rfl
 rw[hs]
 exact b9 u (ud I S l)
 have u:=ai i
 refine bG<|sg<|?_
 refine L0<|bZ (hz:=(by rw[k.2];exact aT)) (aY s C k.1)<|?_
 refine L0<|bf (hz:=(by rw[k.2];exact aT)) (hv:=q.size) (h1:=q.one) (ub (ud h (ud a t d) g) j) (Q) fun a8 T J=>Pl 1<|nt<|rt<|eU 22 k.2 T (.int .i64 0)<|?_
 have hs:au bU 0 c b=b6 r.2 r.1:=by
   unfold au
   (try simp only[i,bs,if_true,if_false,decide_true,decide_false,eq_self,true_or,or_true,or_false,false_or,if_true,if_false,dt,du,dv,dy,reduceIte,hr])
   all_goals rfl
 rw[hs]
 exact bj u (aF.upd q (us s J) (ak (ah.safe F _ (by decide)) (ak (aL (ub (ud h (ud a (uz E G) d) g) j) (by decide)) aD))) (ud I J l)
theorem mX{m:Bool}{A:Option Addr}{cp:Nat}{b:List Int}{w:World}{c:Int}(hcode:B8 c)(hsl:aQ m w (.slice A b.length cp) b)(hb:b.length≤1048576) :
    Calls Tryz.prog 60 #[.int .i64 1,.int .u8 c,.slice A b.length cp] w (dl (au bU 1 c b) w):=by
 obtain⟨hcode1,hcode2⟩:=hcode
 have hln:(b.length:Int)≤1048576:=by omega
 refine en 40 Tryz.func60 rfl<|sg<|L0<|bI mZ fun U V l j v=>Pl 1<|nt<|sq<|sg<|Pl 6<|nt<|c0<|?_
 refine bG<|sg<|Pl 2<|L0<|bI mZ fun W X g n K=>L0<|bf n (mC c) fun Y x o=>ng<|Pl 1<|?_
 have h:=ud K o g
 have p:=aE v h
 refine L0<|Oc<|e3 (d9 (aQ.old hsl p) (by omega)) fun Z a0 d y a=>Pl 1<|ng<|Pl 2<|?_
 have z:=aE p a
 refine wo (bU 1 c ⟨b,false,0⟩) (fun hr=>?_) (fun r hr=>?_)
 refine L0<|Oc<|m1 (jS (dir:=1) (c:=c) y (ub a x) (Ne.symm (nb (al n) o.size d)) (Or.inr rfl) hr) fun a1 B=>Pl 1<|nt<|sq<|sg<|Pl 2<|nt<|c1<|sg<|Pl 1<|?_
 refine L0<|bf (ub (aE h (aE a B)) j) mZ fun a2 L M=>Pl 1<|nt<|rt<|tr<|cU L (.int .i64 4)<|?_
 have hs:au bU 1 c b=(aV.zero,4):=by
   unfold au
   (try simp only[bs,if_true,if_false,decide_true,decide_false,eq_self,true_or,or_true,or_false,false_or,if_true,if_false,dt,du,dv,dy,reduceIte,hr])
   all_goals rfl
 rw[hs]
 exact bW (ud z (uz B M) l)
 have C:=nb (al n) o.size d
 refine L0<|Oc<|zJ (jQ (dir:=1) (c:=c) y (ub a x) (Ne.symm C) (Or.inr rfl) hr) fun N D a3 O E hcall51=>Pl 1<|nt<|sq<|sg<|Pl 2<|nt<|c0<|bG<|sq<|?_
 refine go<|Pl 1<|L0<|fb (f:=N) (args:=D) (hf:=O) #[] D<|m3 (hcall51) fun a4 F P G=>?_
 obtain⟨Q,k,q⟩:=P
 refine ng<|Pl 1<|L0<|Oc<|m2 (bP F) fun a5 H s=>nt<|sq<|sg<|Pl 1<|L0<|Oc<|mq (bi H)<|?_
 have a6:=ah.len H
 refine Pl 1<|ng<|Pl 2<|nt<|?_
 have t:=uz E (u1 G s im)
 have I:=ut z t (ac (ni p.size d) (ac (ni v.size g) aq))
 refine cb ((r.1.endC.e != 0)) (fun i=>?_) (fun i=>?_)
 have u:=aA i
 refine sg<|Pl 2<|?_
 refine L0<|bf (ub (ud h (ud a t d) g) j) mZ fun a7 R S=>Pl 1<|nt<|rt<|tr<|cU R (.int .i64 r.1.endC.e)<|?_
 have hs:au bU 1 c b=b6 r.2 r.1:=by
   unfold au
   (try simp only[i,bs,if_true,if_false,decide_true,decide_false,eq_self,true_or,or_true,or_false,false_or,if_true,if_false,dt,du,dv,dy,reduceIte,hr])
   all_goals rfl
 rw[hs]
 exact b9 u (ud I S l)
 have u:=ai i
 refine bG<|sg<|?_
 refine L0<|bZ (hz:=(by rw[k.2];exact aT)) (aY s C k.1)<|?_
 refine L0<|bf (hz:=(by rw[k.2];exact aT)) (hv:=q.size) (h1:=q.one) (ub (ud h (ud a t d) g) j) (Q) fun a8 T J=>Pl 1<|nt<|rt<|eU 22 k.2 T (.int .i64 0)<|?_
 have hs:au bU 1 c b=b6 r.2 r.1:=by
   unfold au
   (try simp only[i,bs,if_true,if_false,decide_true,decide_false,eq_self,true_or,or_true,or_false,false_or,if_true,if_false,dt,du,dv,dy,reduceIte,hr])
   all_goals rfl
 rw[hs]
 exact bj u (aF.upd q (us s J) (ak (ah.safe F _ (by decide)) (ak (aL (ub (ud h (ud a (uz E G) d) g) j) (by decide)) aD))) (ud I J l)
theorem mj{m:Bool}{A:Option Addr}{cp:Nat}{b:List Int}{w:World}{dir c:Int}(hcode:B8 c)(hsl:aQ m w (.slice A b.length cp) b)(hb:b.length≤1048576)(hd:¬ (dir=0∨dir=1)) :
    Calls Tryz.prog 60 #[.int .i64 dir,.int .u8 c,.slice A b.length cp] w (dl (au bU dir c b) w):=by
 obtain⟨hcode1,hcode2⟩:=hcode
 have hln:(b.length:Int)≤1048576:=by omega
 have e0:(dir != 0)=true:=by simp;omega
 have e1:(dir != 1)=true:=by simp;omega
 refine en 40 Tryz.func60 rfl<|sg<|L0<|bI mZ fun g h a d e=>Pl 1<|nt<|sq<|sg<|Pl 3<|sy 14 e0<|Pl 3<|nl<|?_
 refine tn<|ct e1<|sg<|Pl 1<|L0<|bf d mZ fun i db f=>Pl 1<|nt<|rt<|tr<|cU db (.int .i64 1)<|?_
 have hs:au bU dir c b=(aV.zero,1):=by
   unfold au bU
   (try simp only[e0,e1,bs,if_true,if_false,decide_true,decide_false,eq_self,true_or,or_true,or_false,false_or,if_true,if_false,dt,du,dv,dy,reduceIte,hd])
   all_goals rfl
 rw[hs]
 exact bW (ud e f a)
theorem kv{m:Bool}{v:Value}{b:List Int}{w:World}{dir c:Int}(hc:B8 c)(h:aQ m w v b)(hb:b.length≤1048576) :
    Calls Tryz.prog 60 #[.int .i64 dir,.int .u8 c,v] w (dl (au bU dir c b) w):=by
  obtain⟨A,cp,rfl,_,_⟩:=h.shape
  by_cases h0:dir=0
  · subst h0;exact mu hc h hb
  by_cases h1:dir=1
  · subst h1;exact mX hc h hb
  exact mj hc h hb (by omega)
open Go.RowKit
theorem km{most:Int}{g gm:Nat}{c:Int}{C:ap}{w:World}(hcode:B8 c)(hC:ah w g C)(hm:w.heap[gm]? = some (.cells (mC c) 31 (0,0)))(hne:g≠gm) :
    Calls Tryz.prog 103 #[.agg #[.pointer (some ⟨g,0,none⟩),.pointer (some ⟨gm,0,none⟩)],.int .u16 most] w (qy g gm (ck C most) (mG c 0 C.wordV (C.wordsC 1).wordV 0 0 0 0 0 0 0 0 nS nS nS nS 0 0 0 0 0 nS) w):=by
 obtain⟨hcode1,hcode2⟩:=hcode
 have hlen:=hC.len
 refine en 51 Tryz.func103 rfl<|sg<|L0<|cz #[.pointer (some ⟨g,0,none⟩),.pointer (some ⟨gm,0,none⟩)] fun f am P a7 a8=>nt<|sq<|Rg 8 (fun w'=>w'.cell? ⟨f,1,none⟩=some (.pointer (some ⟨gm,0,none⟩))∧w'.cell? ⟨f,0,none⟩=some (.pointer (some ⟨g,0,none⟩))) fun an Q=>?_
 have t:=ub Q a7
 refine aZ ⟨(aa t rfl),(aa t rfl)⟩ fun o=>Rt 0 o<|Rl 1 o (fun _ hs=>hs.1)<|Rt 2 o<|Rl 3 o (fun _ hs=>hs.2)<|?_
 have R:=aE a8 Q
 refine R0 4 rfl<|Oc<|m3 (bD (ah.old hC R)) fun ao a9 S aq=>?_
 have h:=nb (ah.lt hC) lr P
 have u:=aY S (Ne.symm h) t
 refine aZ ⟨(aa u rfl),(aa u rfl)⟩ fun T=>Rt 5 T<|Rt 6 T<|?_
 have U:=uz R S
 have V:=aY U (Ne.symm hne) hm
 refine R0 7 rfl<|cn V 2 (mG c 0 C.wordV 0 0 0 0 0 0 0 0 0 nS nS nS nS 0 0 0 0 0 nS) fun ar ab W=>?_
 have X:=nb (al hm) lr P
 have v:=aY W (Ne.symm X) u
 refine aZ ⟨(aa v rfl),(aa v rfl)⟩ fun au=>re<|tn<|sq<|Rg 8 (fun w'=>w'.cell? ⟨f,1,none⟩=some (.pointer (some ⟨gm,0,none⟩))∧w'.cell? ⟨f,0,none⟩=some (.pointer (some ⟨g,0,none⟩))) fun av x=>?_
 have y:=ub x v
 refine aZ ⟨(aa y rfl),(aa y rfl)⟩ fun p=>Rt 0 p<|Rl 1 p (fun _ hs=>hs.1)<|Rt 2 p<|Rl 3 p (fun _ hs=>hs.2)<|?_
 have Y:=aE W x
 refine R0 4 rfl<|Oc<|m3 (bD (ah.upd a9 Y (ae hne ay) (ak (aL V (by decide)) aD))) fun aw Z z ax=>?_
 have A:=aY z (Ne.symm h) y
 refine aZ ⟨(aa A rfl),(aa A rfl)⟩ fun a0=>Rt 5 a0<|Rt 6 a0<|?_
 have B:=aY (uz x z) (Ne.symm hne) ab
 refine R0 7 rfl<|cn B 3 (mG c 0 C.wordV ((C.wordsC 1).wordV) 0 0 0 0 0 0 0 0 nS nS nS nS 0 0 0 0 0 nS) fun az ac a1=>?_
 have D:=aY a1 (Ne.symm X) A
 refine aZ ⟨(aa D rfl),(aa D rfl)⟩ fun aA=>re<|tn<|sq<|Rg 18 (fun w'=>w'.cell? ⟨f,0,none⟩=some (.pointer (some ⟨g,0,none⟩))∧w'.cell? ⟨f,1,none⟩=some (.pointer (some ⟨gm,0,none⟩))∧w'.cell? ⟨gm,3,none⟩=some (.int .u16 ((C.wordsC 1).wordV))) fun aB E=>?_
 have q:=ub E D
 have F:=ub E ac
 refine aZ ⟨(aa q rfl),(aa q rfl),(aa F rfl)⟩ fun b=>Rt 0 b<|Rl 1 b (fun _ hs=>hs.1)<|Rt 2 b<|Rl 3 b (fun _ hs=>hs.2.1)<|Rt 4 b<|Rt 5 b<|Rl 6 b (fun _ hs=>hs.2.2)<|Rt 7 b<|Rt 8 b<|?_
 have G:=aE a1 E
 have a2:=ui U (ui Y (us z G))
 refine u7 26 ((decide (1≤((C.wordsC 1).wordV)))) (fun i=>?_) (fun i=>?_)
 have ad:=of_decide_eq_true i
 refine Rt 9 b<|Rl 10 b (fun _ hs=>hs.2.1)<|Rt 11 b<|Rt 12 b<|Rl 13 b (fun _ hs=>hs.2.2)<|Rt 14 b<|Rt 15 b<|Rt 16 b<|?_
 refine R0 17 rfl<|Oc<|m2 (aU ((decide (((C.wordsC 1).wordV)≤most))) 5 (ah.upd Z G (ae hne ay) (ak (aL B (by decide)) aD))) fun aC af H=>?_
 have I:=aY H (Ne.symm h) q
 have a3:=aY H (Ne.symm hne) F
 refine aZ ⟨(aa I rfl),(aa I rfl),(aa a3 rfl)⟩ fun aF=>re<|tn<|Rg 15 (fun w'=>w'.cell? ⟨f,0,none⟩=some (.pointer (some ⟨g,0,none⟩))∧w'.cell? ⟨f,1,none⟩=some (.pointer (some ⟨gm,0,none⟩))∧w'.cell? ⟨gm,2,none⟩=some (.int .u16 C.wordV)∧w'.cell? ⟨gm,3,none⟩=some (.int .u16 ((C.wordsC 1).wordV))) fun aG r=>?_
 have j:=ub r I
 have k:=ub r a3
 refine aZ ⟨(aa j rfl),(aa j rfl),(aa k rfl),(aa k rfl)⟩ fun d=>Rt 0 d<|Rl 1 d (fun _ hs=>hs.1)<|Rt 2 d<|Rl 3 d (fun _ hs=>hs.2.1)<|Rt 4 d<|Rt 5 d<|Rl 6 d (fun _ hs=>hs.2.2.1)<|Rt 7 d<|Rl 8 d (fun _ hs=>hs.2.1)<|Rt 9 d<|Rt 10 d<|Rl 11 d (fun _ hs=>hs.2.2.2)<|Rr 12 d (.int .i64 ((C.wordsC 1).wordV)) (fun _ _=>cC (.int .i64 (IntKind.i64.wrap ((C.wordsC 1).wordV))) (by kernel_rfl) (congrArg (Value.int .i64) (i64_in (by omega))))<|?_
 refine R0 13 rfl<|Oc<|mq (i8 (a:=C.wordV) (n:=(C.wordsC 1).wordV) (by omega))<|aZ ⟨(aa j rfl),(aa j rfl),(aa k rfl),(aa k rfl)⟩ fun aH=>?_
 refine R0 14 rfl<|Oc<|m2 (aU ((el C.wordV ((C.wordsC 1).wordV))) 7 (ah.old af r)) fun aI ag J=>?_
 have a4:=aY J (Ne.symm h) j
 have K:=aY J (Ne.symm hne) k
 refine aZ ⟨(aa a4 rfl),(aa a4 rfl),(aa K rfl),(aa K rfl)⟩ fun aJ=>re<|rm (.tuple #[])<|?_
 have hs:ck C most=((((C.wordsC 1).wordsC 1).need (decide (((C.wordsC 1).wordV)≤most)) 5).need (el C.wordV ((C.wordsC 1).wordV)) 7):=by
   unfold ck my
   (try simp only[i,bs,if_true,if_false,decide_true,decide_false,reduceIte])
   all_goals rfl
 rw[hs]
 exact⟨rfl,ag,K,(u1 a2 (u1 H (uz r J) im) im)⟩
 have ad:=of_decide_eq_false i
 refine Ro 9 b<|Ro 10 b<|Ro 11 b<|Ro 12 b<|Ro 13 b<|Ro 14 b<|Ro 15 b<|Rt 16 b<|?_
 refine R0 17 rfl<|Oc<|m2 (aU (false) 5 (ah.upd Z G (ae hne ay) (ak (aL B (by decide)) aD))) fun aK ai L=>?_
 have M:=aY L (Ne.symm h) q
 have a5:=aY L (Ne.symm hne) F
 refine aZ ⟨(aa M rfl),(aa M rfl),(aa a5 rfl)⟩ fun aM=>re<|tn<|Rg 15 (fun w'=>w'.cell? ⟨f,0,none⟩=some (.pointer (some ⟨g,0,none⟩))∧w'.cell? ⟨f,1,none⟩=some (.pointer (some ⟨gm,0,none⟩))∧w'.cell? ⟨gm,2,none⟩=some (.int .u16 C.wordV)∧w'.cell? ⟨gm,3,none⟩=some (.int .u16 ((C.wordsC 1).wordV))) fun aN s=>?_
 have l:=ub s M
 have m:=ub s a5
 refine aZ ⟨(aa l rfl),(aa l rfl),(aa m rfl),(aa m rfl)⟩ fun e=>Rt 0 e<|Rl 1 e (fun _ hs=>hs.1)<|Rt 2 e<|Rl 3 e (fun _ hs=>hs.2.1)<|Rt 4 e<|Rt 5 e<|Rl 6 e (fun _ hs=>hs.2.2.1)<|Rt 7 e<|Rl 8 e (fun _ hs=>hs.2.1)<|Rt 9 e<|Rt 10 e<|Rl 11 e (fun _ hs=>hs.2.2.2)<|Rr 12 e (.int .i64 ((C.wordsC 1).wordV)) (fun _ _=>cC (.int .i64 (IntKind.i64.wrap ((C.wordsC 1).wordV))) (by kernel_rfl) (congrArg (Value.int .i64) (i64_in (by omega))))<|?_
 refine R0 13 rfl<|Oc<|mq (i8 (a:=C.wordV) (n:=(C.wordsC 1).wordV) (by omega))<|aZ ⟨(aa l rfl),(aa l rfl),(aa m rfl),(aa m rfl)⟩ fun aO=>?_
 refine R0 14 rfl<|Oc<|m2 (aU ((el C.wordV ((C.wordsC 1).wordV))) 7 (ah.old ai s)) fun aP aj N=>?_
 have a6:=aY N (Ne.symm h) l
 have O:=aY N (Ne.symm hne) m
 refine aZ ⟨(aa a6 rfl),(aa a6 rfl),(aa O rfl),(aa O rfl)⟩ fun aQ=>re<|rm (.tuple #[])<|?_
 have hs:ck C most=((((C.wordsC 1).wordsC 1).need false 5).need (el C.wordV ((C.wordsC 1).wordV)) 7):=by
   unfold ck my
   (try simp only[i,bs,if_true,if_false,decide_true,decide_false,reduceIte])
   all_goals rfl
 rw[hs]
 exact⟨rfl,aj,O,(u1 a2 (u1 L (uz s N) im) im)⟩
theorem iw{g gm:Nat}{c:Int}{C:ap}{w:World}(hcode:B8 c)(hC:ah w g C)(hm:w.heap[gm]? = some (.cells (mC c) 31 (0,0)))(hne:g≠gm) :
    Calls Tryz.prog 78 #[.agg #[.pointer (some ⟨g,0,none⟩),.pointer (some ⟨gm,0,none⟩)]] w (bT g gm (dz 2000 c C).1 (dz 2000 c C).2 w):=by
 obtain⟨hcode1,hcode2⟩:=hcode
 have hlen:=hC.len
 refine en 4 Tryz.func78 rfl<|sg<|L0<|cz #[.pointer (some ⟨g,0,none⟩),.pointer (some ⟨gm,0,none⟩)] fun i j k d a=>nt<|go<|L0<|bZ d<|?_
 have b:=ah.old hC a
 refine L0<|Oc<|m3 (km (most:=2000) ⟨hcode1,hcode2⟩ b (ub a hm) hne) fun l e f h=>?_
 have m:=(b).wordV
 have n:=dN (da (b).rng 1)
 refine nl<|rm (.tuple #[])<|?_
 have hs:dz 2000 c C=((ck C 2000),(aV.mk c 0 C.wordV ((C.wordsC 1).wordV) 0 0 0 0 0 0 0 0 [] [] [] [] 0 0 0 0 0 [])):=by
   unfold dz
   (try simp only[bs,if_true,if_false,decide_true,decide_false,reduceIte])
   all_goals rfl
 rw[hs]
 exact⟨rfl,e,⟨_,⟨f,rfl⟩,⟨_,_,_,_,_,rfl,aO.nil ..,aO.nil ..,aO.nil ..,aO.nil ..,aO.nil ..,⟨(b8 (x:=c) (by omega)),(b8 (x:=0) (by omega)),(aK (x:=C.wordV) (by omega)),(aK (x:=(C.wordsC 1).wordV) (by omega)),(aK (x:=0) (by omega)),(aK (x:=0) (by omega)),(aK (x:=0) (by omega)),(aK (x:=0) (by omega)),(aK (x:=0) (by omega)),(aK (x:=0) (by omega)),(aK (x:=0) (by omega)),(aK (x:=0) (by omega)),(b8 (x:=0) (by omega)),(b8 (x:=0) (by omega)),(b8 (x:=0) (by omega)),(b8 (x:=0) (by omega)),(b8 (x:=0) (by omega))⟩⟩⟩,(uz a h)⟩
theorem m9{g gm:Nat}{c:Int}{C:ap}{w:World}(hcode:B8 c)(hC:ah w g C)(hm:w.heap[gm]? = some (.cells (mC c) 31 (0,0)))(hne:g≠gm) :
    Calls Tryz.prog 79 #[.agg #[.pointer (some ⟨g,0,none⟩),.pointer (some ⟨gm,0,none⟩)]] w (bT g gm (eg c C).1 (eg c C).2 w):=by
 obtain⟨hcode1,hcode2⟩:=hcode
 have hlen:=hC.len
 refine en 24 Tryz.func79 rfl<|sg<|L0<|cz #[.pointer (some ⟨g,0,none⟩),.pointer (some ⟨gm,0,none⟩)] fun j L k l m=>ng<|Pl 1<|L0<|aN l 0<|?_
 refine L0<|Oc<|m3 (bE (ah.old hC m)) fun M A o N=>Pl 1<|ng<|Pl 1<|?_
 have e:=nb (ah.lt hC) lr k
 have p:=aY o (Ne.symm e) l
 refine L0<|aN p 0<|Pl 3<|cu 3 [10] 13 (((decide (1≤C.byteV))&&(decide (C.byteV≤250)))) (fun K q=>?_) ?_
 refine bl 10 ((decide (1≤C.byteV))) (fun b=>?_) (fun b=>?_)
 have B:=of_decide_eq_true b
 exact Pl 3<|ce q (decide (C.byteV≤250)) (by rw[b];rfl)
 have B:=of_decide_eq_false b
 exact Pl 3<|ce q false (by rw[b];rfl)
 refine L0<|Oc<|m2 (aU (((decide (1≤C.byteV))&&(decide (C.byteV≤250)))) 5 A) fun O D E=>nt<|Rg 10 (fun w'=>w'.cell? ⟨j,1,none⟩=some (.pointer (some ⟨gm,0,none⟩))∧w'.cell? ⟨j,0,none⟩=some (.pointer (some ⟨g,0,none⟩))) fun P r=>?_
 have s:=aE E r
 have f:=aY s (Ne.symm e) p
 refine aZ ⟨(aa f rfl),(aa f rfl)⟩ fun a=>Rt 0 a<|Rl 1 a (fun _ hs=>hs.1)<|Rt 2 a<|Rl 3 a (fun _ hs=>hs.2)<|Rt 4 a<|Rr 5 a (.int .i64 C.byteV) (fun _ _=>cC (.int .i64 (IntKind.i64.wrap C.byteV)) (by kernel_rfl) (congrArg (Value.int .i64) (i64_in (by omega))))<|?_
 have t:=ah.old D r
 refine R0 6 rfl<|Oc<|tv (bS (n:=C.byteV) t) fun F G Q H R S I u=>?_
 have T:=Nat.le_trans (ap.bytesR_le ((C.bytesC 1).need ((decide (1≤C.byteV))&&(decide (C.byteV≤250))) 5) C.byteV) (ah.len t)
 have h:=aY u (Ne.symm e) f
 refine aZ ⟨(aa h rfl),(aa h rfl)⟩ fun v=>Rt 7 v<|Rt 8 v<|?_
 have y:=uz m (u1 o (u1 s u im) im)
 have i:=aY y (Ne.symm hne) hm
 refine R0 9 rfl<|cn i 14 (mG c 0 0 0 0 0 0 0 0 0 0 0 nS nS (.slice F ((((C.bytesC 1).need ((decide (1≤C.byteV))&&(decide (C.byteV≤250))) 5).bytesR C.byteV).length) G) nS 0 0 0 0 0 nS) fun U J d=>?_
 have z:=aY d (Ne.symm (nb (al hm) lr k)) h
 refine aZ ⟨(aa z rfl),(aa z rfl)⟩ fun V=>re<|rm (.tuple #[])<|?_
 have hs:eg c C=((((C.bytesC 1).need ((decide (1≤C.byteV))&&(decide (C.byteV≤250))) 5).bytesC C.byteV),(aV.mk c 0 0 0 0 0 0 0 0 0 0 0 [] [] (((C.bytesC 1).need ((decide (1≤C.byteV))&&(decide (C.byteV≤250))) 5).bytesR C.byteV) [] 0 0 0 0 0 [])):=by
   unfold eg qi
   (try simp only[bs,if_true,if_false,decide_true,decide_false,reduceIte])
   all_goals rfl
 rw[hs]
 exact⟨rfl,(ah.upd I d (ae hne ay) (ak (aL i (by decide)) aD)),⟨_,⟨J,rfl⟩,⟨_,_,_,_,_,rfl,aO.nil ..,aO.nil ..,(aQ.upd' H d (ak (aL i (by decide)) aD)),aO.nil ..,aO.nil ..,⟨(b8 (x:=c) (by omega)),(b8 (x:=0) (by omega)),(aK (x:=0) (by omega)),(aK (x:=0) (by omega)),(aK (x:=0) (by omega)),(aK (x:=0) (by omega)),(aK (x:=0) (by omega)),(aK (x:=0) (by omega)),(aK (x:=0) (by omega)),(aK (x:=0) (by omega)),(aK (x:=0) (by omega)),(aK (x:=0) (by omega)),(b8 (x:=0) (by omega)),(b8 (x:=0) (by omega)),(b8 (x:=0) (by omega)),(b8 (x:=0) (by omega)),(b8 (x:=0) (by omega))⟩⟩⟩,(us y d)⟩
theorem lC{g gm:Nat}{c:Int}{C:ap}{w:World}(hcode:B8 c)(hC:ah w g C)(hm:w.heap[gm]? = some (.cells (mC c) 31 (0,0)))(hne:g≠gm) :
    Calls Tryz.prog 80 #[.agg #[.pointer (some ⟨g,0,none⟩),.pointer (some ⟨gm,0,none⟩)]] w (bT g gm (dK c C).1 (dK c C).2 w):=by
 obtain⟨hcode1,hcode2⟩:=hcode
 have hlen:=hC.len
 refine en 33 Tryz.func80 rfl<|sg<|L0<|cz #[.pointer (some ⟨g,0,none⟩),.pointer (some ⟨gm,0,none⟩)] fun b a0 z S T=>nt<|sq<|Rg 8 (fun w'=>w'.cell? ⟨b,1,none⟩=some (.pointer (some ⟨gm,0,none⟩))∧w'.cell? ⟨b,0,none⟩=some (.pointer (some ⟨g,0,none⟩))) fun a1 A=>?_
 have j:=ub A S
 refine aZ ⟨(aa j rfl),(aa j rfl)⟩ fun e=>Rt 0 e<|Rl 1 e (fun _ hs=>hs.1)<|Rt 2 e<|Rl 3 e (fun _ hs=>hs.2)<|?_
 have B:=aE T A
 refine R0 4 rfl<|Oc<|m3 (bD (ah.old hC B)) fun a2 U D a3=>?_
 have f:=nb (ah.lt hC) lr z
 have k:=aY D (Ne.symm f) j
 refine aZ ⟨(aa k rfl),(aa k rfl)⟩ fun E=>Rt 5 E<|Rt 6 E<|?_
 have F:=uz B D
 have G:=aY F (Ne.symm hne) hm
 refine R0 7 rfl<|cn G 2 (mG c 0 C.wordV 0 0 0 0 0 0 0 0 0 nS nS nS nS 0 0 0 0 0 nS) fun a4 V H=>?_
 have I:=nb (al hm) lr z
 have l:=aY H (Ne.symm I) k
 refine aZ ⟨(aa l rfl),(aa l rfl)⟩ fun a5=>re<|tn<|sq<|Rg 8 (fun w'=>w'.cell? ⟨b,1,none⟩=some (.pointer (some ⟨gm,0,none⟩))∧w'.cell? ⟨b,0,none⟩=some (.pointer (some ⟨g,0,none⟩))) fun a6 m=>?_
 have n:=ub m l
 refine aZ ⟨(aa n rfl),(aa n rfl)⟩ fun h=>Rt 0 h<|Rl 1 h (fun _ hs=>hs.1)<|Rt 2 h<|Rl 3 h (fun _ hs=>hs.2)<|?_
 have J:=aE H m
 refine R0 4 rfl<|Oc<|m3 (bD (ah.upd U J (ae hne ay) (ak (aL G (by decide)) aD))) fun a7 K o a8=>?_
 have p:=aY o (Ne.symm f) n
 refine aZ ⟨(aa p rfl),(aa p rfl)⟩ fun L=>Rt 5 L<|Rt 6 L<|?_
 have q:=aY (uz m o) (Ne.symm hne) V
 refine R0 7 rfl<|cn q 4 (mG c 0 C.wordV 0 ((C.wordsC 1).wordV) 0 0 0 0 0 0 0 nS nS nS nS 0 0 0 0 0 nS) fun a9 W M=>?_
 have r:=aY M (Ne.symm I) p
 refine aZ ⟨(aa r rfl),(aa r rfl)⟩ fun ab=>re<|tn<|Rg 17 (fun w'=>w'.cell? ⟨b,0,none⟩=some (.pointer (some ⟨g,0,none⟩))∧w'.cell? ⟨b,1,none⟩=some (.pointer (some ⟨gm,0,none⟩))∧w'.cell? ⟨gm,4,none⟩=some (.int .u16 ((C.wordsC 1).wordV))) fun ac s=>?_
 have i:=ub s r
 have t:=ub s W
 refine aZ ⟨(aa i rfl),(aa i rfl),(aa t rfl)⟩ fun a=>Rt 0 a<|Rl 1 a (fun _ hs=>hs.1)<|Rt 2 a<|Rl 3 a (fun _ hs=>hs.2.1)<|Rt 4 a<|Rt 5 a<|Rl 6 a (fun _ hs=>hs.2.2)<|Rt 7 a<|Rt 8 a<|?_
 have u:=aE M s
 have N:=ui F (ui J (us o u))
 refine u7 24 ((((C.wordsC 1).wordV)==0)) (fun d=>?_) (fun d=>?_)
 have X:=az d
 refine Ro 9 a<|Ro 10 a<|Ro 11 a<|Ro 12 a<|Ro 13 a<|Ro 14 a<|Rt 15 a<|?_
 refine R0 16 rfl<|Oc<|m2 (aU (true) 6 (ah.upd K u (ae hne ay) (ak (aL q (by decide)) aD))) fun ad Y v=>?_
 have O:=aY v (Ne.symm f) i
 have P:=aY v (Ne.symm hne) t
 refine aZ ⟨(aa O rfl),(aa O rfl),(aa P rfl)⟩ fun af=>re<|rm (.tuple #[])<|?_
 have hs:dK c C=((((C.wordsC 1).wordsC 1).need true 6),(aV.mk c 0 C.wordV 0 ((C.wordsC 1).wordV) 0 0 0 0 0 0 0 [] [] [] [] 0 0 0 0 0 [])):=by
   unfold dK uU
   (try simp only[d,bs,if_true,if_false,decide_true,decide_false,reduceIte])
   all_goals rfl
 rw[hs]
 exact⟨rfl,Y,⟨_,⟨P,rfl⟩,⟨_,_,_,_,_,rfl,aO.nil ..,aO.nil ..,aO.nil ..,aO.nil ..,aO.nil ..,⟨(b8 (x:=c) (by omega)),(b8 (x:=0) (by omega)),(aK (x:=C.wordV) (by omega)),(aK (x:=0) (by omega)),(aK (x:=(C.wordsC 1).wordV) (by omega)),(aK (x:=0) (by omega)),(aK (x:=0) (by omega)),(aK (x:=0) (by omega)),(aK (x:=0) (by omega)),(aK (x:=0) (by omega)),(aK (x:=0) (by omega)),(aK (x:=0) (by omega)),(b8 (x:=0) (by omega)),(b8 (x:=0) (by omega)),(b8 (x:=0) (by omega)),(b8 (x:=0) (by omega)),(b8 (x:=0) (by omega))⟩⟩⟩,(u1 N v im)⟩
 have X:=aC d
 refine Rt 9 a<|Rl 10 a (fun _ hs=>hs.2.1)<|Rt 11 a<|Rt 12 a<|Rl 13 a (fun _ hs=>hs.2.2)<|Rt 14 a<|Rt 15 a<|?_
 refine R0 16 rfl<|Oc<|m2 (aU ((((C.wordsC 1).wordV)==65280)) 6 (ah.upd K u (ae hne ay) (ak (aL q (by decide)) aD))) fun ag Z y=>?_
 have Q:=aY y (Ne.symm f) i
 have R:=aY y (Ne.symm hne) t
 refine aZ ⟨(aa Q rfl),(aa Q rfl),(aa R rfl)⟩ fun ai=>re<|rm (.tuple #[])<|?_
 have hs:dK c C=((((C.wordsC 1).wordsC 1).need (((C.wordsC 1).wordV)==65280) 6),(aV.mk c 0 C.wordV 0 ((C.wordsC 1).wordV) 0 0 0 0 0 0 0 [] [] [] [] 0 0 0 0 0 [])):=by
   unfold dK uU
   (try simp only[d,bs,if_true,if_false,decide_true,decide_false,reduceIte])
   all_goals rfl
 rw[hs]
 exact⟨rfl,Z,⟨_,⟨R,rfl⟩,⟨_,_,_,_,_,rfl,aO.nil ..,aO.nil ..,aO.nil ..,aO.nil ..,aO.nil ..,⟨(b8 (x:=c) (by omega)),(b8 (x:=0) (by omega)),(aK (x:=C.wordV) (by omega)),(aK (x:=0) (by omega)),(aK (x:=(C.wordsC 1).wordV) (by omega)),(aK (x:=0) (by omega)),(aK (x:=0) (by omega)),(aK (x:=0) (by omega)),(aK (x:=0) (by omega)),(aK (x:=0) (by omega)),(aK (x:=0) (by omega)),(aK (x:=0) (by omega)),(b8 (x:=0) (by omega)),(b8 (x:=0) (by omega)),(b8 (x:=0) (by omega)),(b8 (x:=0) (by omega)),(b8 (x:=0) (by omega))⟩⟩⟩,(u1 N y im)⟩
theorem vC{g gm:Nat}{c:Int}{C:ap}{w:World}(hcode:B8 c)(hC:ah w g C)(hm:w.heap[gm]? = some (.cells (mC c) 31 (0,0)))(hne:g≠gm) :
    Calls Tryz.prog 82 #[.agg #[.pointer (some ⟨g,0,none⟩),.pointer (some ⟨gm,0,none⟩)]] w (bT g gm (dz 1968 c C).1 (dz 1968 c C).2 w):=by
 obtain⟨hcode1,hcode2⟩:=hcode
 have hlen:=hC.len
 refine en 4 Tryz.func82 rfl<|sg<|L0<|cz #[.pointer (some ⟨g,0,none⟩),.pointer (some ⟨gm,0,none⟩)] fun i j k d a=>nt<|go<|L0<|bZ d<|?_
 have b:=ah.old hC a
 refine L0<|Oc<|m3 (km (most:=1968) ⟨hcode1,hcode2⟩ b (ub a hm) hne) fun l e f h=>?_
 have m:=(b).wordV
 have n:=dN (da (b).rng 1)
 refine nl<|rm (.tuple #[])<|?_
 have hs:dz 1968 c C=((ck C 1968),(aV.mk c 0 C.wordV ((C.wordsC 1).wordV) 0 0 0 0 0 0 0 0 [] [] [] [] 0 0 0 0 0 [])):=by
   unfold dz
   (try simp only[bs,if_true,if_false,decide_true,decide_false,reduceIte])
   all_goals rfl
 rw[hs]
 exact⟨rfl,e,⟨_,⟨f,rfl⟩,⟨_,_,_,_,_,rfl,aO.nil ..,aO.nil ..,aO.nil ..,aO.nil ..,aO.nil ..,⟨(b8 (x:=c) (by omega)),(b8 (x:=0) (by omega)),(aK (x:=C.wordV) (by omega)),(aK (x:=(C.wordsC 1).wordV) (by omega)),(aK (x:=0) (by omega)),(aK (x:=0) (by omega)),(aK (x:=0) (by omega)),(aK (x:=0) (by omega)),(aK (x:=0) (by omega)),(aK (x:=0) (by omega)),(aK (x:=0) (by omega)),(aK (x:=0) (by omega)),(b8 (x:=0) (by omega)),(b8 (x:=0) (by omega)),(b8 (x:=0) (by omega)),(b8 (x:=0) (by omega)),(b8 (x:=0) (by omega))⟩⟩⟩,(uz a h)⟩
theorem to{g gm:Nat}{c:Int}{C:ap}{w:World}(hcode:B8 c)(hC:ah w g C)(hm:w.heap[gm]? = some (.cells (mC c) 31 (0,0)))(hne:g≠gm) :
    Calls Tryz.prog 82 #[.agg #[.pointer (some ⟨g,0,none⟩),.pointer (some ⟨gm,0,none⟩)]] w (qy g gm (ck C 1968) (mG c 0 C.wordV (C.wordsC 1).wordV 0 0 0 0 0 0 0 0 nS nS nS nS 0 0 0 0 0 nS) w):=by
 obtain⟨hcode1,hcode2⟩:=hcode
 have hlen:=hC.len
 refine en 4 Tryz.func82 rfl<|sg<|L0<|cz #[.pointer (some ⟨g,0,none⟩),.pointer (some ⟨gm,0,none⟩)] fun i j k d a=>nt<|go<|L0<|bZ d<|?_
 have b:=ah.old hC a
 refine L0<|Oc<|m3 (km (most:=1968) ⟨hcode1,hcode2⟩ b (ub a hm) hne) fun l e f h=>?_
 have m:=(b).wordV
 have n:=dN (da (b).rng 1)
 refine nl<|rm (.tuple #[])<|?_
 have hs:ck C 1968=(ck C 1968):=by
   unfold ck my
   (try simp only[bs,if_true,if_false,decide_true,decide_false,reduceIte])
   all_goals rfl
 rw[hs]
 exact⟨rfl,e,f,(uz a h)⟩
theorem wZ{g gm:Nat}{c:Int}{C:ap}{w:World}(hcode:B8 c)(hC:ah w g C)(hm:w.heap[gm]? = some (.cells (mC c) 31 (0,0)))(hne:g≠gm) :
    Calls Tryz.prog 81 #[.agg #[.pointer (some ⟨g,0,none⟩),.pointer (some ⟨gm,0,none⟩)]] w (bT g gm (mM c C).1 (mM c C).2 w):=by
 obtain⟨hcode1,hcode2⟩:=hcode
 have hlen:=hC.len
 refine en 46 Tryz.func81 rfl<|sg<|L0<|cz #[.pointer (some ⟨g,0,none⟩),.pointer (some ⟨gm,0,none⟩)] fun o a3 F G f=>ng<|L0<|bZ G<|?_
 have t:=ah.old hC f
 refine L0<|Oc<|m3 (to ⟨hcode1,hcode2⟩ t (ub f hm) hne) fun a4 Q R p=>?_
 have a5:=(t).wordV
 have a6:=dN (da (t).rng 1)
 refine ng<|Pl 1<|?_
 have i:=nb (ah.lt hC) lr F
 have H:=ax.blk p (ae (Ne.symm i) (ae (Ne.symm (nb (al hm) lr F)) ay)) G
 refine L0<|aN H 0<|L0<|Oc<|m3 (bE Q) fun a7 S u a8=>L0<|Oi ((ck C 1968).byteV)<|Pl 1<|nt<|sq<|Rg 12 (fun w'=>w'.cell? ⟨o,0,none⟩=some (.pointer (some ⟨g,0,none⟩))∧w'.cell? ⟨o,1,none⟩=some (.pointer (some ⟨gm,0,none⟩))∧w'.cell? ⟨gm,3,none⟩=some (.int .u16 ((C.wordsC 1).wordV))) fun a9 q=>?_
 have v:=aE u q
 have j:=aY v (Ne.symm i) H
 have y:=aY v (Ne.symm hne) R
 refine aZ ⟨(aa j rfl),(aa j rfl),(aa y rfl)⟩ fun a=>Rt 0 a<|Rl 1 a (fun _ hs=>hs.1)<|Rt 2 a<|Rt 3 a<|Rl 4 a (fun _ hs=>hs.2.1)<|Rt 5 a<|Rt 6 a<|Rl 7 a (fun _ hs=>hs.2.2)<|Rr 8 a (.int .i64 ((C.wordsC 1).wordV)) (fun _ _=>cC (.int .i64 (IntKind.i64.wrap ((C.wordsC 1).wordV))) (by kernel_rfl) (congrArg (Value.int .i64) (i64_in (by omega))))<|R0 9 rfl<|Oc<|mq (iD (n:=(C.wordsC 1).wordV) (by omega))<|aZ ⟨(aa j rfl),(aa j rfl),(aa y rfl)⟩ fun T=>Rt 10 T<|?_
 refine R0 11 rfl<|Oc<|m2 (aU ((((ck C 1968).byteV)==(dY ((C.wordsC 1).wordV)))) 5 (ah.old S q)) fun ab U k=>?_
 have z:=aY k (Ne.symm i) j
 have I:=aY k (Ne.symm hne) y
 refine aZ ⟨(aa z rfl),(aa z rfl),(aa I rfl)⟩ fun ad=>re<|tn<|sq<|Rg 16 (fun w'=>w'.cell? ⟨o,0,none⟩=some (.pointer (some ⟨g,0,none⟩))∧w'.cell? ⟨o,1,none⟩=some (.pointer (some ⟨gm,0,none⟩))∧w'.cell? ⟨gm,3,none⟩=some (.int .u16 ((C.wordsC 1).wordV))) fun af d=>?_
 have A:=ub d z
 have J:=ub d I
 refine aZ ⟨(aa A rfl),(aa A rfl),(aa J rfl)⟩ fun b=>Rt 0 b<|Rl 1 b (fun _ hs=>hs.1)<|Rt 2 b<|Rt 4 b<|Rl 5 b (fun _ hs=>hs.2.1)<|Rt 6 b<|Rt 7 b<|Rl 8 b (fun _ hs=>hs.2.2)<|Rr 9 b (.int .i64 ((C.wordsC 1).wordV)) (fun _ _=>cC (.int .i64 (IntKind.i64.wrap ((C.wordsC 1).wordV))) (by kernel_rfl) (congrArg (Value.int .i64) (i64_in (by omega))))<|?_
 have K:=ah.old U d
 refine R0 3 rfl<|Oc<|tv (bS (n:=(ck C 1968).byteV) K) fun V W ag X ai am Y l=>?_
 have an:=Nat.le_trans (ap.bytesR_le (((ck C 1968).bytesC 1).need (((ck C 1968).byteV)==(dY ((C.wordsC 1).wordV))) 5) ((ck C 1968).byteV)) (ah.len K)
 have B:=aY l (Ne.symm i) A
 have L:=aY l (Ne.symm hne) J
 refine aZ ⟨(aa B rfl),(aa B rfl),(aa L rfl)⟩ fun ao=>R0 10 rfl<|Oc (args:=#[.slice V (((((ck C 1968).bytesC 1).need (((ck C 1968).byteV)==(dY ((C.wordsC 1).wordV))) 5).bytesR ((ck C 1968).byteV)).length) W,.int .i64 ((C.wordsC 1).wordV)])<|dE (pp X (by omega) (by omega) (by omega)) fun Z a0 ar D au av r=>?_
 have s:=ub r B
 have M:=ub r L
 refine aZ ⟨(aa s rfl),(aa s rfl),(aa M rfl)⟩ fun m=>Rt 11 m<|Rt 12 m<|Rt 13 m<|Rt 14 m<|Rt 15 m<|re<|tn<|sg<|Pl 1<|L0<|aN s 0<|Pl 1<|?_
 refine L0<|Oc<|m2 (aU ((dn ((((ck C 1968).bytesC 1).need (((ck C 1968).byteV)==(dY ((C.wordsC 1).wordV))) 5).bytesR ((ck C 1968).byteV)) ((C.wordsC 1).wordV)).isSome) 6 (ah.old Y r)) fun aw a1 E=>nt<|go<|Pl 1<|?_
 refine L0<|aN (aY E (Ne.symm i) s) 1<|Pl 3<|?_
 have N:=aY E (Ne.symm hne) M
 refine L0<|cn N 13 (mG c 0 C.wordV ((C.wordsC 1).wordV) 0 0 0 0 0 0 0 0 nS (.slice Z (((dn ((((ck C 1968).bytesC 1).need (((ck C 1968).byteV)==(dY ((C.wordsC 1).wordV))) 5).bytesR ((ck C 1968).byteV)) ((C.wordsC 1).wordV)).getD []).length) a0) nS nS 0 0 0 0 0 nS) fun az a2 O=>nl<|rm (.tuple #[])<|?_
 have P:=us E O
 have hs:mM c C=((((((ck C 1968).bytesC 1).need (((ck C 1968).byteV)==(dY ((C.wordsC 1).wordV))) 5).bytesC ((ck C 1968).byteV)).need ((dn ((((ck C 1968).bytesC 1).need (((ck C 1968).byteV)==(dY ((C.wordsC 1).wordV))) 5).bytesR ((ck C 1968).byteV)) ((C.wordsC 1).wordV)).isSome) 6),(aV.mk c 0 C.wordV ((C.wordsC 1).wordV) 0 0 0 0 0 0 0 0 [] ((dn ((((ck C 1968).bytesC 1).need (((ck C 1968).byteV)==(dY ((C.wordsC 1).wordV))) 5).bytesR ((ck C 1968).byteV)) ((C.wordsC 1).wordV)).getD []) [] [] 0 0 0 0 0 [])):=by
   unfold mM Bi Bf yd Ac Aa
   (try simp only[bs,if_true,if_false,decide_true,decide_false,reduceIte])
   all_goals rfl
 rw[hs]
 exact⟨rfl,(ah.upd a1 O (ae hne ay) (ak (aL N (by decide)) aD)),⟨_,⟨a2,rfl⟩,⟨_,_,_,_,_,rfl,aO.nil ..,((aj D P (fun x hx=>(ae (fun e=>(aB (ah.lt hC) (le (le (le (le (le (le f.size p.size) u.size) q.size) k.size) d.size) l.size) D) (e▸hx)) (ae (fun e=>(aB (al hm) (le (le (le (le (le (le f.size p.size) u.size) q.size) k.size) d.size) l.size) D) (e▸hx)) ay))) (fun _ _ h=>h))).rd,aO.nil ..,aO.nil ..,aO.nil ..,⟨(b8 (x:=c) (by omega)),(b8 (x:=0) (by omega)),(aK (x:=C.wordV) (by omega)),(aK (x:=(C.wordsC 1).wordV) (by omega)),(aK (x:=0) (by omega)),(aK (x:=0) (by omega)),(aK (x:=0) (by omega)),(aK (x:=0) (by omega)),(aK (x:=0) (by omega)),(aK (x:=0) (by omega)),(aK (x:=0) (by omega)),(aK (x:=0) (by omega)),(b8 (x:=0) (by omega)),(b8 (x:=0) (by omega)),(b8 (x:=0) (by omega)),(b8 (x:=0) (by omega)),(b8 (x:=0) (by omega))⟩⟩⟩,(uz f (ut p (ui v (ui k (uz d (ui l (uz r P))))) (ac im (ac im aq))))⟩
open Go.RowKit
theorem xG(c:Int) : c=1∨c=2∨c=5∨c=15∨(c≠1∧c≠2∧c≠5∧c≠15):=by omega
theorem l7{m:Bool}{A:Option Addr}{cp:Nat}{b:List Int}{w:World}{c:Int}(hcode:B8 c)(hsl:aQ m w (.slice A b.length cp) b)(hb:b.length≤1048576) :
    Calls Tryz.prog 58 #[.int .i64 0,.int .u8 c,.slice A b.length cp] w (dl (au aS 0 c b) w):=by
 obtain⟨hcode1,hcode2⟩:=hcode
 have hln:(b.length:Int)≤1048576:=by omega
 refine en 72 Tryz.func58 rfl<|sg<|L0<|bI mZ fun cE cF n k y=>Pl 1<|nt<|sq<|sg<|Pl 6<|nt<|c0<|?_
 refine bG<|sg<|Pl 2<|L0<|bI mZ fun a cG g o bA=>L0<|bf o (mC c) fun cH J p=>ng<|Pl 1<|?_
 have i:=ud bA p g
 have u:=aE y i
 refine L0<|Oc<|e3 (d9 (aQ.old hsl u) (by omega)) fun d cI f s z=>Pl 1<|L0<|bI #[.pointer none,.pointer none] fun cJ cK r ad bB=>L0<|bf ad #[.pointer (some ⟨d,0,none⟩),.pointer (some ⟨a,0,none⟩)] fun cL bC af=>ng<|L0<|wR fun cM cN ag bD aj=>?_
 have S:=ub aj bC
 refine L0<|bZ S<|Pl 1<|L0<|bZ S<|Pl 2<|L0<|fZ bD 1 fun cO bE am=>?_
 have t:=nb (al ad) af.size ag
 have T:=aY am t S
 refine L0<|bZ T<|Pl 1<|L0<|bZ T<|Pl 2<|L0<|fZ bE 2 fun cP bF an=>?_
 have U:=aY an t T
 refine L0<|bZ U<|Pl 1<|L0<|bZ U<|Pl 2<|L0<|fZ bF 5 fun cQ bH ao=>?_
 have v:=aY ao t U
 refine L0<|bZ v<|Pl 1<|L0<|bZ v<|Pl 2<|L0<|fZ bH 15 fun cR B C=>Pl 2<|ng<|Pl 2<|?_
 have D:=ud bB (aE af (ud aj (u1 am (u1 an (u1 ao C im) im) im) ag)) r
 have j:=aE z D
 have E:=aE u j
 rcases xG c with hk|hk|hk|hk|hk
 have k1:(c==1)=true:=by rw[hk];rfl
 have k2:(c==2)=false:=by rw[hk];rfl
 have k5:(c==5)=false:=by rw[hk];rfl
 have l:(c==15)=false:=by rw[hk];rfl
 refine L0<|mp (hf:=(by subst hk;kernel_rfl)) B c (.agg #[.nilFunc,.nilFunc]) (some (0,.agg #[.func (.func 78) #[.agg #[.pointer (some ⟨d,0,none⟩),.pointer (some ⟨a,0,none⟩)]] #[],.func (.func 79) #[.agg #[.pointer (some ⟨d,0,none⟩),.pointer (some ⟨a,0,none⟩)]] #[]]))<|Pl 3<|L0<|bI #[.nilFunc,.nilFunc] fun cS cT bJ bK bL=>L0<|bf bK #[.func (.func 78) #[.agg #[.pointer (some ⟨d,0,none⟩),.pointer (some ⟨a,0,none⟩)]] #[],.func (.func 79) #[.agg #[.pointer (some ⟨d,0,none⟩),.pointer (some ⟨a,0,none⟩)]] #[]] fun cV bM bN=>Pl 1<|nt<|sq<|sg<|Pl 2<|nt<|c0<|?_
 refine bG<|sg<|Pl 2<|L0<|aN bM 0<|?_
 have V:=ud bL bN bJ
 have ar:=aE j V
 have av:=nb (al o) p.size f
 refine L0<|fb #[.agg #[.pointer (some ⟨d,0,none⟩),.pointer (some ⟨a,0,none⟩)]] #[] (args:=#[.agg #[.pointer (some ⟨d,0,none⟩),.pointer (some ⟨a,0,none⟩)]])<|m3 (iw (c:=c) ⟨hcode1,hcode2⟩ (ah.old s (aE D V)) (ub ar J) (Ne.symm av)) fun cW bO bQ aw=>?_
 obtain⟨bR,K,W⟩:=bQ
 refine ab bO fun x89 az aB=>?_
 refine ng<|Pl 1<|?_
 have aC:=uz V aw
 have aG:=nb (ah.lt s) lr r
 have aH:=ax.blk (us C aC) (ae t (ae (Ne.symm aG) (ae (Ne.symm (nb (al o) (le p.size z.size) r)) ay))) v
 refine L0<|aN aH 0<|L0<|Oc<|m2 (bP aB) fun cX aI L=>nt<|sq<|sg<|Pl 1<|?_
 refine L0<|aN (aY L (Ne.symm aG) aH) 0<|L0<|Oc<|mq (bi aI)<|?_
 have cY:=ah.len aI
 refine Pl 1<|ng<|Pl 2<|nt<|?_
 have X:=u1 aC L im
 have aJ:=ut E X (ac (ni u.size f) (ac (ni y.size g) aq))
 refine cb ((x89.endC.e != 0)) (fun F=>?_) (fun F=>?_)
 have Y:=aA F
 refine sg<|Pl 2<|?_
 refine L0<|bf (ub (ud i (ud j X f) g) k) mZ fun cZ bS bT=>Pl 1<|nt<|rt<|tr<|cU bS (.int .i64 x89.endC.e)<|?_
 subst az
 have hs:au aS 0 c b=b6 ((dz 2000 c (ap.mk b false 0)).2) ((dz 2000 c (ap.mk b false 0)).1):=by
   unfold au aS
   (try simp only[F,bs,if_true,if_false,decide_true,decide_false,eq_self,true_or,or_true,or_false,false_or,if_true,if_false,dt,du,dv,dy,reduceIte,k1,k2,k5,l])
   all_goals rfl
 rw[hs]
 exact b9 Y (ud aJ bT n)
 have Y:=ai F
 refine bG<|sg<|?_
 refine L0<|bZ (hz:=(by rw[K.2];exact aT)) (aY L av K.1)<|?_
 refine L0<|bf (hz:=(by rw[K.2];exact aT)) (hv:=W.size) (h1:=W.one) (ub (ud i (ud j X f) g) k) (bR) fun d0 bU aK=>Pl 1<|nt<|rt<|eU 22 K.2 bU (.int .i64 0)<|?_
 subst az
 have hs:au aS 0 c b=b6 ((dz 2000 c (ap.mk b false 0)).2) ((dz 2000 c (ap.mk b false 0)).1):=by
   unfold au aS
   (try simp only[F,bs,if_true,if_false,decide_true,decide_false,eq_self,true_or,or_true,or_false,false_or,if_true,if_false,dt,du,dv,dy,reduceIte,k1,k2,k5,l])
   all_goals rfl
 rw[hs]
 exact bj Y (aF.upd W (us L aK) (ak (ah.safe aB _ (by decide)) (ak (aL (ub (ud i (ud ar aw f) g) k) (by decide)) aD))) (ud aJ aK n)
 have k1:(c==1)=false:=by rw[hk];rfl
 have k2:(c==2)=true:=by rw[hk];rfl
 have k5:(c==5)=false:=by rw[hk];rfl
 have l:(c==15)=false:=by rw[hk];rfl
 refine L0<|mp (hf:=(by subst hk;kernel_rfl)) B c (.agg #[.nilFunc,.nilFunc]) (some (1,.agg #[.func (.func 78) #[.agg #[.pointer (some ⟨d,0,none⟩),.pointer (some ⟨a,0,none⟩)]] #[],.func (.func 79) #[.agg #[.pointer (some ⟨d,0,none⟩),.pointer (some ⟨a,0,none⟩)]] #[]]))<|Pl 3<|L0<|bI #[.nilFunc,.nilFunc] fun d1 d2 bV bX bY=>L0<|bf bX #[.func (.func 78) #[.agg #[.pointer (some ⟨d,0,none⟩),.pointer (some ⟨a,0,none⟩)]] #[],.func (.func 79) #[.agg #[.pointer (some ⟨d,0,none⟩),.pointer (some ⟨a,0,none⟩)]] #[]] fun d3 c2 c3=>Pl 1<|nt<|sq<|sg<|Pl 2<|nt<|c0<|?_
 refine bG<|sg<|Pl 2<|L0<|aN c2 0<|?_
 have Z:=ud bY c3 bV
 have aM:=aE j Z
 have aO:=nb (al o) p.size f
 refine L0<|fb #[.agg #[.pointer (some ⟨d,0,none⟩),.pointer (some ⟨a,0,none⟩)]] #[] (args:=#[.agg #[.pointer (some ⟨d,0,none⟩),.pointer (some ⟨a,0,none⟩)]])<|m3 (iw (c:=c) ⟨hcode1,hcode2⟩ (ah.old s (aE D Z)) (ub aM J) (Ne.symm aO)) fun d4 c4 c5 aP=>?_
 obtain⟨c6,M,a0⟩:=c5
 refine ab c4 fun aR aU aW=>?_
 refine ng<|Pl 1<|?_
 have aX:=uz Z aP
 have aZ:=nb (ah.lt s) lr r
 have b0:=ax.blk (us C aX) (ae t (ae (Ne.symm aZ) (ae (Ne.symm (nb (al o) (le p.size z.size) r)) ay))) v
 refine L0<|aN b0 0<|L0<|Oc<|m2 (bP aW) fun d5 b1 N=>nt<|sq<|sg<|Pl 1<|?_
 refine L0<|aN (aY N (Ne.symm aZ) b0) 0<|L0<|Oc<|mq (bi b1)<|?_
 have d6:=ah.len b1
 refine Pl 1<|ng<|Pl 2<|nt<|?_
 have a1:=u1 aX N im
 have b2:=ut E a1 (ac (ni u.size f) (ac (ni y.size g) aq))
 refine cb ((aR.endC.e != 0)) (fun G=>?_) (fun G=>?_)
 have a2:=aA G
 refine sg<|Pl 2<|?_
 refine L0<|bf (ub (ud i (ud j a1 f) g) k) mZ fun d7 c7 c8=>Pl 1<|nt<|rt<|tr<|cU c7 (.int .i64 aR.endC.e)<|?_
 subst aU
 have hs:au aS 0 c b=b6 ((dz 2000 c (ap.mk b false 0)).2) ((dz 2000 c (ap.mk b false 0)).1):=by
   unfold au aS
   (try simp only[G,bs,if_true,if_false,decide_true,decide_false,eq_self,true_or,or_true,or_false,false_or,if_true,if_false,dt,du,dv,dy,reduceIte,k1,k2,k5,l])
   all_goals rfl
 rw[hs]
 exact b9 a2 (ud b2 c8 n)
 have a2:=ai G
 refine bG<|sg<|?_
 refine L0<|bZ (hz:=(by rw[M.2];exact aT)) (aY N aO M.1)<|?_
 refine L0<|bf (hz:=(by rw[M.2];exact aT)) (hv:=a0.size) (h1:=a0.one) (ub (ud i (ud j a1 f) g) k) (c6) fun d8 c9 b3=>Pl 1<|nt<|rt<|eU 22 M.2 c9 (.int .i64 0)<|?_
 subst aU
 have hs:au aS 0 c b=b6 ((dz 2000 c (ap.mk b false 0)).2) ((dz 2000 c (ap.mk b false 0)).1):=by
   unfold au aS
   (try simp only[G,bs,if_true,if_false,decide_true,decide_false,eq_self,true_or,or_true,or_false,false_or,if_true,if_false,dt,du,dv,dy,reduceIte,k1,k2,k5,l])
   all_goals rfl
 rw[hs]
 exact bj a2 (aF.upd a0 (us N b3) (ak (ah.safe aW _ (by decide)) (ak (aL (ub (ud i (ud aM aP f) g) k) (by decide)) aD))) (ud b2 b3 n)
 have k1:(c==1)=false:=by rw[hk];rfl
 have k2:(c==2)=false:=by rw[hk];rfl
 have k5:(c==5)=true:=by rw[hk];rfl
 have l:(c==15)=false:=by rw[hk];rfl
 refine L0<|mp (hf:=(by subst hk;kernel_rfl)) B c (.agg #[.nilFunc,.nilFunc]) (some (2,.agg #[.func (.func 80) #[.agg #[.pointer (some ⟨d,0,none⟩),.pointer (some ⟨a,0,none⟩)]] #[],.func (.func 80) #[.agg #[.pointer (some ⟨d,0,none⟩),.pointer (some ⟨a,0,none⟩)]] #[]]))<|Pl 3<|L0<|bI #[.nilFunc,.nilFunc] fun da db ca cc cd=>L0<|bf cc #[.func (.func 80) #[.agg #[.pointer (some ⟨d,0,none⟩),.pointer (some ⟨a,0,none⟩)]] #[],.func (.func 80) #[.agg #[.pointer (some ⟨d,0,none⟩),.pointer (some ⟨a,0,none⟩)]] #[]] fun dc ce cf=>Pl 1<|nt<|sq<|sg<|Pl 2<|nt<|c0<|?_
 refine bG<|sg<|Pl 2<|L0<|aN ce 0<|?_
 have a3:=ud cd cf ca
 have b4:=aE j a3
 have b5:=nb (al o) p.size f
 refine L0<|fb #[.agg #[.pointer (some ⟨d,0,none⟩),.pointer (some ⟨a,0,none⟩)]] #[] (args:=#[.agg #[.pointer (some ⟨d,0,none⟩),.pointer (some ⟨a,0,none⟩)]])<|m3 (lC (c:=c) ⟨hcode1,hcode2⟩ (ah.old s (aE D a3)) (ub b4 J) (Ne.symm b5)) fun dd cg ch b7=>?_
 obtain⟨ci,O,a4⟩:=ch
 refine ab cg fun b8 ba bb=>?_
 refine ng<|Pl 1<|?_
 have bc:=uz a3 b7
 have bd:=nb (ah.lt s) lr r
 have be:=ax.blk (us C bc) (ae t (ae (Ne.symm bd) (ae (Ne.symm (nb (al o) (le p.size z.size) r)) ay))) v
 refine L0<|aN be 0<|L0<|Oc<|m2 (bP bb) fun de bg P=>nt<|sq<|sg<|Pl 1<|?_
 refine L0<|aN (aY P (Ne.symm bd) be) 0<|L0<|Oc<|mq (bi bg)<|?_
 have df:=ah.len bg
 refine Pl 1<|ng<|Pl 2<|nt<|?_
 have a5:=u1 bc P im
 have bh:=ut E a5 (ac (ni u.size f) (ac (ni y.size g) aq))
 refine cb ((b8.endC.e != 0)) (fun H=>?_) (fun H=>?_)
 have a6:=aA H
 refine sg<|Pl 2<|?_
 refine L0<|bf (ub (ud i (ud j a5 f) g) k) mZ fun dg cj ck=>Pl 1<|nt<|rt<|tr<|cU cj (.int .i64 b8.endC.e)<|?_
 subst ba
 have hs:au aS 0 c b=b6 ((dK c (ap.mk b false 0)).2) ((dK c (ap.mk b false 0)).1):=by
   unfold au aS
   (try simp only[H,bs,if_true,if_false,decide_true,decide_false,eq_self,true_or,or_true,or_false,false_or,if_true,if_false,dt,du,dv,dy,reduceIte,k1,k2,k5,l])
   all_goals rfl
 rw[hs]
 exact b9 a6 (ud bh ck n)
 have a6:=ai H
 refine bG<|sg<|?_
 refine L0<|bZ (hz:=(by rw[O.2];exact aT)) (aY P b5 O.1)<|?_
 refine L0<|bf (hz:=(by rw[O.2];exact aT)) (hv:=a4.size) (h1:=a4.one) (ub (ud i (ud j a5 f) g) k) (ci) fun dh cl bk=>Pl 1<|nt<|rt<|eU 22 O.2 cl (.int .i64 0)<|?_
 subst ba
 have hs:au aS 0 c b=b6 ((dK c (ap.mk b false 0)).2) ((dK c (ap.mk b false 0)).1):=by
   unfold au aS
   (try simp only[H,bs,if_true,if_false,decide_true,decide_false,eq_self,true_or,or_true,or_false,false_or,if_true,if_false,dt,du,dv,dy,reduceIte,k1,k2,k5,l])
   all_goals rfl
 rw[hs]
 exact bj a6 (aF.upd a4 (us P bk) (ak (ah.safe bb _ (by decide)) (ak (aL (ub (ud i (ud b4 b7 f) g) k) (by decide)) aD))) (ud bh bk n)
 have k1:(c==1)=false:=by rw[hk];rfl
 have k2:(c==2)=false:=by rw[hk];rfl
 have k5:(c==5)=false:=by rw[hk];rfl
 have l:(c==15)=true:=by rw[hk];rfl
 refine L0<|mp (hf:=(by subst hk;kernel_rfl)) B c (.agg #[.nilFunc,.nilFunc]) (some (3,.agg #[.func (.func 81) #[.agg #[.pointer (some ⟨d,0,none⟩),.pointer (some ⟨a,0,none⟩)]] #[],.func (.func 82) #[.agg #[.pointer (some ⟨d,0,none⟩),.pointer (some ⟨a,0,none⟩)]] #[]]))<|Pl 3<|L0<|bI #[.nilFunc,.nilFunc] fun di dj cm cn co=>L0<|bf cn #[.func (.func 81) #[.agg #[.pointer (some ⟨d,0,none⟩),.pointer (some ⟨a,0,none⟩)]] #[],.func (.func 82) #[.agg #[.pointer (some ⟨d,0,none⟩),.pointer (some ⟨a,0,none⟩)]] #[]] fun dk cq cr=>Pl 1<|nt<|sq<|sg<|Pl 2<|nt<|c0<|?_
 refine bG<|sg<|Pl 2<|L0<|aN cq 0<|?_
 have a7:=ud co cr cm
 have bl:=aE j a7
 have bm:=nb (al o) p.size f
 refine L0<|fb #[.agg #[.pointer (some ⟨d,0,none⟩),.pointer (some ⟨a,0,none⟩)]] #[] (args:=#[.agg #[.pointer (some ⟨d,0,none⟩),.pointer (some ⟨a,0,none⟩)]])<|m3 (wZ (c:=c) ⟨hcode1,hcode2⟩ (ah.old s (aE D a7)) (ub bl J) (Ne.symm bm)) fun dm bn cs bo=>?_
 obtain⟨ct,Q,a8⟩:=cs
 refine ng<|Pl 1<|?_
 have bp:=uz a7 bo
 have bq:=nb (ah.lt s) lr r
 have br:=ax.blk (us C bp) (ae t (ae (Ne.symm bq) (ae (Ne.symm (nb (al o) (le p.size z.size) r)) ay))) v
 refine L0<|aN br 0<|L0<|Oc<|m2 (bP bn) fun dn cu R=>?_
 refine ab cu fun bt bu bv=>?_
 refine nt<|sq<|sg<|Pl 1<|?_
 refine L0<|aN (aY R (Ne.symm bq) br) 0<|L0<|Oc<|mq (bi bv)<|?_
 have dp:=ah.len bv
 refine Pl 1<|ng<|Pl 2<|nt<|?_
 have a9:=u1 bp R im
 have bw:=ut E a9 (ac (ni u.size f) (ac (ni y.size g) aq))
 refine cb ((bt.e != 0)) (fun I=>?_) (fun I=>?_)
 have aa:=aA I
 refine sg<|Pl 2<|?_
 refine L0<|bf (ub (ud i (ud j a9 f) g) k) mZ fun dq cv cw=>Pl 1<|nt<|rt<|tr<|cU cv (.int .i64 bt.e)<|?_
 subst bu
 have hs:au aS 0 c b=b6 ((mM c (ap.mk b false 0)).2) ((mM c (ap.mk b false 0)).1):=by
   unfold au aS
   (try simp only[I,bs,if_true,if_false,decide_true,decide_false,eq_self,true_or,or_true,or_false,false_or,if_true,if_false,dt,du,dv,dy,reduceIte,k1,k2,k5,l])
   all_goals rfl
 rw[hs]
 exact b9 aa (ud bw cw n)
 have aa:=ai I
 refine bG<|sg<|?_
 refine L0<|bZ (hz:=(by rw[Q.2];exact aT)) (aY R bm Q.1)<|?_
 refine L0<|bf (hz:=(by rw[Q.2];exact aT)) (hv:=a8.size) (h1:=a8.one) (ub (ud i (ud j a9 f) g) k) (ct) fun dr cx bx=>Pl 1<|nt<|rt<|eU 22 Q.2 cx (.int .i64 0)<|?_
 subst bu
 have hs:au aS 0 c b=b6 ((mM c (ap.mk b false 0)).2) ((mM c (ap.mk b false 0)).1):=by
   unfold au aS
   (try simp only[I,bs,if_true,if_false,decide_true,decide_false,eq_self,true_or,or_true,or_false,false_or,if_true,if_false,dt,du,dv,dy,reduceIte,k1,k2,k5,l])
   all_goals rfl
 rw[hs]
 exact bj aa (aF.upd a8 (us R bx) (ak (ah.safe bn _ (by decide)) (ak (aL (ub (ud i (ud bl bo f) g) k) (by decide)) aD))) (ud bw bx n)
 have k1:(c==1)=false:=by simpa using hk.1
 have k2:(c==2)=false:=by simpa using hk.2.1
 have k5:(c==5)=false:=by simpa using hk.2.2.1
 have l:(c==15)=false:=by simpa using hk.2.2.2
 refine L0<|mp (hf:=(A8 (q:=.u8) (x:=c) #[⟨.int .u8 1,.agg #[.func (.func 78) #[.agg #[.pointer (some ⟨d,0,none⟩),.pointer (some ⟨a,0,none⟩)]] #[],.func (.func 79) #[.agg #[.pointer (some ⟨d,0,none⟩),.pointer (some ⟨a,0,none⟩)]] #[]],0⟩,⟨.int .u8 2,.agg #[.func (.func 78) #[.agg #[.pointer (some ⟨d,0,none⟩),.pointer (some ⟨a,0,none⟩)]] #[],.func (.func 79) #[.agg #[.pointer (some ⟨d,0,none⟩),.pointer (some ⟨a,0,none⟩)]] #[]],1⟩,⟨.int .u8 5,.agg #[.func (.func 80) #[.agg #[.pointer (some ⟨d,0,none⟩),.pointer (some ⟨a,0,none⟩)]] #[],.func (.func 80) #[.agg #[.pointer (some ⟨d,0,none⟩),.pointer (some ⟨a,0,none⟩)]] #[]],2⟩,⟨.int .u8 15,.agg #[.func (.func 81) #[.agg #[.pointer (some ⟨d,0,none⟩),.pointer (some ⟨a,0,none⟩)]] #[],.func (.func 82) #[.agg #[.pointer (some ⟨d,0,none⟩),.pointer (some ⟨a,0,none⟩)]] #[]],3⟩] (eY _ _ (by intro e he;simp only[List.mem_cons,List.not_mem_nil,or_false] at he;obtain⟨z1,z2,z5,ds⟩:=hk;rcases he with rfl | rfl | rfl | rfl<;>exact⟨_,rfl,fun h=>by simp_all⟩)))) B c (.agg #[.nilFunc,.nilFunc]) none<|Pl 3<|L0<|bI #[.nilFunc,.nilFunc] fun dw dx cy cz cA=>L0<|bf cz #[.nilFunc,.nilFunc] fun dA dB cB=>Pl 1<|nt<|sq<|sg<|Pl 2<|nt<|c1<|?_
 refine sg<|Pl 1<|?_
 have bz:=ud cA cB cy
 refine L0<|bf (ub (aE i (aE j bz)) k) mZ fun dC cC cD=>Pl 1<|nt<|rt<|tr<|cU cC (.int .i64 4)<|?_
 have hs:au aS 0 c b=(aV.zero,4):=by
   unfold au aS
   (try simp only[bs,if_true,if_false,decide_true,decide_false,eq_self,true_or,or_true,or_false,false_or,if_true,if_false,dt,du,dv,dy,reduceIte,k1,k2,k5,l])
   all_goals rfl
 rw[hs]
 exact bW (ud E (uz bz cD) n)
theorem kU{m:Bool}{A:Option Addr}{cp:Nat}{b:List Int}{w:World}{c:Int}(hcode:B8 c)(hsl:aQ m w (.slice A b.length cp) b)(hb:b.length≤1048576) :
    Calls Tryz.prog 58 #[.int .i64 1,.int .u8 c,.slice A b.length cp] w (dl (au aS 1 c b) w):=by
 obtain⟨hcode1,hcode2⟩:=hcode
 have hln:(b.length:Int)≤1048576:=by omega
 refine en 72 Tryz.func58 rfl<|sg<|L0<|bI mZ fun cE cF n k y=>Pl 1<|nt<|sq<|sg<|Pl 6<|nt<|c0<|?_
 refine bG<|sg<|Pl 2<|L0<|bI mZ fun a cG g o bA=>L0<|bf o (mC c) fun cH J p=>ng<|Pl 1<|?_
 have i:=ud bA p g
 have u:=aE y i
 refine L0<|Oc<|e3 (d9 (aQ.old hsl u) (by omega)) fun d cI f s z=>Pl 1<|L0<|bI #[.pointer none,.pointer none] fun cJ cK r ad bB=>L0<|bf ad #[.pointer (some ⟨d,0,none⟩),.pointer (some ⟨a,0,none⟩)] fun cL bC af=>ng<|L0<|wR fun cM cN ag bD aj=>?_
 have S:=ub aj bC
 refine L0<|bZ S<|Pl 1<|L0<|bZ S<|Pl 2<|L0<|fZ bD 1 fun cO bE am=>?_
 have t:=nb (al ad) af.size ag
 have T:=aY am t S
 refine L0<|bZ T<|Pl 1<|L0<|bZ T<|Pl 2<|L0<|fZ bE 2 fun cP bF an=>?_
 have U:=aY an t T
 refine L0<|bZ U<|Pl 1<|L0<|bZ U<|Pl 2<|L0<|fZ bF 5 fun cQ bH ao=>?_
 have v:=aY ao t U
 refine L0<|bZ v<|Pl 1<|L0<|bZ v<|Pl 2<|L0<|fZ bH 15 fun cR B C=>Pl 2<|ng<|Pl 2<|?_
 have D:=ud bB (aE af (ud aj (u1 am (u1 an (u1 ao C im) im) im) ag)) r
 have j:=aE z D
 have E:=aE u j
 rcases xG c with hk|hk|hk|hk|hk
 have k1:(c==1)=true:=by rw[hk];rfl
 have k2:(c==2)=false:=by rw[hk];rfl
 have k5:(c==5)=false:=by rw[hk];rfl
 have l:(c==15)=false:=by rw[hk];rfl
 refine L0<|mp (hf:=(by subst hk;kernel_rfl)) B c (.agg #[.nilFunc,.nilFunc]) (some (0,.agg #[.func (.func 78) #[.agg #[.pointer (some ⟨d,0,none⟩),.pointer (some ⟨a,0,none⟩)]] #[],.func (.func 79) #[.agg #[.pointer (some ⟨d,0,none⟩),.pointer (some ⟨a,0,none⟩)]] #[]]))<|Pl 3<|L0<|bI #[.nilFunc,.nilFunc] fun cS cT bJ bK bL=>L0<|bf bK #[.func (.func 78) #[.agg #[.pointer (some ⟨d,0,none⟩),.pointer (some ⟨a,0,none⟩)]] #[],.func (.func 79) #[.agg #[.pointer (some ⟨d,0,none⟩),.pointer (some ⟨a,0,none⟩)]] #[]] fun cV bM bN=>Pl 1<|nt<|sq<|sg<|Pl 2<|nt<|c0<|?_
 refine bG<|sg<|Pl 2<|L0<|aN bM 1<|?_
 have V:=ud bL bN bJ
 have ar:=aE j V
 have av:=nb (al o) p.size f
 refine L0<|fb #[.agg #[.pointer (some ⟨d,0,none⟩),.pointer (some ⟨a,0,none⟩)]] #[] (args:=#[.agg #[.pointer (some ⟨d,0,none⟩),.pointer (some ⟨a,0,none⟩)]])<|m3 (m9 (c:=c) ⟨hcode1,hcode2⟩ (ah.old s (aE D V)) (ub ar J) (Ne.symm av)) fun cW bO bQ aw=>?_
 obtain⟨bR,K,W⟩:=bQ
 refine ab bO fun x89 az aB=>?_
 refine ng<|Pl 1<|?_
 have aC:=uz V aw
 have aG:=nb (ah.lt s) lr r
 have aH:=ax.blk (us C aC) (ae t (ae (Ne.symm aG) (ae (Ne.symm (nb (al o) (le p.size z.size) r)) ay))) v
 refine L0<|aN aH 0<|L0<|Oc<|m2 (bP aB) fun cX aI L=>nt<|sq<|sg<|Pl 1<|?_
 refine L0<|aN (aY L (Ne.symm aG) aH) 0<|L0<|Oc<|mq (bi aI)<|?_
 have cY:=ah.len aI
 refine Pl 1<|ng<|Pl 2<|nt<|?_
 have X:=u1 aC L im
 have aJ:=ut E X (ac (ni u.size f) (ac (ni y.size g) aq))
 refine cb ((x89.endC.e != 0)) (fun F=>?_) (fun F=>?_)
 have Y:=aA F
 refine sg<|Pl 2<|?_
 refine L0<|bf (ub (ud i (ud j X f) g) k) mZ fun cZ bS bT=>Pl 1<|nt<|rt<|tr<|cU bS (.int .i64 x89.endC.e)<|?_
 subst az
 have hs:au aS 1 c b=b6 ((eg c (ap.mk b false 0)).2) ((eg c (ap.mk b false 0)).1):=by
   unfold au aS
   (try simp only[F,bs,if_true,if_false,decide_true,decide_false,eq_self,true_or,or_true,or_false,false_or,if_true,if_false,dt,du,dv,dy,reduceIte,k1,k2,k5,l])
   all_goals rfl
 rw[hs]
 exact b9 Y (ud aJ bT n)
 have Y:=ai F
 refine bG<|sg<|?_
 refine L0<|bZ (hz:=(by rw[K.2];exact aT)) (aY L av K.1)<|?_
 refine L0<|bf (hz:=(by rw[K.2];exact aT)) (hv:=W.size) (h1:=W.one) (ub (ud i (ud j X f) g) k) (bR) fun d0 bU aK=>Pl 1<|nt<|rt<|eU 22 K.2 bU (.int .i64 0)<|?_
 subst az
 have hs:au aS 1 c b=b6 ((eg c (ap.mk b false 0)).2) ((eg c (ap.mk b false 0)).1):=by
   unfold au aS
   (try simp only[F,bs,if_true,if_false,decide_true,decide_false,eq_self,true_or,or_true,or_false,false_or,if_true,if_false,dt,du,dv,dy,reduceIte,k1,k2,k5,l])
   all_goals rfl
 rw[hs]
 exact bj Y (aF.upd W (us L aK) (ak (ah.safe aB _ (by decide)) (ak (aL (ub (ud i (ud ar aw f) g) k) (by decide)) aD))) (ud aJ aK n)
 have k1:(c==1)=false:=by rw[hk];rfl
 have k2:(c==2)=true:=by rw[hk];rfl
 have k5:(c==5)=false:=by rw[hk];rfl
 have l:(c==15)=false:=by rw[hk];rfl
 refine L0<|mp (hf:=(by subst hk;kernel_rfl)) B c (.agg #[.nilFunc,.nilFunc]) (some (1,.agg #[.func (.func 78) #[.agg #[.pointer (some ⟨d,0,none⟩),.pointer (some ⟨a,0,none⟩)]] #[],.func (.func 79) #[.agg #[.pointer (some ⟨d,0,none⟩),.pointer (some ⟨a,0,none⟩)]] #[]]))<|Pl 3<|L0<|bI #[.nilFunc,.nilFunc] fun d1 d2 bV bX bY=>L0<|bf bX #[.func (.func 78) #[.agg #[.pointer (some ⟨d,0,none⟩),.pointer (some ⟨a,0,none⟩)]] #[],.func (.func 79) #[.agg #[.pointer (some ⟨d,0,none⟩),.pointer (some ⟨a,0,none⟩)]] #[]] fun d3 c2 c3=>Pl 1<|nt<|sq<|sg<|Pl 2<|nt<|c0<|?_
 refine bG<|sg<|Pl 2<|L0<|aN c2 1<|?_
 have Z:=ud bY c3 bV
 have aM:=aE j Z
 have aO:=nb (al o) p.size f
 refine L0<|fb #[.agg #[.pointer (some ⟨d,0,none⟩),.pointer (some ⟨a,0,none⟩)]] #[] (args:=#[.agg #[.pointer (some ⟨d,0,none⟩),.pointer (some ⟨a,0,none⟩)]])<|m3 (m9 (c:=c) ⟨hcode1,hcode2⟩ (ah.old s (aE D Z)) (ub aM J) (Ne.symm aO)) fun d4 c4 c5 aP=>?_
 obtain⟨c6,M,a0⟩:=c5
 refine ab c4 fun aR aU aW=>?_
 refine ng<|Pl 1<|?_
 have aX:=uz Z aP
 have aZ:=nb (ah.lt s) lr r
 have b0:=ax.blk (us C aX) (ae t (ae (Ne.symm aZ) (ae (Ne.symm (nb (al o) (le p.size z.size) r)) ay))) v
 refine L0<|aN b0 0<|L0<|Oc<|m2 (bP aW) fun d5 b1 N=>nt<|sq<|sg<|Pl 1<|?_
 refine L0<|aN (aY N (Ne.symm aZ) b0) 0<|L0<|Oc<|mq (bi b1)<|?_
 have d6:=ah.len b1
 refine Pl 1<|ng<|Pl 2<|nt<|?_
 have a1:=u1 aX N im
 have b2:=ut E a1 (ac (ni u.size f) (ac (ni y.size g) aq))
 refine cb ((aR.endC.e != 0)) (fun G=>?_) (fun G=>?_)
 have a2:=aA G
 refine sg<|Pl 2<|?_
 refine L0<|bf (ub (ud i (ud j a1 f) g) k) mZ fun d7 c7 c8=>Pl 1<|nt<|rt<|tr<|cU c7 (.int .i64 aR.endC.e)<|?_
 subst aU
 have hs:au aS 1 c b=b6 ((eg c (ap.mk b false 0)).2) ((eg c (ap.mk b false 0)).1):=by
   unfold au aS
   (try simp only[G,bs,if_true,if_false,decide_true,decide_false,eq_self,true_or,or_true,or_false,false_or,if_true,if_false,dt,du,dv,dy,reduceIte,k1,k2,k5,l])
   all_goals rfl
 rw[hs]
 exact b9 a2 (ud b2 c8 n)
 have a2:=ai G
 refine bG<|sg<|?_
 refine L0<|bZ (hz:=(by rw[M.2];exact aT)) (aY N aO M.1)<|?_
 refine L0<|bf (hz:=(by rw[M.2];exact aT)) (hv:=a0.size) (h1:=a0.one) (ub (ud i (ud j a1 f) g) k) (c6) fun d8 c9 b3=>Pl 1<|nt<|rt<|eU 22 M.2 c9 (.int .i64 0)<|?_
 subst aU
 have hs:au aS 1 c b=b6 ((eg c (ap.mk b false 0)).2) ((eg c (ap.mk b false 0)).1):=by
   unfold au aS
   (try simp only[G,bs,if_true,if_false,decide_true,decide_false,eq_self,true_or,or_true,or_false,false_or,if_true,if_false,dt,du,dv,dy,reduceIte,k1,k2,k5,l])
   all_goals rfl
 rw[hs]
 exact bj a2 (aF.upd a0 (us N b3) (ak (ah.safe aW _ (by decide)) (ak (aL (ub (ud i (ud aM aP f) g) k) (by decide)) aD))) (ud b2 b3 n)
 have k1:(c==1)=false:=by rw[hk];rfl
 have k2:(c==2)=false:=by rw[hk];rfl
 have k5:(c==5)=true:=by rw[hk];rfl
 have l:(c==15)=false:=by rw[hk];rfl
 refine L0<|mp (hf:=(by subst hk;kernel_rfl)) B c (.agg #[.nilFunc,.nilFunc]) (some (2,.agg #[.func (.func 80) #[.agg #[.pointer (some ⟨d,0,none⟩),.pointer (some ⟨a,0,none⟩)]] #[],.func (.func 80) #[.agg #[.pointer (some ⟨d,0,none⟩),.pointer (some ⟨a,0,none⟩)]] #[]]))<|Pl 3<|L0<|bI #[.nilFunc,.nilFunc] fun da db ca cc cd=>L0<|bf cc #[.func (.func 80) #[.agg #[.pointer (some ⟨d,0,none⟩),.pointer (some ⟨a,0,none⟩)]] #[],.func (.func 80) #[.agg #[.pointer (some ⟨d,0,none⟩),.pointer (some ⟨a,0,none⟩)]] #[]] fun dc ce cf=>Pl 1<|nt<|sq<|sg<|Pl 2<|nt<|c0<|?_
 refine bG<|sg<|Pl 2<|L0<|aN ce 1<|?_
 have a3:=ud cd cf ca
 have b4:=aE j a3
 have b5:=nb (al o) p.size f
 refine L0<|fb #[.agg #[.pointer (some ⟨d,0,none⟩),.pointer (some ⟨a,0,none⟩)]] #[] (args:=#[.agg #[.pointer (some ⟨d,0,none⟩),.pointer (some ⟨a,0,none⟩)]])<|m3 (lC (c:=c) ⟨hcode1,hcode2⟩ (ah.old s (aE D a3)) (ub b4 J) (Ne.symm b5)) fun dd cg ch b7=>?_
 obtain⟨ci,O,a4⟩:=ch
 refine ab cg fun b8 ba bb=>?_
 refine ng<|Pl 1<|?_
 have bc:=uz a3 b7
 have bd:=nb (ah.lt s) lr r
 have be:=ax.blk (us C bc) (ae t (ae (Ne.symm bd) (ae (Ne.symm (nb (al o) (le p.size z.size) r)) ay))) v
 refine L0<|aN be 0<|L0<|Oc<|m2 (bP bb) fun de bg P=>nt<|sq<|sg<|Pl 1<|?_
 refine L0<|aN (aY P (Ne.symm bd) be) 0<|L0<|Oc<|mq (bi bg)<|?_
 have df:=ah.len bg
 refine Pl 1<|ng<|Pl 2<|nt<|?_
 have a5:=u1 bc P im
 have bh:=ut E a5 (ac (ni u.size f) (ac (ni y.size g) aq))
 refine cb ((b8.endC.e != 0)) (fun H=>?_) (fun H=>?_)
 have a6:=aA H
 refine sg<|Pl 2<|?_
 refine L0<|bf (ub (ud i (ud j a5 f) g) k) mZ fun dg cj ck=>Pl 1<|nt<|rt<|tr<|cU cj (.int .i64 b8.endC.e)<|?_
 subst ba
 have hs:au aS 1 c b=b6 ((dK c (ap.mk b false 0)).2) ((dK c (ap.mk b false 0)).1):=by
   unfold au aS
   (try simp only[H,bs,if_true,if_false,decide_true,decide_false,eq_self,true_or,or_true,or_false,false_or,if_true,if_false,dt,du,dv,dy,reduceIte,k1,k2,k5,l])
   all_goals rfl
 rw[hs]
 exact b9 a6 (ud bh ck n)
 have a6:=ai H
 refine bG<|sg<|?_
 refine L0<|bZ (hz:=(by rw[O.2];exact aT)) (aY P b5 O.1)<|?_
 refine L0<|bf (hz:=(by rw[O.2];exact aT)) (hv:=a4.size) (h1:=a4.one) (ub (ud i (ud j a5 f) g) k) (ci) fun dh cl bk=>Pl 1<|nt<|rt<|eU 22 O.2 cl (.int .i64 0)<|?_
 subst ba
 have hs:au aS 1 c b=b6 ((dK c (ap.mk b false 0)).2) ((dK c (ap.mk b false 0)).1):=by
   unfold au aS
   (try simp only[H,bs,if_true,if_false,decide_true,decide_false,eq_self,true_or,or_true,or_false,false_or,if_true,if_false,dt,du,dv,dy,reduceIte,k1,k2,k5,l])
   all_goals rfl
 rw[hs]
 exact bj a6 (aF.upd a4 (us P bk) (ak (ah.safe bb _ (by decide)) (ak (aL (ub (ud i (ud b4 b7 f) g) k) (by decide)) aD))) (ud bh bk n)
 have k1:(c==1)=false:=by rw[hk];rfl
 have k2:(c==2)=false:=by rw[hk];rfl
 have k5:(c==5)=false:=by rw[hk];rfl
 have l:(c==15)=true:=by rw[hk];rfl
 refine L0<|mp (hf:=(by subst hk;kernel_rfl)) B c (.agg #[.nilFunc,.nilFunc]) (some (3,.agg #[.func (.func 81) #[.agg #[.pointer (some ⟨d,0,none⟩),.pointer (some ⟨a,0,none⟩)]] #[],.func (.func 82) #[.agg #[.pointer (some ⟨d,0,none⟩),.pointer (some ⟨a,0,none⟩)]] #[]]))<|Pl 3<|L0<|bI #[.nilFunc,.nilFunc] fun di dj cm cn co=>L0<|bf cn #[.func (.func 81) #[.agg #[.pointer (some ⟨d,0,none⟩),.pointer (some ⟨a,0,none⟩)]] #[],.func (.func 82) #[.agg #[.pointer (some ⟨d,0,none⟩),.pointer (some ⟨a,0,none⟩)]] #[]] fun dk cq cr=>Pl 1<|nt<|sq<|sg<|Pl 2<|nt<|c0<|?_
 refine bG<|sg<|Pl 2<|L0<|aN cq 1<|?_
 have a7:=ud co cr cm
 have bl:=aE j a7
 have bm:=nb (al o) p.size f
 refine L0<|fb #[.agg #[.pointer (some ⟨d,0,none⟩),.pointer (some ⟨a,0,none⟩)]] #[] (args:=#[.agg #[.pointer (some ⟨d,0,none⟩),.pointer (some ⟨a,0,none⟩)]])<|m3 (vC (c:=c) ⟨hcode1,hcode2⟩ (ah.old s (aE D a7)) (ub bl J) (Ne.symm bm)) fun dm cs ct bn=>?_
 obtain⟨cu,Q,a8⟩:=ct
 refine ab cs fun bo bp bq=>?_
 refine ng<|Pl 1<|?_
 have br:=uz a7 bn
 have bt:=nb (ah.lt s) lr r
 have bu:=ax.blk (us C br) (ae t (ae (Ne.symm bt) (ae (Ne.symm (nb (al o) (le p.size z.size) r)) ay))) v
 refine L0<|aN bu 0<|L0<|Oc<|m2 (bP bq) fun dn bv R=>nt<|sq<|sg<|Pl 1<|?_
 refine L0<|aN (aY R (Ne.symm bt) bu) 0<|L0<|Oc<|mq (bi bv)<|?_
 have dp:=ah.len bv
 refine Pl 1<|ng<|Pl 2<|nt<|?_
 have a9:=u1 br R im
 have bw:=ut E a9 (ac (ni u.size f) (ac (ni y.size g) aq))
 refine cb ((bo.endC.e != 0)) (fun I=>?_) (fun I=>?_)
 have aa:=aA I
 refine sg<|Pl 2<|?_
 refine L0<|bf (ub (ud i (ud j a9 f) g) k) mZ fun dq cv cw=>Pl 1<|nt<|rt<|tr<|cU cv (.int .i64 bo.endC.e)<|?_
 subst bp
 have hs:au aS 1 c b=b6 ((dz 1968 c (ap.mk b false 0)).2) ((dz 1968 c (ap.mk b false 0)).1):=by
   unfold au aS
   (try simp only[I,bs,if_true,if_false,decide_true,decide_false,eq_self,true_or,or_true,or_false,false_or,if_true,if_false,dt,du,dv,dy,reduceIte,k1,k2,k5,l])
   all_goals rfl
 rw[hs]
 exact b9 aa (ud bw cw n)
 have aa:=ai I
 refine bG<|sg<|?_
 refine L0<|bZ (hz:=(by rw[Q.2];exact aT)) (aY R bm Q.1)<|?_
 refine L0<|bf (hz:=(by rw[Q.2];exact aT)) (hv:=a8.size) (h1:=a8.one) (ub (ud i (ud j a9 f) g) k) (cu) fun dr cx bx=>Pl 1<|nt<|rt<|eU 22 Q.2 cx (.int .i64 0)<|?_
 subst bp
 have hs:au aS 1 c b=b6 ((dz 1968 c (ap.mk b false 0)).2) ((dz 1968 c (ap.mk b false 0)).1):=by
   unfold au aS
   (try simp only[I,bs,if_true,if_false,decide_true,decide_false,eq_self,true_or,or_true,or_false,false_or,if_true,if_false,dt,du,dv,dy,reduceIte,k1,k2,k5,l])
   all_goals rfl
 rw[hs]
 exact bj aa (aF.upd a8 (us R bx) (ak (ah.safe bq _ (by decide)) (ak (aL (ub (ud i (ud bl bn f) g) k) (by decide)) aD))) (ud bw bx n)
 have k1:(c==1)=false:=by simpa using hk.1
 have k2:(c==2)=false:=by simpa using hk.2.1
 have k5:(c==5)=false:=by simpa using hk.2.2.1
 have l:(c==15)=false:=by simpa using hk.2.2.2
 refine L0<|mp (hf:=(A8 (q:=.u8) (x:=c) #[⟨.int .u8 1,.agg #[.func (.func 78) #[.agg #[.pointer (some ⟨d,0,none⟩),.pointer (some ⟨a,0,none⟩)]] #[],.func (.func 79) #[.agg #[.pointer (some ⟨d,0,none⟩),.pointer (some ⟨a,0,none⟩)]] #[]],0⟩,⟨.int .u8 2,.agg #[.func (.func 78) #[.agg #[.pointer (some ⟨d,0,none⟩),.pointer (some ⟨a,0,none⟩)]] #[],.func (.func 79) #[.agg #[.pointer (some ⟨d,0,none⟩),.pointer (some ⟨a,0,none⟩)]] #[]],1⟩,⟨.int .u8 5,.agg #[.func (.func 80) #[.agg #[.pointer (some ⟨d,0,none⟩),.pointer (some ⟨a,0,none⟩)]] #[],.func (.func 80) #[.agg #[.pointer (some ⟨d,0,none⟩),.pointer (some ⟨a,0,none⟩)]] #[]],2⟩,⟨.int .u8 15,.agg #[.func (.func 81) #[.agg #[.pointer (some ⟨d,0,none⟩),.pointer (some ⟨a,0,none⟩)]] #[],.func (.func 82) #[.agg #[.pointer (some ⟨d,0,none⟩),.pointer (some ⟨a,0,none⟩)]] #[]],3⟩] (eY _ _ (by intro e he;simp only[List.mem_cons,List.not_mem_nil,or_false] at he;obtain⟨z1,z2,z5,ds⟩:=hk;rcases he with rfl | rfl | rfl | rfl<;>exact⟨_,rfl,fun h=>by simp_all⟩)))) B c (.agg #[.nilFunc,.nilFunc]) none<|Pl 3<|L0<|bI #[.nilFunc,.nilFunc] fun dw dx cy cz cA=>L0<|bf cz #[.nilFunc,.nilFunc] fun dA dB cB=>Pl 1<|nt<|sq<|sg<|Pl 2<|nt<|c1<|?_
 refine sg<|Pl 1<|?_
 have bz:=ud cA cB cy
 refine L0<|bf (ub (aE i (aE j bz)) k) mZ fun dC cC cD=>Pl 1<|nt<|rt<|tr<|cU cC (.int .i64 4)<|?_
 have hs:au aS 1 c b=(aV.zero,4):=by
   unfold au aS
   (try simp only[bs,if_true,if_false,decide_true,decide_false,eq_self,true_or,or_true,or_false,false_or,if_true,if_false,dt,du,dv,dy,reduceIte,k1,k2,k5,l])
   all_goals rfl
 rw[hs]
 exact bW (ud E (uz bz cD) n)
theorem kX{m:Bool}{A:Option Addr}{cp:Nat}{b:List Int}{w:World}{dir c:Int}(hcode:B8 c)(hsl:aQ m w (.slice A b.length cp) b)(hb:b.length≤1048576)(hd:¬ (dir=0∨dir=1)) :
    Calls Tryz.prog 58 #[.int .i64 dir,.int .u8 c,.slice A b.length cp] w (dl (au aS dir c b) w):=by
 obtain⟨hcode1,hcode2⟩:=hcode
 have hln:(b.length:Int)≤1048576:=by omega
 have e0:(dir != 0)=true:=by simp;omega
 have e1:(dir != 1)=true:=by simp;omega
 refine en 72 Tryz.func58 rfl<|sg<|L0<|bI mZ fun g h a d e=>Pl 1<|nt<|sq<|sg<|Pl 3<|sy 16 e0<|Pl 3<|nl<|?_
 refine tn<|ct e1<|sg<|Pl 1<|L0<|bf d mZ fun i db f=>Pl 1<|nt<|rt<|tr<|cU db (.int .i64 1)<|?_
 have hs:au aS dir c b=(aV.zero,1):=by
   unfold au aS
   (try simp only[e0,e1,bs,if_true,if_false,decide_true,decide_false,eq_self,true_or,or_true,or_false,false_or,if_true,if_false,dt,du,dv,dy,reduceIte,hd])
   all_goals rfl
 rw[hs]
 exact bW (ud e f a)
theorem ju{m:Bool}{v:Value}{b:List Int}{w:World}{dir c:Int}(hc:B8 c)(h:aQ m w v b)(hb:b.length≤1048576) :
    Calls Tryz.prog 58 #[.int .i64 dir,.int .u8 c,v] w (dl (au aS dir c b) w):=by
  obtain⟨A,cp,rfl,_,_⟩:=h.shape
  by_cases h0:dir=0
  · subst h0;exact l7 hc h hb
  by_cases h1:dir=1
  · subst h1;exact kU hc h hb
  exact kX hc h hb (by omega)
open Go.RowKit
def dD (c:ap) : ap:=(c.wordsC 1).need (c.wordV==0 || c.wordV==65535) 6
theorem yS{v:Int}(h:0≤v∧v<65536) : bits .and .u16 v 255=v%256:=by
  rw[u16_and v 255 h.1 h.2 (by decide) (by decide)]
  show((v.toNat &&& (2 ^ 8-1) : Nat) : Int)=_
  rw[Nat.and_two_pow_sub_one_eq_mod]
  omega
def io (dir sub v:Int) : Bool:=if (sub==2 || (decide (11≤sub)&&decide (sub≤18)))&&dir==1 then true else if sub==1 then v==0 || v==65280 else if sub==3 then v%256==0 else v==0
theorem oB{g:Nat}{c:ap}{w:World}(hc:ah w g c) :
    Calls Tryz.prog 123 #[.pointer (some ⟨g,0,none⟩)] w (lP g .u16 65536 c.wordV (dD c) w):=by
 have hr:=hc.wordV
 refine en 15 Tryz.func123 rfl<|sg<|Pl 1<|ng<|Pl 1<|L0<|Oc<|m3 (bD hc) fun l d e m=>Pl 1<|nt<|sq<|?_
 refine go<|Pl 4<|cu 3 [9] 12 (((c.wordV==0)||(c.wordV==65535))) (fun K b=>?_) ?_
 refine bl 9 ((c.wordV==0)) (fun a=>?_) (fun a=>?_)
 have f:=az a
 exact Pl 3<|ce b true (by rw[a];rfl)
 have f:=aC a
 exact Pl 3<|ce b (c.wordV==65535) (by rw[a];rfl)
 refine L0<|Oc<|m2 (aU (((c.wordV==0)||(c.wordV==65535))) 6 d) fun n h i=>?_
 refine ab h fun x19 j k=>?_
 refine ng<|Pl 2<|nt<|rt<|rr (.int .u16 c.wordV)<|?_
 subst j
 exact⟨rfl,k,(u1 e i im),hr⟩
theorem vu{v:Int}{w:World}:Calls Tryz.prog 137 #[.int .u16 v] w (bv (.bool (v==0 || v==65280)) w):=by
 refine en 9 Tryz.func137 rfl<|sg<|Pl 1<|ng<|Pl 3<|cu 3 [5] 8 (((v==0)||(v==65280))) (fun K b=>?_) ?_
 refine bl 5 ((v==0)) (fun a=>?_) (fun a=>?_)
 have c:=az a
 exact Pl 3<|ce b true (by rw[a];rfl)
 have c:=aC a
 exact Pl 3<|ce b (v==65280) (by rw[a];rfl)
 refine Pl 1<|nt<|rt<|rr (.bool ((v==0)||(v==65280)))<|?_
 exact⟨rfl,(ax.refl [] _)⟩
theorem u0{v:Int}{w:World}(hv:0≤v∧v<65536) : Calls Tryz.prog 138 #[.int .u16 v] w (bv (.bool (v%256==0)) w):=by
 refine en 6 Tryz.func138 rfl<|sg<|Pl 1<|ng<|Pl 1<|L0<|Oe (.int .u16 (bits .and .u16 v 255)) (.int .u16 (v%256)) (congrArg (Value.int .u16) (yS (by omega)))<|Pl 2<|nt<|rt<|?_
 refine rr (.bool ((v%256)==0))<|?_
 exact⟨rfl,(ax.refl [] _)⟩
theorem uC{v x:Int}{gb:Nat}{w:World}(hB:w.heap[gb]? = some (.cells #[.int .u16 v] 22 (0,0))) : Calls Tryz.prog 136 #[.int .u16 x,.pointer (some ⟨gb,0,none⟩)] w (bv (.bool (v==0)) w):=by
 refine en 6 Tryz.func136 rfl<|sg<|Pl 1<|ng<|L0<|aN hB 0<|Pl 2<|nt<|rt<|rr (.bool (v==0))<|?_
 exact⟨rfl,(ax.refl [] _)⟩
theorem zq{dir v:Int}{w:World}(hv:0≤v∧v<65536) : Calls Tryz.prog 122 #[.int .i64 dir,.int .u16 1,.int .u16 v] w (bv (.bool (io dir 1 v)) w):=by
 refine en 42 Tryz.func122 rfl<|sg<|L0<|cz #[.int .u16 v] fun l m n b c=>Pl 1<|ng<|Pl 2<|ng<|?_
 refine L0<|wR fun o p d e f=>L0<|fZ e 1 fun q g h=>L0<|fZ g 3 fun r i j=>Pl 2<|ng<|Pl 11<|nt<|sq<|sg<|?_
 refine Pl 5<|nt<|c0<|bG<|sg<|Pl 2<|L0<|mp i 1 (.nilFunc) (some (0,.func (.func 137) #[] #[]))<|Pl 5<|nt<|sq<|?_
 refine sg<|Pl 2<|nt<|c0<|bG<|sg<|Pl 1<|?_
 have a:=ud f (u1 h j im) d
 refine L0<|aN (ub a b) 0<|L0<|fb #[] #[] (args:=#[.int .u16 v])<|m1 (vu) fun s k=>Pl 1<|nt<|rt<|rr (.bool (v==0 || v==65280))<|?_
 have hs:io dir 1 v=(v==0 || v==65280):=by
   unfold io
   (try simp only[bs,if_true,if_false,decide_true,decide_false,reduceIte])
   all_goals rfl
 rw[hs]
 exact⟨rfl,(aE c (aE a k))⟩
theorem zZ{dir v:Int}{w:World}(hv:0≤v∧v<65536) : Calls Tryz.prog 122 #[.int .i64 dir,.int .u16 3,.int .u16 v] w (bv (.bool (io dir 3 v)) w):=by
 refine en 42 Tryz.func122 rfl<|sg<|L0<|cz #[.int .u16 v] fun l m n b c=>Pl 1<|ng<|Pl 2<|ng<|?_
 refine L0<|wR fun o p d e f=>L0<|fZ e 1 fun q g h=>L0<|fZ g 3 fun r i j=>Pl 2<|ng<|Pl 11<|nt<|sq<|sg<|?_
 refine Pl 5<|nt<|c0<|bG<|sg<|Pl 2<|L0<|mp i 3 (.nilFunc) (some (1,.func (.func 138) #[] #[]))<|Pl 5<|nt<|sq<|?_
 refine sg<|Pl 2<|nt<|c0<|bG<|sg<|Pl 1<|?_
 have a:=ud f (u1 h j im) d
 refine L0<|aN (ub a b) 0<|L0<|fb #[] #[] (args:=#[.int .u16 v])<|m1 (u0 hv) fun s k=>Pl 1<|nt<|rt<|rr (.bool (v%256==0))<|?_
 have hs:io dir 3 v=(v%256==0):=by
   unfold io
   (try simp only[bs,if_true,if_false,decide_true,decide_false,reduceIte])
   all_goals rfl
 rw[hs]
 exact⟨rfl,(aE c (aE a k))⟩
theorem yo{dir sub v:Int}{w:World}(hv:0≤v∧v<65536)(h1:sub≠1)(h3:sub≠3) : Calls Tryz.prog 122 #[.int .i64 dir,.int .u16 sub,.int .u16 v] w (bv (.bool (io dir sub v)) w):=by
 have n1:(sub==1)=false:=by simpa using h1
 have n3:(sub==3)=false:=by simpa using h3
 refine en 42 Tryz.func122 rfl<|sg<|L0<|cz #[.int .u16 v] fun f G H o p=>Pl 1<|ng<|Pl 2<|ng<|?_
 refine L0<|wR fun I J r s t=>L0<|fZ s 1 fun L u y=>L0<|fZ u 3 fun M z A=>Pl 2<|ng<|Pl 3<|cu 7 [17] 24 (((sub==2)||((decide (11≤sub))&&(decide (sub≤18))))) (fun K g=>?_) ?_
 refine bl 17 ((sub==2)) (fun a=>?_) (fun a=>?_)
 have B:=az a
 exact Pl 7<|ce g true (by rw[a];rfl)
 have B:=aC a
 refine Pl 3<|cu 3 [20] 23 (((decide (11≤sub))&&(decide (sub≤18)))) (fun K i=>?_) ?_
 refine bl 20 ((decide (11≤sub))) (fun b=>?_) (fun b=>?_)
 have C:=of_decide_eq_true b
 exact Pl 3<|ce i (decide (sub≤18)) (by rw[b];rfl)
 have C:=of_decide_eq_false b
 exact Pl 3<|ce i false (by rw[b];rfl)
 exact Pl 1<|ce g ((decide (11≤sub))&&(decide (sub≤18))) (by rw[a];rfl)
 refine Pl 1<|nt<|sq<|sg<|Pl 2<|cu 3 [26] 29 ((((sub==2)||((decide (11≤sub))&&(decide (sub≤18))))&&(dir==1))) (fun K j=>?_) ?_
 refine bl 26 (((sub==2)||((decide (11≤sub))&&(decide (sub≤18))))) (fun c=>?_) (fun c=>?_)
 exact Pl 3<|ce j (dir==1) (by rw[c];rfl)
 have D:=(aH c).1
 have N:=(aH c).2
 have O:=aC D
 exact Pl 3<|ce j false (by rw[c];rfl)
 refine nt<|?_
 have k:=ud t (u1 y A im) r
 have l:=aE p k
 refine cb ((((sub==2)||((decide (11≤sub))&&(decide (sub≤18))))&&(dir==1))) (fun d=>?_) (fun d=>?_)
 have E:=(bH d).1
 have m:=(bH d).2
 have P:=az m
 refine sg<|Pl 1<|nt<|rt<|tr<|rr (.bool true)<|?_
 have hs:io dir sub v=true:=by
   unfold io
   (try simp only[d,E,m,bs,if_true,if_false,decide_true,decide_false,n1,n3,reduceIte])
   all_goals rfl
 rw[hs]
 exact⟨rfl,l⟩
 refine bG<|sg<|Pl 2<|L0<|mp (hf:=(A8 (q:=.u16) (x:=sub) #[⟨.int .u16 1,.func (.func 137) #[] #[],0⟩,⟨.int .u16 3,.func (.func 138) #[] #[],1⟩] (eY _ _ (by intro e he;simp only[List.mem_cons,List.not_mem_nil,or_false] at he;rcases he with rfl | rfl;exact⟨_,rfl,fun h=>h1 h.symm⟩;exact⟨_,rfl,fun h=>h3 h.symm⟩)))) z sub (.nilFunc) none<|Pl 5<|nt<|sq<|sg<|Pl 2<|nl<|?_
 refine tn<|c1<|go<|Pl 2<|ng<|Pl 1<|?_
 have n:=ub k o
 refine L0<|aN n 0<|L0<|fb #[] #[.pointer (some ⟨f,0,none⟩)] (args:=#[.int .u16 v,.pointer (some ⟨f,0,none⟩)])<|m1 (uC n) fun Q F=>Pl 1<|nt<|rt<|rr (.bool (v==0))<|?_
 have hs:io dir sub v=(v==0):=by
   unfold io
   (try simp only[d,bs,if_true,if_false,decide_true,decide_false,n1,n3,reduceIte])
   all_goals rfl
 rw[hs]
 exact⟨rfl,(aE l F)⟩
theorem wE{dir sub v:Int}{w:World}(hv:0≤v∧v<65536) : Calls Tryz.prog 122 #[.int .i64 dir,.int .u16 sub,.int .u16 v] w (bv (.bool (io dir sub v)) w):=by
  by_cases h1:sub=1
  · subst h1;exact zq hv
  by_cases h3:sub=3
  · subst h3;exact zZ hv
  exact yo hv h1 h3
open Go.RowKit
def gD (dir:Int)(C:ap) : ap:=(C.wordsC 1).need (fI C.wordV&&(dir==0 || C.wordV != 4)) 8
def nA (C:ap) : ap:=C.need (((C.l.length:Int)%2==0&&decide (2≤(C.l.length:Int)))&&decide ((C.l.length:Int)≤250)) 5
def ex (dir c:Int)(C:ap) : ap × aV :=
  if C.wordV != 0 then (((gD dir C).wordsC 1).need ((((gD dir C).wordsR 1).length:Int)==1&&io dir C.wordV (((gD dir C).wordsR 1).getD 0 0)) 6,{ aV.zero with code:=c,sub:=C.wordV,words:=(gD dir C).wordsR 1 })
  else ((nA (gD dir C)).wordsC (((gD dir C).l.length:Int)/2),{ aV.zero with code:=c,sub:=C.wordV,words:=(nA (gD dir C)).wordsR (((gD dir C).l.length:Int)/2) })
def kg (C:ap)(lo hi:Int) : ap:=(C.bytesC 1).need (decide (lo≤C.byteV)&&decide (C.byteV≤hi)) 5
def kI (C:ap) : ap:=((dD (kg C 6 70)).wordsC 1).wordsC 1
def bM (c:Int)(C:ap) : ap × aV :=
  if c==7 then (C.bytesC 1,{ aV.zero with code:=c,value:=C.byteV })
  else if c==11 then ((dD C).wordsC 1,{ aV.zero with code:=c,status:=C.wordV,events:=(dD C).wordV })
  else if c==12 then ((kI C).bytesC (C.byteV-6),{ aV.zero with code:=c,status:=(kg C 6 70).wordV,events:=(dD (kg C 6 70)).wordV,messages:=((dD (kg C 6 70)).wordsC 1).wordV,data:=(kI C).bytesR (C.byteV-6) })
  else if c==17 then ((kg C 1 251).bytesC C.byteV,{ aV.zero with code:=c,data:=(kg C 1 251).bytesR C.byteV })
  else (C,{ aV.zero with code:=c })
theorem oK{g gm:Nat}{dir c:Int}{C:ap}{w:World}(hcode:B8 c)(hC:ah w g C)(hm:w.heap[gm]? = some (.cells #[.int .u8 c,.int .u8 0,.int .u16 0,.int .u16 0,.int .u16 0,.int .u16 0,.int .u16 0,.int .u16 0,.int .u16 0,.int .u16 0,.int .u16 0,.int .u16 0,.slice none 0 0,.slice none 0 0,.slice none 0 0,.slice none 0 0,.int .u8 0,.int .u8 0,.int .u8 0,.int .u8 0,.int .u8 0,.slice none 0 0] 31 (0,0)))(hne:g≠gm) :
    Calls Tryz.prog 88 #[.int .i64 dir,.pointer (some ⟨g,0,none⟩),.pointer (some ⟨gm,0,none⟩)] w (bT g gm (ex dir c C).1 (ex dir c C).2 w):=by
 obtain⟨hcode1,hcode2⟩:=hcode
 have hlen:=hC.len
 refine en 84 Tryz.func88 rfl<|sg<|Pl 2<|L0<|Oc<|m3 (bD hC) fun b1 a4 t b2=>Pl 2<|?_
 have J:=aY t (Ne.symm hne) hm
 refine L0<|cn J 8 (mG c 0 0 0 0 0 0 0 C.wordV 0 0 0 nS nS nS nS 0 0 0 0 0 nS) fun b3 db L=>ng<|Pl 4<|L0<|aN db 8<|L0<|Oc<|m1 (vh (x:=C.wordV) (w:=_)) fun b4 r=>Pl 1<|cu 10 [18] 28 (((fI C.wordV)&&((dir==0)||(C.wordV != 4)))) (fun K M=>?_) ?_
 refine bl 18 ((fI C.wordV)) (fun u=>?_) (fun u=>?_)
 refine Pl 3<|cu 6 [21] 27 (((dir==0)||(C.wordV != 4))) (fun K N=>?_) ?_
 refine bl 21 ((dir==0)) (fun j=>?_) (fun j=>?_)
 have a5:=az j
 exact Pl 6<|ce N true (by rw[j];rfl)
 have a5:=aC j
 refine Pl 3<|?_
 exact L1<|aN (ub r db) 8<|Pl 2<|ce N (C.wordV != 4) (by rw[j];rfl)
 exact Pl 1<|ce M ((dir==0)||(C.wordV != 4)) (by rw[u];rfl)
 exact Pl 10<|ce M false (by rw[u];rfl)
 have O:=aE L r
 refine L0<|Oc<|m2 (aU (((fI C.wordV)&&((dir==0)||(C.wordV != 4)))) 8 (ah.upd a4 O (ae hne ay) (ak (aL J (by decide)) aD))) fun b5 a6 y=>?_
 refine ab a6 fun x30 z s=>?_
 refine nt<|sq<|sg<|Pl 3<|?_
 have A:=aY (uz r y) (Ne.symm hne) db
 refine L0<|aN A 8<|Pl 1<|nt<|?_
 have d:=ui t (us O y)
 refine cb ((C.wordV != 0)) (fun f=>?_) (fun f=>?_)
 have a7:=aA f
 refine sg<|Pl 2<|L0<|Oc<|qO (dx (n:=1) s) fun P Q b6 i b7 b9 R S=>Pl 2<|?_
 have B:=aY S (Ne.symm hne) A
 refine L0<|cn B 12 (mG c 0 0 0 0 0 0 0 C.wordV 0 0 0 (.slice P ((x30.wordsR 1).length) Q) nS nS nS 0 0 0 0 0 nS) fun ba a8 a9=>nt<|sq<|Rg 22 (fun w'=>w'.cell? ⟨gm,12,none⟩=some (.slice P ((x30.wordsR 1).length) Q)∧w'.cell? ⟨gm,8,none⟩=some (.int .u16 C.wordV)) fun bb T=>?_
 have b:=ub T a8
 refine aZ ⟨(aa b rfl),(aa b rfl)⟩ fun a=>Rt 0 a<|Rt 1 a<|Rt 2 a<|Rt 3 a<|Rl 4 a (fun _ hs=>hs.1)<|Rt 5 a<|Rt 6 a<|Rt 7 a<|?_
 have k:=aE a9 T
 have U:=ut d (us S k) (ac im (ac im aq))
 refine u7 47 (((((x30.wordsR 1).length:Nat) : Int)==1)) (fun m=>?_) (fun m=>?_)
 have ad:=az m
 refine Rt 8 a<|Rt 9 a<|Rt 10 a<|Rt 11 a<|Rl 12 a (fun _ hs=>hs.2)<|Rt 13 a<|Rt 14 a<|Rt 15 a<|Rl 16 a (fun _ hs=>hs.1)<|?_
 have V:=aj i k (fun x hx=>(ae (fun e=>(aB (al hm) d.size i) (e▸hx)) ay)) (fun _ _ h=>h)
 refine gX (dB.at_ (V).rd 0 (by omega)) fun af ag am an bc=>R0 17 rfl<|oU ((x30.wordsR 1).length) 0 am (by omega)<|aZ ⟨(aa b rfl),(aa b rfl)⟩ fun bd=>R0 18 rfl<|kY (p:=⟨af,ag+0,none⟩) (v:=.int .u16 ((x30.wordsR 1).getD 0 0)) an<|aZ ⟨(aa b rfl),(aa b rfl)⟩ fun be=>R0 19 rfl<|Oc<|m1 (wE (dir:=dir) (sub:=C.wordV) (v:=((x30.wordsR 1).getD 0 0)) (by omega)) fun bf D=>?_
 have E:=ub D b
 refine aZ ⟨(aa E rfl),(aa E rfl)⟩ fun ao=>Rt 20 ao<|?_
 refine R0 21 rfl<|Oc<|m2 (aU ((io dir C.wordV ((x30.wordsR 1).getD 0 0))) 6 (ah.upd R (aE k D) (ae hne ay) (ak (aL B (by decide)) aD))) fun bg ar W=>?_
 refine ab ar fun bh au av=>?_
 have F:=aY W (Ne.symm hne) E
 refine aZ ⟨(aa F rfl),(aa F rfl)⟩ fun bi=>re<|tn<|rt<|tr<|rr (.tuple #[])<|?_
 subst au z
 have X:=uz D W
 have hs:ex dir c C=(((((C.wordsC 1).need ((fI C.wordV)&&((dir==0)||(C.wordV != 4))) 8).wordsC 1).need (io dir C.wordV ((((C.wordsC 1).need ((fI C.wordV)&&((dir==0)||(C.wordV != 4))) 8).wordsR 1).getD 0 0)) 6),(aV.mk c 0 0 0 0 0 0 0 C.wordV 0 0 0 (((C.wordsC 1).need ((fI C.wordV)&&((dir==0)||(C.wordV != 4))) 8).wordsR 1) [] [] [] 0 0 0 0 0 [])):=by
   unfold ex gD nA
   (try simp only[f,m,bs,if_true,if_false,decide_true,decide_false,reduceIte])
   all_goals rfl
 rw[hs]
 exact⟨rfl,av,⟨_,⟨F,rfl⟩,⟨_,_,_,_,_,rfl,((aj V X (fun x hx=>(ae (fun e=>(aB (ah.lt hC) d.size i) (e▸hx)) ay)) (fun _ _ h=>h))).rd,aO.nil ..,aO.nil ..,aO.nil ..,aO.nil ..,⟨(b8 (x:=c) (by omega)),(b8 (x:=0) (by omega)),(aK (x:=0) (by omega)),(aK (x:=0) (by omega)),(aK (x:=0) (by omega)),(aK (x:=0) (by omega)),(aK (x:=0) (by omega)),(aK (x:=0) (by omega)),(aK (x:=C.wordV) (by omega)),(aK (x:=0) (by omega)),(aK (x:=0) (by omega)),(aK (x:=0) (by omega)),(b8 (x:=0) (by omega)),(b8 (x:=0) (by omega)),(b8 (x:=0) (by omega)),(b8 (x:=0) (by omega)),(b8 (x:=0) (by omega))⟩⟩⟩,(ax.mono (S':=[g,gm]) (u1 U X im) (xU (Or.inl (by simp)) (Or.inl (by simp))))⟩
 have ad:=aC m
 refine Ro 8 a<|Ro 9 a<|Ro 10 a<|Ro 11 a<|Ro 12 a<|Ro 13 a<|Ro 14 a<|Ro 15 a<|Ro 16 a<|Ro 17 a<|Ro 18 a<|Ro 19 a<|Rt 20 a<|?_
 refine R0 21 rfl<|Oc<|m2 (aU (false) 6 (ah.upd R k (ae hne ay) (ak (aL B (by decide)) aD))) fun bj aw G=>?_
 have H:=aY G (Ne.symm hne) b
 refine aZ ⟨(aa H rfl),(aa H rfl)⟩ fun bk=>re<|tn<|rt<|tr<|rr (.tuple #[])<|?_
 subst z
 have hs:ex dir c C=(((((C.wordsC 1).need ((fI C.wordV)&&((dir==0)||(C.wordV != 4))) 8).wordsC 1).need false 6),(aV.mk c 0 0 0 0 0 0 0 C.wordV 0 0 0 (((C.wordsC 1).need ((fI C.wordV)&&((dir==0)||(C.wordV != 4))) 8).wordsR 1) [] [] [] 0 0 0 0 0 [])):=by
   unfold ex gD nA
   (try simp only[f,m,bs,if_true,if_false,decide_true,decide_false,reduceIte])
   all_goals rfl
 rw[hs]
 exact⟨rfl,aw,⟨_,⟨H,rfl⟩,⟨_,_,_,_,_,rfl,((aj i (us k G) (fun x hx=>(ae (fun e=>(aB (al hm) d.size i) (e▸hx)) (ae (fun e=>(aB (ah.lt hC) d.size i) (e▸hx)) ay))) (fun _ _ h=>h))).rd,aO.nil ..,aO.nil ..,aO.nil ..,aO.nil ..,⟨(b8 (x:=c) (by omega)),(b8 (x:=0) (by omega)),(aK (x:=0) (by omega)),(aK (x:=0) (by omega)),(aK (x:=0) (by omega)),(aK (x:=0) (by omega)),(aK (x:=0) (by omega)),(aK (x:=0) (by omega)),(aK (x:=C.wordV) (by omega)),(aK (x:=0) (by omega)),(aK (x:=0) (by omega)),(aK (x:=0) (by omega)),(b8 (x:=0) (by omega)),(b8 (x:=0) (by omega)),(b8 (x:=0) (by omega)),(b8 (x:=0) (by omega)),(b8 (x:=0) (by omega))⟩⟩⟩,(ax.mono (S':=[g,gm]) (u1 U G im) (xU (Or.inl (by simp)) (Or.inl (by simp))))⟩
 have a7:=ai f
 refine bG<|sg<|Pl 1<|L0<|Oc<|mq (dq s)<|?_
 have bm:=ah.len s
 refine Pl 1<|ng<|Pl 2<|L0<|Oe (.int .i64 (Int.tmod ((x30.l.length:Nat) : Int) 2)) (.int .i64 (((x30.l.length:Nat) : Int)%2)) (congrArg (Value.int .i64) (Int.tmod_eq_emod_of_nonneg (by omega)))<|Pl 2<|cu 3 [68] 71 ((((((x30.l.length:Nat) : Int)%2)==0)&&(decide (2≤((x30.l.length:Nat) : Int))))) (fun K Y=>?_) ?_
 refine bl 68 (((((x30.l.length:Nat) : Int)%2)==0)) (fun o=>?_) (fun o=>?_)
 have aF:=az o
 exact Pl 3<|ce Y (decide (2≤((x30.l.length:Nat) : Int))) (by rw[o];rfl)
 have aF:=aC o
 exact Pl 3<|ce Y false (by rw[o];rfl)
 refine Pl 1<|cu 3 [72] 75 (((((((x30.l.length:Nat) : Int)%2)==0)&&(decide (2≤((x30.l.length:Nat) : Int))))&&(decide (((x30.l.length:Nat) : Int)≤250)))) (fun K Z=>?_) ?_
 refine bl 72 ((((((x30.l.length:Nat) : Int)%2)==0)&&(decide (2≤((x30.l.length:Nat) : Int))))) (fun q=>?_) (fun q=>?_)
 have aG:=(bH q).1
 have aH:=(bH q).2
 have bn:=az aG
 have bo:=of_decide_eq_true aH
 exact Pl 3<|ce Z (decide (((x30.l.length:Nat) : Int)≤250)) (by rw[q];rfl)
 exact Pl 3<|ce Z false (by rw[q];rfl)
 refine L0<|Oc<|m2 (aU (((((((x30.l.length:Nat) : Int)%2)==0)&&(decide (2≤((x30.l.length:Nat) : Int))))&&(decide (((x30.l.length:Nat) : Int)≤250)))) 5 s) fun bp aI a0=>?_
 refine ab aI fun aJ aM aP=>?_
 refine nt<|go<|Pl 3<|L0<|Oe (.int .i64 (IntKind.i64.wrap (Int.tdiv ((x30.l.length:Nat) : Int) 2))) (.int .i64 (((x30.l.length:Nat) : Int)/2)) (congrArg (Value.int .i64) (qP (by omega) (by omega)))<|L0<|Oc<|qO (dx (n:=(((x30.l.length:Nat) : Int)/2)) aP) fun aQ aR bq a1 br bt aS aT=>?_
 refine ab aS fun bu aW aX=>?_
 refine Pl 2<|?_
 have a2:=u1 a0 aT im
 have a3:=aY a2 (Ne.symm hne) A
 refine L0<|cn a3 12 (mG c 0 0 0 0 0 0 0 C.wordV 0 0 0 (.slice aQ ((aJ.wordsR (((x30.l.length:Nat) : Int)/2)).length) aR) nS nS nS 0 0 0 0 0 nS) fun bv b0 I=>nl<|rm (.tuple #[])<|?_
 subst aW aM z
 have hs:ex dir c C=(((((C.wordsC 1).need ((fI C.wordV)&&((dir==0)||(C.wordV != 4))) 8).need ((((((((C.wordsC 1).need ((fI C.wordV)&&((dir==0)||(C.wordV != 4))) 8).l.length:Nat) : Int)%2)==0)&&(decide (2≤((((C.wordsC 1).need ((fI C.wordV)&&((dir==0)||(C.wordV != 4))) 8).l.length:Nat) : Int))))&&(decide (((((C.wordsC 1).need ((fI C.wordV)&&((dir==0)||(C.wordV != 4))) 8).l.length:Nat) : Int)≤250))) 5).wordsC (((((C.wordsC 1).need ((fI C.wordV)&&((dir==0)||(C.wordV != 4))) 8).l.length:Nat) : Int)/2)),(aV.mk c 0 0 0 0 0 0 0 C.wordV 0 0 0 ((((C.wordsC 1).need ((fI C.wordV)&&((dir==0)||(C.wordV != 4))) 8).need ((((((((C.wordsC 1).need ((fI C.wordV)&&((dir==0)||(C.wordV != 4))) 8).l.length:Nat) : Int)%2)==0)&&(decide (2≤((((C.wordsC 1).need ((fI C.wordV)&&((dir==0)||(C.wordV != 4))) 8).l.length:Nat) : Int))))&&(decide (((((C.wordsC 1).need ((fI C.wordV)&&((dir==0)||(C.wordV != 4))) 8).l.length:Nat) : Int)≤250))) 5).wordsR (((((C.wordsC 1).need ((fI C.wordV)&&((dir==0)||(C.wordV != 4))) 8).l.length:Nat) : Int)/2)) [] [] [] 0 0 0 0 0 [])):=by
   unfold ex gD nA
   (try simp only[f,bs,if_true,if_false,decide_true,decide_false,reduceIte])
   all_goals rfl
 rw[hs]
 exact⟨rfl,(ah.upd aX I (ae hne ay) (ak (aL a3 (by decide)) aD)),⟨_,⟨b0,rfl⟩,⟨_,_,_,_,_,rfl,((aj a1 I (fun x hx=>(ae (fun e=>(aB (al hm) (le (le (le (le t.size L.size) r.size) y.size) a0.size) a1) (e▸hx)) ay)) (fun _ _ h=>h))).rd,aO.nil ..,aO.nil ..,aO.nil ..,aO.nil ..,⟨(b8 (x:=c) (by omega)),(b8 (x:=0) (by omega)),(aK (x:=0) (by omega)),(aK (x:=0) (by omega)),(aK (x:=0) (by omega)),(aK (x:=0) (by omega)),(aK (x:=0) (by omega)),(aK (x:=0) (by omega)),(aK (x:=C.wordV) (by omega)),(aK (x:=0) (by omega)),(aK (x:=0) (by omega)),(aK (x:=0) (by omega)),(b8 (x:=0) (by omega)),(b8 (x:=0) (by omega)),(b8 (x:=0) (by omega)),(b8 (x:=0) (by omega)),(b8 (x:=0) (by omega))⟩⟩⟩,(ax.mono (S':=[g,gm]) (ut d (us a2 I) (ac im (ac im aq))) (xU (Or.inl (by simp)) (Or.inl (by simp))))⟩
theorem fS{g gm:Nat}{c:Int}{C:ap}{w:World}(hcode:B8 c)(hC:ah w g C)(hm:w.heap[gm]? = some (.cells #[.int .u8 c,.int .u8 0,.int .u16 0,.int .u16 0,.int .u16 0,.int .u16 0,.int .u16 0,.int .u16 0,.int .u16 0,.int .u16 0,.int .u16 0,.int .u16 0,.slice none 0 0,.slice none 0 0,.slice none 0 0,.slice none 0 0,.int .u8 0,.int .u8 0,.int .u8 0,.int .u8 0,.int .u8 0,.slice none 0 0] 31 (0,0)))(hne:g≠gm) :
    Calls Tryz.prog 89 #[.pointer (some ⟨g,0,none⟩),.pointer (some ⟨gm,0,none⟩)] w (bT g gm (bM c C).1 (bM c C).2 w):=by
 obtain⟨hcode1,hcode2⟩:=hcode
 have hlen:=hC.len
 refine en 84 Tryz.func89 rfl<|sg<|Pl 3<|L0<|aN hm 0<|nt<|bk<|sg<|Pl 2<|nt<|cb ((c==7)) (fun a=>?_) (fun a=>?_)
 have N:=az a
 refine go<|Pl 2<|L0<|Oc<|m3 (bE hC) fun aP O m aR=>L0<|BI C.byteV<|Pl 2<|?_
 have o:=aY m (Ne.symm hne) hm
 refine L0<|cn o 4 (mG c 0 0 0 C.byteV 0 0 0 0 0 0 0 nS nS nS nS 0 0 0 0 0 nS) fun aS P p=>nl<|bn<|rm (.tuple #[])<|?_
 have hs:bM c C=((C.bytesC 1),(aV.mk c 0 0 0 C.byteV 0 0 0 0 0 0 0 [] [] [] [] 0 0 0 0 0 [])):=by
   unfold bM kI kg
   (try simp only[a,bs,if_true,if_false,decide_true,decide_false,reduceIte])
   all_goals rfl
 rw[hs]
 exact⟨rfl,(ah.upd O p (ae hne ay) (ak (aL o (by decide)) aD)),⟨_,⟨P,rfl⟩,⟨_,_,_,_,_,rfl,aO.nil ..,aO.nil ..,aO.nil ..,aO.nil ..,aO.nil ..,⟨(b8 (x:=c) (by omega)),(b8 (x:=0) (by omega)),(aK (x:=0) (by omega)),(aK (x:=0) (by omega)),(aK (x:=C.byteV) (by omega)),(aK (x:=0) (by omega)),(aK (x:=0) (by omega)),(aK (x:=0) (by omega)),(aK (x:=0) (by omega)),(aK (x:=0) (by omega)),(aK (x:=0) (by omega)),(aK (x:=0) (by omega)),(b8 (x:=0) (by omega)),(b8 (x:=0) (by omega)),(b8 (x:=0) (by omega)),(b8 (x:=0) (by omega)),(b8 (x:=0) (by omega))⟩⟩⟩,(us m p)⟩
 have N:=aC a
 refine sg<|Pl 2<|nt<|cb ((c==11)) (fun b=>?_) (fun b=>?_)
 have Q:=az b
 refine sg<|Pl 2<|L0<|Oc<|m3 (oB hC) fun aT R q aW=>Pl 2<|?_
 have r:=aY q (Ne.symm hne) hm
 refine L0<|cn r 9 (mG c 0 0 0 0 0 0 0 0 C.wordV 0 0 nS nS nS nS 0 0 0 0 0 nS) fun aX S s=>nt<|go<|Pl 2<|?_
 refine L0<|Oc<|m3 (bD (ah.upd R s (ae hne ay) (ak (aL r (by decide)) aD))) fun aZ T t b0=>Pl 2<|?_
 have u:=aY t (Ne.symm hne) S
 refine L0<|cn u 10 (mG c 0 0 0 0 0 0 0 0 C.wordV ((dD C).wordV) 0 nS nS nS nS 0 0 0 0 0 nS) fun b1 U v=>nl<|bn<|rm (.tuple #[])<|?_
 have hs:bM c C=(((dD C).wordsC 1),(aV.mk c 0 0 0 0 0 0 0 0 C.wordV ((dD C).wordV) 0 [] [] [] [] 0 0 0 0 0 [])):=by
   unfold bM kI kg
   (try simp only[a,b,bs,if_true,if_false,decide_true,decide_false,reduceIte])
   all_goals rfl
 rw[hs]
 exact⟨rfl,(ah.upd T v (ae hne ay) (ak (aL u (by decide)) aD)),⟨_,⟨U,rfl⟩,⟨_,_,_,_,_,rfl,aO.nil ..,aO.nil ..,aO.nil ..,aO.nil ..,aO.nil ..,⟨(b8 (x:=c) (by omega)),(b8 (x:=0) (by omega)),(aK (x:=0) (by omega)),(aK (x:=0) (by omega)),(aK (x:=0) (by omega)),(aK (x:=0) (by omega)),(aK (x:=0) (by omega)),(aK (x:=0) (by omega)),(aK (x:=0) (by omega)),(aK (x:=C.wordV) (by omega)),(aK (x:=(dD C).wordV) (by omega)),(aK (x:=0) (by omega)),(b8 (x:=0) (by omega)),(b8 (x:=0) (by omega)),(b8 (x:=0) (by omega)),(b8 (x:=0) (by omega)),(b8 (x:=0) (by omega))⟩⟩⟩,(ui q (ui s (us t v)))⟩
 have Q:=aC b
 refine sg<|Pl 2<|nt<|cb ((c==12)) (fun d=>?_) (fun d=>?_)
 have V:=az d
 refine sg<|Pl 1<|L0<|Oc<|m3 (bE hC) fun b2 W X b3=>L0<|Oi C.byteV<|Pl 1<|ng<|Pl 4<|cu 3 [38] 41 (((decide (6≤C.byteV))&&(decide (C.byteV≤70)))) (fun K y=>?_) ?_
 refine bl 38 ((decide (6≤C.byteV))) (fun e=>?_) (fun e=>?_)
 have Y:=of_decide_eq_true e
 exact Pl 3<|ce y (decide (C.byteV≤70)) (by rw[e];rfl)
 have Y:=of_decide_eq_false e
 exact Pl 3<|ce y false (by rw[e];rfl)
 refine L0<|Oc<|m2 (aU (((decide (6≤C.byteV))&&(decide (C.byteV≤70)))) 5 W) fun b4 Z a0=>?_
 refine ab Z fun x53 a1 a2=>?_
 refine ng<|Pl 2<|L0<|Oc<|m3 (oB a2) fun b5 a3 a4 b6=>Pl 2<|?_
 have z:=u1 X (u1 a0 a4 im) im
 have A:=aY z (Ne.symm hne) hm
 refine L0<|cn A 9 (mG c 0 0 0 0 0 0 0 0 x53.wordV 0 0 nS nS nS nS 0 0 0 0 0 nS) fun b7 a5 B=>ng<|Pl 3<|?_
 refine L0<|Oc<|m3 (bD (ah.upd a3 B (ae hne ay) (ak (aL A (by decide)) aD))) fun b9 a6 a7 ba=>Pl 1<|L0<|Oc<|m3 (bD a6) fun bb a8 a9 bc=>?_
 refine ab a8 fun sL aa ac=>?_
 refine Pl 2<|?_
 have D:=u1 a7 a9 im
 have E:=aY D (Ne.symm hne) a5
 refine L0<|cn E 10 (mG c 0 0 0 0 0 0 0 0 x53.wordV ((dD x53).wordV) 0 nS nS nS nS 0 0 0 0 0 nS) fun bd ad af=>Pl 2<|L0<|cn ad 11 (mG c 0 0 0 0 0 0 0 0 x53.wordV ((dD x53).wordV) (((dD x53).wordsC 1).wordV) nS nS nS nS 0 0 0 0 0 nS) fun be ag ai=>nt<|go<|Pl 3<|L0<|Oi (C.byteV-6)<|?_
 have F:=u1 af ai im
 have G:=ah.upd ac F (ae hne ay) (ak (aL E (by decide)) aD)
 refine L0<|Oc<|tv (bS (n:=(C.byteV-6)) G) fun aj al bf am bg bh an H=>?_
 have bi:=Nat.le_trans (ap.bytesR_le sL (C.byteV-6)) (ah.len G)
 refine Pl 2<|?_
 have i:=aY H (Ne.symm hne) ag
 refine L0<|cn i 14 (mG c 0 0 0 0 0 0 0 0 x53.wordV ((dD x53).wordV) (((dD x53).wordsC 1).wordV) nS nS (.slice aj ((sL.bytesR (C.byteV-6)).length) al) nS 0 0 0 0 0 nS) fun bj ao j=>nl<|bn<|rm (.tuple #[])<|?_
 subst aa a1
 have hs:bM c C=(((((dD ((C.bytesC 1).need ((decide (6≤C.byteV))&&(decide (C.byteV≤70))) 5)).wordsC 1).wordsC 1).bytesC (C.byteV-6)),(aV.mk c 0 0 0 0 0 0 0 0 (((C.bytesC 1).need ((decide (6≤C.byteV))&&(decide (C.byteV≤70))) 5).wordV) ((dD ((C.bytesC 1).need ((decide (6≤C.byteV))&&(decide (C.byteV≤70))) 5)).wordV) (((dD ((C.bytesC 1).need ((decide (6≤C.byteV))&&(decide (C.byteV≤70))) 5)).wordsC 1).wordV) [] [] ((((dD ((C.bytesC 1).need ((decide (6≤C.byteV))&&(decide (C.byteV≤70))) 5)).wordsC 1).wordsC 1).bytesR (C.byteV-6)) [] 0 0 0 0 0 [])):=by
   unfold bM kI kg
   (try simp only[a,b,d,bs,if_true,if_false,decide_true,decide_false,reduceIte])
   all_goals rfl
 rw[hs]
 exact⟨rfl,(ah.upd an j (ae hne ay) (ak (aL i (by decide)) aD)),⟨_,⟨ao,rfl⟩,⟨_,_,_,_,_,rfl,aO.nil ..,aO.nil ..,(aQ.upd' am j (ak (aL i (by decide)) aD)),aO.nil ..,aO.nil ..,⟨(b8 (x:=c) (by omega)),(b8 (x:=0) (by omega)),(aK (x:=0) (by omega)),(aK (x:=0) (by omega)),(aK (x:=0) (by omega)),(aK (x:=0) (by omega)),(aK (x:=0) (by omega)),(aK (x:=0) (by omega)),(aK (x:=0) (by omega)),(aK (x:=((C.bytesC 1).need ((decide (6≤C.byteV))&&(decide (C.byteV≤70))) 5).wordV) (by omega)),(aK (x:=(dD ((C.bytesC 1).need ((decide (6≤C.byteV))&&(decide (C.byteV≤70))) 5)).wordV) (by omega)),(aK (x:=((dD ((C.bytesC 1).need ((decide (6≤C.byteV))&&(decide (C.byteV≤70))) 5)).wordsC 1).wordV) (by omega)),(b8 (x:=0) (by omega)),(b8 (x:=0) (by omega)),(b8 (x:=0) (by omega)),(b8 (x:=0) (by omega)),(b8 (x:=0) (by omega))⟩⟩⟩,(ui z (ui B (ui D (ui F (us H j)))))⟩
 have V:=aC d
 refine sg<|Pl 2<|nt<|cb ((c==17)) (fun f=>?_) (fun f=>?_)
 have ar:=az f
 refine sg<|Pl 1<|L0<|Oc<|m3 (bE hC) fun bm au av bo=>L0<|Oi C.byteV<|Pl 1<|ng<|Pl 4<|cu 3 [73] 76 (((decide (1≤C.byteV))&&(decide (C.byteV≤251)))) (fun K I=>?_) ?_
 refine bl 73 ((decide (1≤C.byteV))) (fun h=>?_) (fun h=>?_)
 have aw:=of_decide_eq_true h
 exact Pl 3<|ce I (decide (C.byteV≤251)) (by rw[h];rfl)
 have aw:=of_decide_eq_false h
 exact Pl 3<|ce I false (by rw[h];rfl)
 refine L0<|Oc<|m2 (aU (((decide (1≤C.byteV))&&(decide (C.byteV≤251)))) 5 au) fun bp aA aB=>?_
 refine ab aA fun J aE L=>?_
 refine nt<|go<|Pl 3<|L0<|Oc<|tv (bS (n:=C.byteV) L) fun aF aG bq aH br bt aI aJ=>?_
 have bu:=Nat.le_trans (ap.bytesR_le J C.byteV) (ah.len L)
 refine Pl 2<|?_
 have M:=u1 av (u1 aB aJ im) im
 have k:=aY M (Ne.symm hne) hm
 refine L0<|cn k 14 (mG c 0 0 0 0 0 0 0 0 0 0 0 nS nS (.slice aF ((J.bytesR C.byteV).length) aG) nS 0 0 0 0 0 nS) fun bv aM l=>nl<|bn<|rm (.tuple #[])<|?_
 subst aE
 have hs:bM c C=((((C.bytesC 1).need ((decide (1≤C.byteV))&&(decide (C.byteV≤251))) 5).bytesC C.byteV),(aV.mk c 0 0 0 0 0 0 0 0 0 0 0 [] [] (((C.bytesC 1).need ((decide (1≤C.byteV))&&(decide (C.byteV≤251))) 5).bytesR C.byteV) [] 0 0 0 0 0 [])):=by
   unfold bM kI kg
   (try simp only[a,b,d,f,bs,if_true,if_false,decide_true,decide_false,reduceIte])
   all_goals rfl
 rw[hs]
 exact⟨rfl,(ah.upd aI l (ae hne ay) (ak (aL k (by decide)) aD)),⟨_,⟨aM,rfl⟩,⟨_,_,_,_,_,rfl,aO.nil ..,aO.nil ..,(aQ.upd' aH l (ak (aL k (by decide)) aD)),aO.nil ..,aO.nil ..,⟨(b8 (x:=c) (by omega)),(b8 (x:=0) (by omega)),(aK (x:=0) (by omega)),(aK (x:=0) (by omega)),(aK (x:=0) (by omega)),(aK (x:=0) (by omega)),(aK (x:=0) (by omega)),(aK (x:=0) (by omega)),(aK (x:=0) (by omega)),(aK (x:=0) (by omega)),(aK (x:=0) (by omega)),(aK (x:=0) (by omega)),(b8 (x:=0) (by omega)),(b8 (x:=0) (by omega)),(b8 (x:=0) (by omega)),(b8 (x:=0) (by omega)),(b8 (x:=0) (by omega))⟩⟩⟩,(us M l)⟩
 have ar:=aC f
 refine sk<|bn<|rm (.tuple #[])<|?_
 have hs:bM c C=(C,(aV.mk c 0 0 0 0 0 0 0 0 0 0 0 [] [] [] [] 0 0 0 0 0 [])):=by
   unfold bM kI kg
   (try simp only[a,b,d,f,bs,if_true,if_false,decide_true,decide_false,reduceIte])
   all_goals rfl
 rw[hs]
 exact⟨rfl,hC,⟨_,⟨hm,rfl⟩,⟨_,_,_,_,_,rfl,aO.nil ..,aO.nil ..,aO.nil ..,aO.nil ..,aO.nil ..,⟨(b8 (x:=c) (by omega)),(b8 (x:=0) (by omega)),(aK (x:=0) (by omega)),(aK (x:=0) (by omega)),(aK (x:=0) (by omega)),(aK (x:=0) (by omega)),(aK (x:=0) (by omega)),(aK (x:=0) (by omega)),(aK (x:=0) (by omega)),(aK (x:=0) (by omega)),(aK (x:=0) (by omega)),(aK (x:=0) (by omega)),(b8 (x:=0) (by omega)),(b8 (x:=0) (by omega)),(b8 (x:=0) (by omega)),(b8 (x:=0) (by omega)),(b8 (x:=0) (by omega))⟩⟩⟩,(ax.mono (S':=[g,gm]) (ax.refl [] _) aq)⟩
end Go.Proofs.YtpglhicfhppaiaaGreat
