/- Contracts of functions, part CGateCuts2. -/
import Derived.Test.YtdkhbcefkfgbdaaGreatCGateCuts1
import Derived.Laws.BytesArg
import Derived.Stop.BytesEq
import Derived.Laws.BitsAllLaws
set_option linter.unusedVariables false
set_option linter.unusedSimpArgs false
set_option maxRecDepth 100000
set_option maxHeartbeats 4000000
namespace Go.Proofs.YtdkhbcefkfgbdaaGreat
open Go.RowKit
variable {a:Int}{w:World}
theorem qg{ev:Operand→Value}{o:Oper}{x y:Operand}{t:TypeId}{b:Int}  (ho:o.op = .binOp .neq 145 x y t)
    (hx:ev x = .agg #[.int .u8 a,.int .u8 b]) (hy:ev y = .agg #[.int .u8 0,.int .u8 0]) : (execOp ev o).run Tryz.prog w = .ok (.value (.bool ((a != 0)||(b != 0)))) w:=by
  unfold execOp
  rw[ho]
  simp only[hx,hy]
  cases a with
  | ofNat a =>
    cases a with
    | zero =>
      cases b with
      | ofNat b =>
        cases b with
        | zero=>kernel_rfl
        | succ b=>kernel_rfl
      | negSucc b=>kernel_rfl
    | succ a=>kernel_rfl
  | negSucc a=>kernel_rfl
def j5 (a b:Int) : b6:={ b6.zero with code:=a,fail:=b }
def i7 (a b:Int) : Bool:=(((a != 0)||(b != 0))&&eC a)&&dU b
theorem la{b:Int}  : Calls Tryz.prog 95 #[.agg #[vB a,vB b]] w (bH (.agg #[vB a,vB b,vW 0,vW 0,vW 0,vW 0,vW 0,vW 0,vW 0,vW 0,vW 0,vW 0,nS,nS,nS,nS,vB 0,vB 0,vB 0,vB 0,vB 0,nS]) w):=by
 refine en 8 Tryz.func95 rfl<|sg<|L0<|cU #[vB a,vB b] fun k l m e f=>aL mZ fun n o g h c=>aS 1<|?_
 have d:=ub c e
 refine ax d 0<|Pl 1<|ax d 1<|Pl 1<|aI h (mG a b 0 0 0 0 0 0 0 0 0 0 nS nS nS nS 0 0 0 0 0 nS) fun p i j=>qQ<|Bx i<|?_
 exact⟨rfl,(aH f (ud c j g))⟩
theorem uZ{b:Int}  : Calls Tryz.prog 93 #[.agg #[vB a,vB b]] w (bH (.bool (i7 a b)) w):=by
 refine en 16 Tryz.func93 rfl<|sg<|L0<|cU #[vB a,vB b] fun l m n d f=>Pl 1<|ng<|L0<|cH d<|Pl 1<|L0<|iq (.bool ((a != 0)||(b != 0))) (qg rfl (by kernel_rfl) (by kernel_rfl))<|Pl 1<|bl 6 (((a != 0)||(b != 0))) (fun c=>?_) (fun c=>?_)
 refine Pl 1<|L1<|ii d 0<|L1<|Oc<|m1 (m7 (x:=a) (w:=_)) fun o g=>Pl 2<|?_
 have h:=aH f g
 refine bl 11 ((eC a)) (fun e=>?_) (fun e=>?_)
 refine Pl 1<|?_
 refine L1<|ii (ub g d) 1<|L1<|Oc<|m1 (kc (x:=b) (w:=_)) fun p k=>al 2<|rt<|rr (.bool (dU b))<|?_
 exact dA (by unfold i7;(try simp only[c,e,bt])<;>rfl) ⟨rfl,(aH h k)⟩
 exact al 5<|rt<|rr (.bool false)<|dA (by unfold i7;(try simp only[c,e,bt])<;>rfl) ⟨rfl,h⟩
 have i:=(uC c).1
 have j:=(uC c).2
 have q:=aV i
 have r:=aV j
 exact al 10<|rt<|rr (.bool false)<|dA (by unfold i7;(try simp only[c,i,j,bt])<;>rfl) ⟨rfl,f⟩
def iQ (b:List Int) : b6 × Int :=
  if (b.length:Int)==0 then (b6.zero,2)
  else if decide (b.getD 0 0<128) then (b6.zero,4)
  else if !(eC ((b.getD 0 0-128)%256)) then (b6.zero,4)
  else if (b.length:Int)==1 then (b6.zero,2)
  else if !(dU (b.getD 1 0)) then (b6.zero,6)
  else if decide (2<(b.length:Int)) then (b6.zero,3)
  else (j5 ((b.getD 0 0-128)%256) (b.getD 1 0),0)
variable {A:Option Addr}{b:List Int}{cp:Nat}{m:Md}
theorem qD(hsl:aR m w (.slice A b.length cp) b)(hb:b.length≤1048576) :
    Calls Tryz.prog 117 #[.slice A b.length cp] w (dL (iQ b) w):=by
 have hln:(b.length:Int)≤1048576:=by omega
 refine en 49 Tryz.func117 rfl<|sg<|aL mZ fun ag ah g h q=>al 1<|sq<|bk<|ay 4<|cb (((b.length:Int)==0)) (fun c=>?_) (fun c=>?_)
 have O:=aC c
 refine au 1<|aI h mZ fun ai P Q=>al 1<|rt<|br<|tr<|dZ P (vI 2)<|?_
 exact dA (y:=(b6.zero,2)) (by unfold iQ;(try simp only[c,bt,Bool.not_eq_true,reduceIte])<;>rfl) (bV (ud q Q g))
 have O:=aO c
 refine au 1<|?_
 have B:=aR.old hsl q
 refine jc (aR.at_ B 0 (by omega)) fun C D E F aj=>L0<|pf b.length 0 E (by omega)<|L0<|m8 (p:=⟨C,D+0,none⟩) (v:=vB (b.getD 0 0)) F<|Pl 2<|bl 14 ((decide ((b.getD 0 0)<128))) (fun d=>?_) (fun d=>?_)
 have R:=of_decide_eq_true d
 refine al 8<|c1<|au 1<|aI h mZ fun ak S T=>al 1<|rt<|br<|tr<|dZ S (vI 4)<|?_
 exact dA (y:=(b6.zero,4)) (by unfold iQ;(try simp only[c,d,bt,Bool.not_eq_true,reduceIte])<;>rfl) (bV (ud q T g))
 have R:=of_decide_eq_false d
 refine Pl 1<|L1<|pf b.length 0 E (by omega)<|L1<|m8 (p:=⟨C,D+0,none⟩) (v:=vB (b.getD 0 0)) F<|Pl 1<|L1<|Oc<|m1 (m7 (x:=(((b.getD 0 0)-128)%256)) (w:=_)) fun am i=>al 3<|?_
 have t:=aH q i
 refine cb ((!(eC (((b.getD 0 0)-128)%256)))) (fun e=>?_) (fun e=>?_)
 have k:(eC (((b.getD 0 0)-128)%256))=false:=by simpa using e
 refine au 1<|?_
 refine aI (ub i h) mZ fun an U V=>al 1<|rt<|br<|tr<|dZ U (vI 4)<|?_
 exact dA (y:=(b6.zero,4)) (by unfold iQ;(try simp only[c,d,e,k,bt,Bool.not_eq_true,reduceIte])<;>rfl) (bV (ud t V g))
 have k:(eC (((b.getD 0 0)-128)%256))=true:=by simpa using e
 refine ay 4<|cb (((b.length:Int)==1)) (fun j=>?_) (fun j=>?_)
 have W:=aC j
 refine au 1<|?_
 refine aI (ub i h) mZ fun ao X Y=>al 1<|rt<|br<|tr<|dZ X (vI 2)<|?_
 exact dA (y:=(b6.zero,2)) (by unfold iQ;(try simp only[c,d,e,k,j,bt,Bool.not_eq_true,reduceIte])<;>rfl) (bV (ud t Y g))
 have W:=aO j
 refine au 1<|?_
 have G:=aR.old B i
 refine jc (aR.at_ G 1 (by omega)) fun Z a0 a1 a2 ap=>L0<|pf b.length 1 a1 (by omega)<|L0<|m8 (p:=⟨Z,a0+1,none⟩) (v:=vB (b.getD 1 0)) a2<|aF<|m1 (kc (x:=(b.getD 1 0)) (w:=_)) fun aq n=>al 2<|?_
 have u:=aH t n
 refine cb ((!(dU (b.getD 1 0)))) (fun l=>?_) (fun l=>?_)
 have r:(dU (b.getD 1 0))=false:=by simpa using l
 refine au 1<|?_
 refine aI (ub (aH i n) h) mZ fun ar a3 a4=>al 1<|rt<|br<|tr<|dZ a3 (vI 6)<|?_
 exact dA (y:=(b6.zero,6)) (by unfold iQ;(try simp only[c,d,e,k,j,l,r,bt,Bool.not_eq_true,reduceIte])<;>rfl) (bV (ud u a4 g))
 have r:(dU (b.getD 1 0))=true:=by simpa using l
 refine ay 4<|cb ((decide (2<(b.length:Int)))) (fun o=>?_) (fun o=>?_)
 have a5:=of_decide_eq_true o
 refine au 1<|?_
 refine aI (ub (aH i n) h) mZ fun av a6 a7=>al 1<|rt<|br<|tr<|dZ a6 (vI 3)<|?_
 exact dA (y:=(b6.zero,3)) (by unfold iQ;(try simp only[c,d,e,k,j,l,r,o,bt,Bool.not_eq_true,reduceIte])<;>rfl) (bV (ud u a7 g))
 have a5:=of_decide_eq_false o
 refine sk<|bn<|tn<|sq<|?_
 have H:=aR.old G n
 refine jc (aR.at_ H 0 (by omega)) fun a8 a9 I J aw=>jc (aR.at_ H 1 (by omega)) fun aa ab K L ax=>Rg 11 (fun w'=>w'.cell? ⟨a8,a9+0,none⟩=some (vB (b.getD 0 0))∧w'.cell? ⟨aa,ab+1,none⟩=some (vB (b.getD 1 0))) fun az z=>b9 ⟨(uc z J),(uc z L)⟩ fun f=>Rt 0 f<|xz 1 f b.length 0 0 rfl I (by omega)<|Rl 2 f (fun _ hs=>hs.1)<|Rt 3 f<|Rt 4 f<|xz 5 f b.length 1 1 rfl K (by omega)<|Rl 6 f (fun _ hs=>hs.2)<|Rt 7 f<|R0 8 rfl<|Oc<|m1 (la (a:=(((b.getD 0 0)-128)%256)) (b:=(b.getD 1 0)) (w:=_)) fun aA ac=>?_
 have s:=aH z ac
 refine b9 ⟨(uc s J),(uc s L)⟩ fun aB=>?_
 refine R0 9 rfl<|qv (ub (aH i (aH n s)) h) (mG (((b.getD 0 0)-128)%256) (b.getD 1 0) 0 0 0 0 0 0 0 0 0 0 nS nS nS nS 0 0 0 0 0 nS) fun aD ad ae=>?_
 have M:=ud u (uz s ae) g
 have N:=aR.old hsl M
 exact b9 ⟨(cB N I 0 (by omega)),(cB N K 1 (by omega))⟩ fun af=>Rt 10 af<|re<|tn<|rt<|dZ ad (vI 0)<|dA (y:=((b6.mk (((b.getD 0 0)-128)%256) (b.getD 1 0) 0 0 0 0 0 0 0 0 0 0 [] [] [] [] 0 0 0 0 0 []),0)) (by unfold iQ;(try simp only[c,d,e,k,j,l,r,o,bt,Bool.not_eq_true,reduceIte])<;>rfl) ⟨_,rfl,⟨_,_,_,_,_,rfl,aP.nil ..,aP.nil ..,aP.nil ..,aP.nil ..,aP.nil ..,(ek (by omega))⟩,M⟩
variable {v:Value}
theorem u0(h:aR m w v b)(hb:b.length≤1048576) : Calls Tryz.prog 117 #[v] w (dL (iQ b) w):=by
  obtain⟨A,cp,rfl,_,_⟩:=h.shape
  exact qD h hb
open Go.RowKit
def cj (dir:Int)(M:b6) : List Int :=
  if M.code==5 then aQ [M.addr,M.value]
  else if M.code==15&&dir==0 then ((aQ [M.addr,M.count]++[((dy M.bits).length:Int)%256])++dy M.bits)
  else if dir==1&&M.code != 15 then [(M.data.length:Int)%256]++M.data
  else aQ [M.addr,M.count]
variable {dir:Int}
theorem tP{cs:Array Value}{M:b6}   (h:aE m w cs.toList M)(hf:bf M) : Calls Tryz.prog 147 #[vI dir,.agg cs] w (wK (cj dir M) w):=by
 refine iK h fun Aw kw Ab kb Ad kd Ar kr Ao ko e hw hbt hd hr ho _ _ _ _ _ _ _ _ _ _ q0 q1 q2 q3 q4 q5 q6 q7 q8 q9 ai ak an ao ar av aw=>?_
 subst e
 have hf1:=hf.words
 have hf2:=hf.bits
 have hf3:=hf.data
 have hf4:=hf.recs
 have hf5:=hf.objects
 refine en 62 Tryz.func147 rfl<|sg<|L0<|cU (mG M.code M.fail M.addr M.count M.value M.and_ M.or_ M.addr2 M.sub M.status M.events M.messages (.slice Aw M.words.length kw) (.slice Ab M.bits.length kb) (.slice Ad M.data.length kd) (.slice Ar M.recs.length kr) M.mei M.kind M.level M.more M.next (.slice Ao M.objects.length ko)) fun ay aA aD a b=>al 1<|sq<|bk<|au 1<|ax a 0<|Pl 2<|nl<|tn<|cb ((M.code==5)) (fun c=>?_) (fun c=>?_)
 have D:=aC c
 refine au 1<|ax a 2<|Pl 1<|ax a 4<|L0<|dv (m:=2) (e:=37) #[vW M.addr,vW M.value] fun aG aI E F n=>?_
 have G:=gN E (xs:=[M.addr,M.value]) (by as_aux_lemma=>kernel_rfl) (am (by omega) (am (by omega) aY)) (by(try simp only[List.length_cons,List.length_nil]);omega) F
 refine aF<|eU (bW (xs:=[M.addr,M.value]) (G).rd (by(try simp only[List.length_cons,List.length_nil]);omega)) fun H I aK J aL aM L=>al 1<|rt<|br<|tr<|rr (.slice H ((aQ ([M.addr,M.value])).length) I)<|?_
 have hs:cj dir M=(aQ ([M.addr,M.value])):=by
   unfold cj
   (try simp only[c,bt,reduceIte])
   all_goals first | rfl | (simp_all;done)
 rw[hs]
 exact⟨_,rfl,(aJ.weaken J (le b.size n.size)),(aH b (aH n L))⟩
 have D:=aO c
 refine au 1<|ax a 0<|Pl 2<|gy 3 [20] 23 20 (M.code==15) (dir==0) (fun K N O=>?_) ?_
 have aP:=aC O
 exact Pl 3<|ce N _ rfl
 refine al 1<|cb (((M.code==15)&&(dir==0))) (fun d=>?_) (fun d=>?_)
 have o:=(bK d).1
 have p:=(bK d).2
 have aU:=aC o
 have aV:=aC p
 refine au 1<|ax a 13<|?_
 refine aF<|eU (xd (l:=M.bits) (mF.old hbt b) (by omega)) fun aW aX aZ P b0 b1 g=>?_
 have b2:=wV M.bits
 refine Pl 1<|aS 1<|?_
 have q:=ub g a
 refine ax q 2<|Pl 1<|ax q 3<|L0<|dv (m:=2) (e:=37) #[vW M.addr,vW M.count] fun b3 b4 Q R i=>?_
 have S:=gN Q (xs:=[M.addr,M.count]) (by as_aux_lemma=>kernel_rfl) (am (by omega) (am (by omega) aY)) (by(try simp only[List.length_cons,List.length_nil]);omega) R
 refine aF<|eU (bW (xs:=[M.addr,M.count]) (S).rd (by(try simp only[List.length_cons,List.length_nil]);omega)) fun T b5 b7 r b8 b9 s=>Pl 3<|L0<|dv (m:=1) (e:=5) #[vB (((dy M.bits).length:Int)%256)] fun ba bb U V j=>?_
 have W:=dF U (xs:=[(((dy M.bits).length:Int)%256)]) (by as_aux_lemma=>kernel_rfl) (am (by omega) aY) (by(try simp only[List.length_cons,List.length_nil]);omega) V
 refine L0<|cZ bh (xs:=(aQ ([M.addr,M.count]))) (ys:=([(((dy M.bits).length:Int)%256)])) (vB 0) 1 (aj r j (fun x hx=>az) (fun _ _ h=>h)) (W).rd (by(try simp only[cl,aq]);omega) (le s.size j.size) fun bc bd be t X=>Pl 1<|?_
 have u:=ut s (ut (ap.mono (S':=(ob T++[])) j aB) X (ah il aB)) (ah (aT r lr) aB)
 have v:=aH i u
 refine L0<|cZ bh (xs:=((aQ ([M.addr,M.count]))++[(((dy M.bits).length:Int)%256)])) (ys:=(dy M.bits)) (vB 0) 1 t ((aj P v (fun x hx=>az) (fun _ _ h=>h))).rd (by(try simp only[cl,aq]);omega) u.size fun Y Z bg a0 a1=>al 1<|rt<|br<|tr<|rr (.slice Y ((((aQ ([M.addr,M.count]))++[(((dy M.bits).length:Int)%256)])++(dy M.bits)).length) Z)<|?_
 have hs:cj dir M=(((aQ ([M.addr,M.count]))++[(((dy M.bits).length:Int)%256)])++(dy M.bits)):=by
   unfold cj
   (try simp only[c,d,o,p,bt,reduceIte])
   all_goals first | rfl | (simp_all;done)
 rw[hs]
 exact⟨_,rfl,(aJ.weaken a0 (le (le b.size g.size) i.size)),(aH b (aH g (ut v a1 (ah (aT t i.size) aB))))⟩
 refine au 3<|gy 4 [43] 47 43 (dir==1) (M.code != 15) (fun K a2 a3=>?_) ?_
 have bi:=aC a3
 exact Pl 1<|L1<|ii a 0<|Pl 2<|ce a2 _ rfl
 refine al 1<|cb (((dir==1)&&(M.code != 15))) (fun f=>?_) (fun f=>?_)
 have y:=(bK f).1
 have z:=(bK f).2
 have bj:=aC y
 have bl:=aN z
 refine au 1<|ax a 14<|Pl 2<|L0<|dv (m:=1) (e:=5) #[vB ((M.data.length:Int)%256)] fun bm bo a4 a5 k=>?_
 have A:=dF a4 (xs:=[((M.data.length:Int)%256)]) (by as_aux_lemma=>kernel_rfl) (am (by omega) aY) (by(try simp only[List.length_cons,List.length_nil]);omega) a5
 refine Pl 1<|?_
 refine ax (ub k a) 14<|?_
 have B:=aH b k
 refine L0<|cZ bh (xs:=([((M.data.length:Int)%256)])) (ys:=M.data) (vB 0) 1 A (aR.old hd B) (by(try simp only[cl,aq]);omega) k.size fun a6 a7 bp a8 a9=>al 1<|rt<|br<|tr<|rr (.slice a6 (([((M.data.length:Int)%256)]++M.data).length) a7)<|?_
 have hs:cj dir M=([((M.data.length:Int)%256)]++M.data):=by
   unfold cj
   (try simp only[c,d,f,y,z,bt,reduceIte])
   all_goals first | rfl | (simp_all;done)
 rw[hs]
 exact⟨_,rfl,(aJ.weaken a8 b.size),(ut B a9 (ah (aT A b.size) aB))⟩
 refine sk<|bn<|tn<|au 1<|ax a 2<|Pl 1<|ax a 3<|L0<|dv (m:=2) (e:=37) #[vW M.addr,vW M.count] fun bq bs aa ab C=>?_
 have ac:=gN aa (xs:=[M.addr,M.count]) (by as_aux_lemma=>kernel_rfl) (am (by omega) (am (by omega) aY)) (by(try simp only[List.length_cons,List.length_nil]);omega) ab
 refine aF<|eU (bW (xs:=[M.addr,M.count]) (ac).rd (by(try simp only[List.length_cons,List.length_nil]);omega)) fun ad ae bu af bv bw ag=>al 1<|rt<|rr (.slice ad ((aQ ([M.addr,M.count])).length) ae)<|?_
 have hs:cj dir M=(aQ ([M.addr,M.count])):=by
   unfold cj
   (try simp only[c,d,f,bt,reduceIte])
   all_goals first | rfl | (simp_all;done)
 rw[hs]
 exact⟨_,rfl,(aJ.weaken af (le b.size C.size)),(aH b (aH C ag))⟩
open Go.RowKit
def dh (x:Bool)(w:World)(e:Ending)(w':World) : Prop:=e = .returned (.bool x)∧ap [] w w'
variable {α:Type}
theorem sO[DecidableEq α]{xs ys:List α}{d:α}(h:xs.length=ys.length){k:Nat}(hk:k<xs.length)(hp:xs.take k=ys.take k)(hx:xs.getD k d=ys.getD k d) : xs.take (k+1)=ys.take (k+1):=by
  rw[List.take_add_one,List.take_add_one,hp]
  simp only[List.getD_eq_getElem?_getD,List.getElem?_eq_getElem hk,List.getElem?_eq_getElem (h▸hk),Option.getD_some] at hx
  simp[List.getElem?_eq_getElem hk,List.getElem?_eq_getElem (h▸hk),hx]
theorem zm[DecidableEq α]{xs ys:List α}{d:α}(k:Nat)(hx:xs.getD k d≠ys.getD k d) : xs≠ys:=fun h=>hx (by rw[h])
variable {m':Md}{u:Value}{xs:List Int}
theorem sH{ys:List Int}  (hx:eO m w u xs)(hy:eO m' w v ys) : Calls Tryz.prog 133 #[u,v] w (dh (decide (xs=ys)) w):=by
  have hhx:=hx
  have hhy:=hy
  obtain⟨A,c,rfl,hc1,hc2⟩:=hx.shape
  obtain⟨B,c',rfl,s6,oo⟩:=hy.shape
  have hn:xs.length≤9223372036854775807:=by have:=hc2;unfold maxLen at this;omega
  by_cases hl:xs.length=ys.length
  case neg =>
    have hno:∀ W,ap [] w W→dh (decide (xs=ys)) w (.returned (.bool false)) W:=by
      intro W hW
      rw[decide_eq_false (fun h=>hl (by rw[h]))]
      exact⟨rfl,hW⟩
    have hli:((xs.length:Int)!=(ys.length:Int))=true:=by simp;omega
    clear hx hy hhx hhy hl
    go_enter Tryz.func133,Tryz.ntmps133
    go_wp2
    go_ret
    exact hno _ (ap.refl _ _)
  have hno:∀ W k,xs.getD k 0≠ys.getD k 0→ap [] w W→dh (decide (xs=ys)) w (.returned (.bool false)) W:=by
    intro W k hk hW
    rw[decide_eq_false (zm k hk)]
    exact⟨rfl,hW⟩
  have hyes:∀ W,xs.take xs.length=ys.take xs.length→ap [] w W→dh (decide (xs=ys)) w (.returned (.bool true)) W:=by
    intro W hk hW
    rw[List.take_length,hl,List.take_length] at hk
    rw[decide_eq_true hk]
    exact⟨rfl,hW⟩
  revert hno hyes
  generalize dh (decide (xs=ys)) w=P
  intro hno hyes
  have hli:((xs.length:Int)!=(ys.length:Int))=false:=by simp;omega
  have hL:=Lib.hid hl
  clear hx hy hl
  go_enter Tryz.func133,Tryz.ntmps133
  go_wp2
  go_loopw [13] (fun i wr=>∃ k:Nat,k≤xs.length∧i = .int .i64 (k:Int)∧xs.take k=ys.take k∧ap [] w wr) (fun i _=>xs.length-(intOf i).toNat)
  case atStart=>exact⟨0,by omega,rfl,by simp,ap.refl _ _⟩
  case round =>
    obtain⟨k,hk,rfl,hpre,hu⟩:=hrel
    by_cases hlt:k<xs.length
    · obtain⟨b,off,rfl,cw0,hr0⟩:=eO.at_ hhx k hlt
      obtain⟨b',off',rfl,cw1,hr1⟩:=eO.at_ hhy k (by have:=hL.out;omega)
      have hlt':k<ys.length:=by have:=hL.out;omega
      have hstep:=fun h=>sO (d:=0) hL.out hlt hpre h
      have hno':=fun W h=>hno W k h
      revert cw0 cw1 hstep hno' hr0 hr1
      generalize xs.getD k 0=x0
      generalize ys.getD k 0=y0
      intro cw0 hr0 cw1 hr1 hstep hno'
      have hc0:=hu.cell (by simp) cw0
      have hc1:=hu.cell (by simp) cw1
      have hstep:=Lib.hid hstep
      have hno':=Lib.hid hno'
      clear cw0 cw1 hhx hhy hpre hno hyes
      have hc0:wr.drew.cell? ⟨b,off+k,none⟩=some (.int .u16 x0):=hc0
      have hc1:wr.drew.cell? ⟨b',off'+k,none⟩=some (.int .u16 y0):=hc1
      go_wp2
      refine pH (S:=fun w'=>w'.cell? ⟨b,off+k,none⟩=some (.int .u16 x0)∧w'.cell? ⟨b',off'+k,none⟩=some (.int .u16 y0)) (n:=9) #[false,false,false,false,false,false,false,false,false] (by kernel_rfl) rfl rfl ⟨hc0,hc1⟩ (fun hHeld=>?_)
      refine cS (i:=0) (N:=some 16) (v:=?_) (a':=?_) #[true,false,false,false,false,false,false,false,false] rfl rfl (by kernel_rfl) (fun _ _ _ h=>h) (Or.inl ⟨by rfl,?_⟩) hHeld ?_ ?_
      rotate_left
      · rintro w' ⟨hs0,hs1⟩
        go_simp
        with_reducible rfl
      rotate_left
      · simp only[Act.put,List.setIfInBounds_toArray,List.set_cons_zero,List.set_cons_succ]
        rfl
      refine cS (i:=1) (N:=some 17) (v:=?_) (a':=?_) #[true,true,false,false,false,false,false,false,false] rfl rfl (by kernel_rfl) (fun _ _ _ h=>h) (Or.inl ⟨by rfl,?_⟩) hHeld ?_ ?_
      rotate_left
      · rintro w' ⟨hs0,hs1⟩
        go_simp
        with_reducible rfl
      rotate_left
      · simp only[Act.put,List.setIfInBounds_toArray,List.set_cons_zero,List.set_cons_succ]
        rfl
      refine cS (i:=2) (N:=some 18) (v:=?_) (a':=?_) #[true,true,true,false,false,false,false,false,false] rfl rfl (by kernel_rfl) (fun _ _ _ h=>h) (Or.inl ⟨by rfl,?_⟩) hHeld ?_ ?_
      rotate_left
      · rintro w' ⟨hs0,hs1⟩
        go_simp
        with_reducible rfl
      rotate_left
      · simp only[Act.put,List.setIfInBounds_toArray,List.set_cons_zero,List.set_cons_succ]
        rfl
      refine cS (i:=3) (N:=some 19) (v:=?_) (a':=?_) #[true,true,true,true,false,false,false,false,false] rfl rfl (by kernel_rfl) (fun _ _ _ h=>h) (Or.inl ⟨by rfl,?_⟩) hHeld ?_ ?_
      rotate_left
      · rintro w' ⟨hs0,hs1⟩
        go_simp
        with_reducible rfl
      rotate_left
      · simp only[Act.put,List.setIfInBounds_toArray,List.set_cons_zero,List.set_cons_succ]
        rfl
      refine cS (i:=4) (N:=some 20) (v:=?_) (a':=?_) #[true,true,true,true,true,false,false,false,false] rfl rfl (by kernel_rfl) (fun _ _ _ h=>h) (Or.inl ⟨by rfl,?_⟩) hHeld ?_ ?_
      rotate_left
      · rintro w' ⟨hs0,hs1⟩
        go_simp
        with_reducible rfl
      rotate_left
      · simp only[Act.put,List.setIfInBounds_toArray,List.set_cons_zero,List.set_cons_succ]
        rfl
      refine cS (i:=5) (N:=some 21) (v:=?_) (a':=?_) #[true,true,true,true,true,true,false,false,false] rfl rfl (by kernel_rfl) (fun _ _ _ h=>h) (Or.inl ⟨by rfl,?_⟩) hHeld ?_ ?_
      rotate_left
      · rintro w' ⟨hs0,hs1⟩
        go_simp
        with_reducible rfl
      rotate_left
      · simp only[Act.put,List.setIfInBounds_toArray,List.set_cons_zero,List.set_cons_succ]
        rfl
      refine cS (i:=6) (N:=some 22) (v:=?_) (a':=?_) #[true,true,true,true,true,true,true,false,false] rfl rfl (by kernel_rfl) (fun _ _ _ h=>h) (Or.inl ⟨by rfl,?_⟩) hHeld ?_ ?_
      rotate_left
      · rintro w' ⟨hs0,hs1⟩
        go_simp
        with_reducible rfl
      rotate_left
      · simp only[Act.put,List.setIfInBounds_toArray,List.set_cons_zero,List.set_cons_succ]
        rfl
      refine cS (i:=7) (N:=some 23) (v:=?_) (a':=?_) #[true,true,true,true,true,true,true,true,false] rfl rfl (by kernel_rfl) (fun _ _ _ h=>h) (Or.inl ⟨by rfl,?_⟩) hHeld ?_ ?_
      rotate_left
      · rintro w' ⟨hs0,hs1⟩
        go_simp
        with_reducible rfl
      rotate_left
      · simp only[Act.put,List.setIfInBounds_toArray,List.set_cons_zero,List.set_cons_succ]
        rfl
      refine cS (i:=8) (N:=some 24) (v:=?_) (a':=?_) #[true,true,true,true,true,true,true,true,true] rfl rfl (by kernel_rfl) (fun _ _ _ h=>h) (Or.inl ⟨by rfl,?_⟩) hHeld ?_ ?_
      rotate_left
      · rintro w' ⟨hs0,hs1⟩
        go_simp
        with_reducible rfl
      rotate_left
      · simp only[Act.put,List.setIfInBounds_toArray,List.set_cons_zero,List.set_cons_succ]
        rfl
      refine t4 (by kernel_rfl) ?_
      clear hc0 hc1 hHeld
      go_wp2
      · exact hno'.out _ (by simpa using (show(x0 != y0)=true by assumption)) (hu.drew)
      · go_roundw
        case rel=>exact⟨k+1,by omega,by go_num,hstep.out (by simpa using (show(x0 != y0)=false by assumption)),hu.drew⟩
        case measure=>simp[intOf];omega
    · have hj3:k=xs.length:=by omega
      have H3:=Lib.hid hj3
      rw[hj3] at hpre
      clear hj3 hhx hhy
      go_wp2
      exact hyes _ hpre hu
theorem yA{xs ys:List Bool}  (hx:mF m w u xs)(hy:mF m' w v ys) : Calls Tryz.prog 134 #[u,v] w (dh (decide (xs=ys)) w):=by
  have hhx:=hx
  have hhy:=hy
  obtain⟨A,c,rfl,hc1,hc2⟩:=hx.shape
  obtain⟨B,c',rfl,s6,oo⟩:=hy.shape
  have hn:xs.length≤9223372036854775807:=by have:=hc2;unfold maxLen at this;omega
  by_cases hl:xs.length=ys.length
  case neg =>
    have hno:∀ W,ap [] w W→dh (decide (xs=ys)) w (.returned (.bool false)) W:=by
      intro W hW
      rw[decide_eq_false (fun h=>hl (by rw[h]))]
      exact⟨rfl,hW⟩
    have hli:((xs.length:Int)!=(ys.length:Int))=true:=by simp;omega
    clear hx hy hhx hhy hl
    go_enter Tryz.func134,Tryz.ntmps134
    go_wp2
    go_ret
    exact hno _ (ap.refl _ _)
  have hno:∀ W k,xs.getD k false≠ys.getD k false→ap [] w W→dh (decide (xs=ys)) w (.returned (.bool false)) W:=by
    intro W k hk hW
    rw[decide_eq_false (zm k hk)]
    exact⟨rfl,hW⟩
  have hyes:∀ W,xs.take xs.length=ys.take xs.length→ap [] w W→dh (decide (xs=ys)) w (.returned (.bool true)) W:=by
    intro W hk hW
    rw[List.take_length,hl,List.take_length] at hk
    rw[decide_eq_true hk]
    exact⟨rfl,hW⟩
  revert hno hyes
  generalize dh (decide (xs=ys)) w=P
  intro hno hyes
  have hli:((xs.length:Int)!=(ys.length:Int))=false:=by simp;omega
  have hL:=Lib.hid hl
  clear hx hy hl
  go_enter Tryz.func134,Tryz.ntmps134
  go_wp2
  go_loopw [13] (fun i wr=>∃ k:Nat,k≤xs.length∧i = .int .i64 (k:Int)∧xs.take k=ys.take k∧ap [] w wr) (fun i _=>xs.length-(intOf i).toNat)
  case atStart=>exact⟨0,by omega,rfl,by simp,ap.refl _ _⟩
  case round =>
    obtain⟨k,hk,rfl,hpre,hu⟩:=hrel
    by_cases hlt:k<xs.length
    · obtain⟨b,off,rfl,cw0⟩:=mF.at_ hhx k hlt
      obtain⟨b',off',rfl,cw1⟩:=mF.at_ hhy k (by have:=hL.out;omega)
      have hlt':k<ys.length:=by have:=hL.out;omega
      have hstep:=fun h=>sO (d:=false) hL.out hlt hpre h
      have hno':=fun W h=>hno W k h
      revert cw0 cw1 hstep hno'
      generalize xs.getD k false=x0
      generalize ys.getD k false=y0
      intro cw0 cw1 hstep hno'
      have hc0:=hu.cell (by simp) cw0
      have hc1:=hu.cell (by simp) cw1
      have hstep:=Lib.hid hstep
      have hno':=Lib.hid hno'
      clear cw0 cw1 hhx hhy hpre hno hyes
      have hc0:wr.drew.cell? ⟨b,off+k,none⟩=some (.bool x0):=hc0
      have hc1:wr.drew.cell? ⟨b',off'+k,none⟩=some (.bool y0):=hc1
      go_wp2
      refine pH (S:=fun w'=>w'.cell? ⟨b,off+k,none⟩=some (.bool x0)∧w'.cell? ⟨b',off'+k,none⟩=some (.bool y0)) (n:=9) #[false,false,false,false,false,false,false,false,false] (by kernel_rfl) rfl rfl ⟨hc0,hc1⟩ (fun hHeld=>?_)
      refine cS (i:=0) (N:=some 16) (v:=?_) (a':=?_) #[true,false,false,false,false,false,false,false,false] rfl rfl (by kernel_rfl) (fun _ _ _ h=>h) (Or.inl ⟨by rfl,?_⟩) hHeld ?_ ?_
      rotate_left
      · rintro w' ⟨hs0,hs1⟩
        go_simp
        with_reducible rfl
      rotate_left
      · simp only[Act.put,List.setIfInBounds_toArray,List.set_cons_zero,List.set_cons_succ]
        rfl
      refine cS (i:=1) (N:=some 17) (v:=?_) (a':=?_) #[true,true,false,false,false,false,false,false,false] rfl rfl (by kernel_rfl) (fun _ _ _ h=>h) (Or.inl ⟨by rfl,?_⟩) hHeld ?_ ?_
      rotate_left
      · rintro w' ⟨hs0,hs1⟩
        go_simp
        with_reducible rfl
      rotate_left
      · simp only[Act.put,List.setIfInBounds_toArray,List.set_cons_zero,List.set_cons_succ]
        rfl
      refine cS (i:=2) (N:=some 18) (v:=?_) (a':=?_) #[true,true,true,false,false,false,false,false,false] rfl rfl (by kernel_rfl) (fun _ _ _ h=>h) (Or.inl ⟨by rfl,?_⟩) hHeld ?_ ?_
      rotate_left
      · rintro w' ⟨hs0,hs1⟩
        go_simp
        with_reducible rfl
      rotate_left
      · simp only[Act.put,List.setIfInBounds_toArray,List.set_cons_zero,List.set_cons_succ]
        rfl
      refine cS (i:=3) (N:=some 19) (v:=?_) (a':=?_) #[true,true,true,true,false,false,false,false,false] rfl rfl (by kernel_rfl) (fun _ _ _ h=>h) (Or.inl ⟨by rfl,?_⟩) hHeld ?_ ?_
      rotate_left
      · rintro w' ⟨hs0,hs1⟩
        go_simp
        with_reducible rfl
      rotate_left
      · simp only[Act.put,List.setIfInBounds_toArray,List.set_cons_zero,List.set_cons_succ]
        rfl
      refine cS (i:=4) (N:=some 20) (v:=?_) (a':=?_) #[true,true,true,true,true,false,false,false,false] rfl rfl (by kernel_rfl) (fun _ _ _ h=>h) (Or.inl ⟨by rfl,?_⟩) hHeld ?_ ?_
      rotate_left
      · rintro w' ⟨hs0,hs1⟩
        go_simp
        with_reducible rfl
      rotate_left
      · simp only[Act.put,List.setIfInBounds_toArray,List.set_cons_zero,List.set_cons_succ]
        rfl
      refine cS (i:=5) (N:=some 21) (v:=?_) (a':=?_) #[true,true,true,true,true,true,false,false,false] rfl rfl (by kernel_rfl) (fun _ _ _ h=>h) (Or.inl ⟨by rfl,?_⟩) hHeld ?_ ?_
      rotate_left
      · rintro w' ⟨hs0,hs1⟩
        go_simp
        with_reducible rfl
      rotate_left
      · simp only[Act.put,List.setIfInBounds_toArray,List.set_cons_zero,List.set_cons_succ]
        rfl
      refine cS (i:=6) (N:=some 22) (v:=?_) (a':=?_) #[true,true,true,true,true,true,true,false,false] rfl rfl (by kernel_rfl) (fun _ _ _ h=>h) (Or.inl ⟨by rfl,?_⟩) hHeld ?_ ?_
      rotate_left
      · rintro w' ⟨hs0,hs1⟩
        go_simp
        with_reducible rfl
      rotate_left
      · simp only[Act.put,List.setIfInBounds_toArray,List.set_cons_zero,List.set_cons_succ]
        rfl
      refine cS (i:=7) (N:=some 23) (v:=?_) (a':=?_) #[true,true,true,true,true,true,true,true,false] rfl rfl (by kernel_rfl) (fun _ _ _ h=>h) (Or.inl ⟨by rfl,?_⟩) hHeld ?_ ?_
      rotate_left
      · rintro w' ⟨hs0,hs1⟩
        go_simp
        with_reducible rfl
      rotate_left
      · simp only[Act.put,List.setIfInBounds_toArray,List.set_cons_zero,List.set_cons_succ]
        rfl
      refine cS (i:=8) (N:=some 24) (v:=?_) (a':=?_) #[true,true,true,true,true,true,true,true,true] rfl rfl (by kernel_rfl) (fun _ _ _ h=>h) (Or.inl ⟨by rfl,?_⟩) hHeld ?_ ?_
      rotate_left
      · rintro w' ⟨hs0,hs1⟩
        go_simp
        with_reducible rfl
      rotate_left
      · simp only[Act.put,List.setIfInBounds_toArray,List.set_cons_zero,List.set_cons_succ]
        rfl
      refine t4 (by kernel_rfl) ?_
      clear hc0 hc1 hHeld
      go_wp2
      · exact hno'.out _ (by simpa using (show(x0 != y0)=true by assumption)) (hu.drew)
      · go_roundw
        case rel=>exact⟨k+1,by omega,by go_num,hstep.out (by simpa using (show(x0 != y0)=false by assumption)),hu.drew⟩
        case measure=>simp[intOf];omega
    · have hj3:k=xs.length:=by omega
      have H3:=Lib.hid hj3
      rw[hj3] at hpre
      clear hj3 hhx hhy
      go_wp2
      exact hyes _ hpre hu
open Go.RowKit
theorem aR.cells{n c:Nat}  (h:aR m w (.slice A n c) xs) : (A=none∧xs=[])∨xs=[]∨∃ b off,A=some ⟨b,off,none⟩∧∀ i,i<xs.length→w.cell? ⟨b,off+i,none⟩=some (.int .u8 (xs.getD i 0)):=by
  by_cases h0:xs=[]
  · exact .inr (.inl h0)
  · have hl:0<xs.length:=List.length_pos_iff.2 h0
    obtain⟨b,off,rfl,_⟩:=aR.at_ h 0 hl
    refine .inr (.inr ⟨b,off,rfl,fun i hi=>?_⟩)
    obtain⟨b',off',hA,hc,_⟩:=aR.at_ h i hi
    injection hA with hA
    injection hA with h1 h2
    subst h1 h2
    exact hc
theorem sN(h:aR m w v xs) : (convert 27 9 v).run Tryz.prog w = .ok (.string (strOfNums xs)) w:=by
  have hh:=h
  obtain⟨A,c,rfl,h1,h2,h0,h3⟩:=hh
  rcases Nat.eq_zero_or_pos xs.length with hz|hz
  · obtain rfl:xs=[]:=List.eq_nil_of_length_eq_zero hz
    cases A with
    | none=>exact run_convert_bytes_nil w _ _ Tryz.underlying27 Tryz.underlying5 _ _ _ Tryz.underlying9
    | some a =>
      rw[run_convert_bytes_string w _ _ _ _ _ _ Tryz.underlying27 Tryz.underlying5 Tryz.underlying9]
      rw[run_bytesToString w a _ c [] (by simp[loadCells,loadCellsFrom,Sem.run_pure])]
      rfl
  · obtain⟨b,off,cells,t,fr,rfl,hb,ht,hx⟩:=h3 hz
    exact run_convert_bytes_arg w _ _ Tryz.underlying27 Tryz.underlying5 b off _ c xs rfl (fun i hi=>by
      obtain⟨b',off',hA,hc,_⟩:=aR.at_ h i hi
      injection hA with hA
      injection hA with h1 h2
      subst h1 h2
      exact hc) _ Tryz.underlying9
theorem tb:∀ {xs ys:List Int},(∀ x,x∈xs→0≤x∧x<256)→(∀ x,x∈ys→0≤x∧x<256)→(xs.map fun n=>UInt8.ofNat n.toNat)=(ys.map fun n=>UInt8.ofNat n.toNat)→xs=ys
  | [],[],_,_,_=>rfl
  | [],_ :: _,_,_,h=>by simp at h
  | _ :: _,[],_,_,h=>by simp at h
  | x :: xs,y :: ys,hx,hy,h=>by
    simp only[List.map_cons,List.cons.injEq] at h
    have h1:=hx x (by simp)
    have h2:=hy y (by simp)
    have h3:x=y:=by
      have:=congrArg UInt8.toNat h.1
      simp at this
      omega
    rw[h3,tb (fun z hz=>hx z (by simp[hz])) (fun z hz=>hy z (by simp[hz])) h.2]
variable {w':World}
theorem uD{W:World}  {ys:List Int}(hx:aR m w u xs)(hy:aR m' w' v ys) : (binOp .eql 9 (.string (strOfNums xs)) (.string (strOfNums ys))).run Tryz.prog W = .ok (.bool (decide (xs=ys))) W:=by
  have e:((strOfNums xs).toList==(strOfNums ys).toList)=decide (xs=ys):=by
    by_cases h:xs=ys
    · subst h;simp
    · rw[decide_eq_false h,beq_eq_false_iff_ne]
      intro h2
      rw[ByteArray.toList_eq,ByteArray.toList_eq] at h2
      exact h (tb hx.rng hy.rng h2)
  rw[binOp_string_eql,e]
  rfl
theorem yq{A B:dY}:decide (A=B)=(decide (A.file=B.file)&&(decide (A.record=B.record)&&(decide (A.count=B.count)&&decide (A.words=B.words)))):=by
  rw[Bool.eq_iff_iff]
  cases A;cases B
  simp
theorem zw{ca cb:List Value}{A B:dY}  (ha:bE m w A ca)(hb:bE m' w B cb) : Calls Tryz.prog 136 #[.agg ca.toArray,.agg cb.toArray] w (dh (decide (A=B)) w):=by
  obtain⟨va,rfl,hwa,hra⟩:=ha
  obtain⟨vb,rfl,hwb,hrb⟩:=hb
  rw[yq]
  generalize A.file=f1 at *
  generalize A.record=f2 at *
  generalize A.count=f3 at *
  generalize A.words=f4 at *
  generalize B.file=g1 at *
  generalize B.record=g2 at *
  generalize B.count=g3 at *
  generalize B.words=g4 at *
  clear hra hrb
  have hpost:∀ W,ap [] w W→dh (decide (f1=g1)&&(decide (f2=g2)&&(decide (f3=g3)&&decide (f4=g4)))) w (.returned (.bool (decide (f1=g1)&&(decide (f2=g2)&&(decide (f3=g3)&&decide (f4=g4)))))) W:=fun W h=>⟨rfl,h⟩
  revert hpost
  generalize dh (decide (f1=g1)&&(decide (f2=g2)&&(decide (f3=g3)&&decide (f4=g4)))) w=P
  intro hpost
  by_cases h1:f1=g1
  case neg =>
    have e:(decide (f1=g1)&&(decide (f2=g2)&&(decide (f3=g3)&&decide (f4=g4))))=false:=by simp[h1]
    rw[e] at hpost
    have e1:(f1==g1)=false:=by simpa using h1
    clear h1 e hwa hwb
    replace hpost:=Lib.hid hpost
    go_enter Tryz.func136,Tryz.ntmps136
    go_wp2
    exact hpost.out _ (((ap.refl [] w).alloc _).alloc _)
  subst h1
  by_cases h1:f2=g2
  case neg =>
    have e:(decide (f1=f1)&&(decide (f2=g2)&&(decide (f3=g3)&&decide (f4=g4))))=false:=by simp[h1]
    rw[e] at hpost
    have e1:(f2==g2)=false:=by simpa using h1
    clear h1 e hwa hwb
    replace hpost:=Lib.hid hpost
    go_enter Tryz.func136,Tryz.ntmps136
    go_wp2
    exact hpost.out _ (((ap.refl [] w).alloc _).alloc _)
  subst h1
  by_cases h1:f3=g3
  case neg =>
    have e:(decide (f1=f1)&&(decide (f2=f2)&&(decide (f3=g3)&&decide (f4=g4))))=false:=by simp[h1]
    rw[e] at hpost
    have e1:(f3==g3)=false:=by simpa using h1
    clear h1 e hwa hwb
    replace hpost:=Lib.hid hpost
    go_enter Tryz.func136,Tryz.ntmps136
    go_wp2
    exact hpost.out _ (((ap.refl [] w).alloc _).alloc _)
  subst h1
  have e:(decide (f1=f1)&&(decide (f2=f2)&&(decide (f3=f3)&&decide (f4=g4))))=decide (f4=g4):=by simp
  rw[e] at hpost
  clear e
  have hcall:=fun(W:World) (h:ap [] w W)=>sH (hwa.old h) (hwb.old h)
  replace hpost:=Lib.hid hpost
  go_enter Tryz.func136,Tryz.ntmps136
  go_wp2_with (go_at_call 133;refine(hcall _ (((ap.refl [] w).alloc _).alloc _)).mono ?_;rintro e w1 ⟨rfl,hu1⟩)
  exact hpost.out _ ((((ap.refl [] w).alloc _).alloc _).step hu1)
theorem yg{A B:Obj}:decide (A=B)=(decide (A.id=B.id)&&decide (A.value=B.value)):=by
  rw[Bool.eq_iff_iff]
  cases A;cases B
  simp
theorem qY{ca cb:List Value}{A B:Obj}  (ha:cz m w A ca)(hb:cz m' w B cb) : Calls Tryz.prog 138 #[.agg ca.toArray,.agg cb.toArray] w (dh (decide (A=B)) w):=by
  obtain⟨va,rfl,hwa,hra⟩:=ha
  obtain⟨vb,rfl,hwb,hrb⟩:=hb
  rw[yg]
  generalize A.id=f1 at *
  generalize A.value=f4 at *
  generalize B.id=g1 at *
  generalize B.value=g4 at *
  clear hra hrb
  have hpost:∀ W,ap [] w W→dh (decide (f1=g1)&&decide (f4=g4)) w (.returned (.bool (decide (f1=g1)&&decide (f4=g4)))) W:=fun W h=>⟨rfl,h⟩
  revert hpost
  generalize dh (decide (f1=g1)&&decide (f4=g4)) w=P
  intro hpost
  by_cases h1:f1=g1
  case neg =>
    have e:(decide (f1=g1)&&decide (f4=g4))=false:=by simp[h1]
    rw[e] at hpost
    have e1:(f1==g1)=false:=by simpa using h1
    clear h1 e hwa hwb
    replace hpost:=Lib.hid hpost
    go_enter Tryz.func138,Tryz.ntmps138
    go_wp2
    exact hpost.out _ (((ap.refl [] w).alloc _).alloc _)
  subst h1
  have e:(decide (f1=f1)&&decide (f4=g4))=decide (f4=g4):=by simp
  rw[e] at hpost
  have hu0:ap [] w ((w.alloc (.cells #[.int .u8 f1,va] 100)).alloc (.cells #[.int .u8 f1,vb] 100)):=((ap.refl [] w).alloc _).alloc _
  have c1:=sN (hwa.old hu0)
  have c2:=sN (hwb.old hu0)
  have c3:=uD (hwa.old hu0) (hwb.old hu0) (W:=(w.alloc (.cells #[.int .u8 f1,va] 100)).alloc (.cells #[.int .u8 f1,vb] 100))
  replace hpost:=hpost _ hu0
  generalize strOfNums f4=s1 at *
  generalize strOfNums g4=s2 at *
  generalize decide (f4=g4)=D at *
  clear hu0 hwa hwb e
  rw[binOp_string_eql] at c3
  have c4:(s1.toList==s2.toList)=D:=by simpa [Sem.run_pure] using c3
  clear c3
  replace hpost:=Lib.hid hpost
  go_enter Tryz.func138,Tryz.ntmps138
  go_wp2
  exact hpost.out
open Go.RowKit
theorem aP.at_{e:TypeId}{sz:Nat}{R:World→α→List Value→Prop}   {n c:Nat}{xs:List α}(h:aP m e sz R w (.slice A n c) xs)(d:α)(j:Nat)(hj:j<xs.length) :
    ∃ b off cs,A=some ⟨b,off,none⟩∧w.rangeAt b (off+j*sz) cs∧R w (xs.getD j d) cs∧cs.length=sz:=by
  obtain⟨A',c',hv,h1,h2,h0,h3⟩:=h
  injection hv with e1 e2 e3
  subst e1 e3
  obtain⟨b,off,cells,t,fr,rfl,hb,ht,hx⟩:=h3 (by omega)
  obtain⟨cs,h4,h5,h6⟩:=hx j (xs.getD j d) (by simp[List.getD_eq_getElem?_getD,List.getElem?_eq_getElem hj])
  exact⟨b,off,cs,rfl,fun i u hi=>by rw[be hb];exact h6 i u hi,h5,h4⟩
variable {cs:List Value}
theorem bE.upd0(hu:ap [] w w'){r:dY}  (h:bE m w r cs) : bE m w' r cs:=bE.upd hu (bM.nil _ _ _) r cs h
theorem cz.upd0(hu:ap [] w w'){r:Obj}  (h:cz m w r cs) : cz m w' r cs:=cz.upd hu (bM.nil _ _ _) r cs h
theorem eW{b o:Nat}  (h:w.rangeAt b o cs){S:List Nat}(hu:ap S w w')(hb:b∉S) : w'.rangeAt b o cs:=fun j v hj=>hu.cell hb (h j v hj)
theorem oB:(Tryz.prog.info? 98).map (·.zero)=some (some (.agg #[.int .u16 0,.int .u16 0,.int .u16 0,.slice none 0 0])):=by kernel_rfl
theorem gf:(Tryz.prog.info? 98).map (·.size)=some 4:=by kernel_rfl
theorem pQ:(Tryz.prog.info? 100).map (·.zero)=some (some (.agg #[.int .u8 0,.slice none 0 0])):=by kernel_rfl
theorem fT:(Tryz.prog.info? 100).map (·.size)=some 2:=by kernel_rfl
theorem bE.one{r:dY}  (h:bE m w r cs) : cs.toArray.all (·.oneCell')=true∧cs.length=4:=by
  obtain⟨v,rfl,h1,_⟩:=h
  obtain⟨A,c,rfl,_⟩:=h1
  exact⟨by simp[Value.oneCell'],rfl⟩
theorem cz.one{r:Obj}  (h:cz m w r cs) : cs.toArray.all (·.oneCell')=true∧cs.length=2:=by
  obtain⟨v,rfl,h1,_⟩:=h
  obtain⟨A,c,rfl,_⟩:=h1
  exact⟨by simp[Value.oneCell'],rfl⟩
theorem yk{xs ys:List dY}  (hx:qx m w u xs)(hy:qx m' w v ys) :
    Calls Tryz.prog 135 #[u,v,.func (.func 136) #[] #[]] w (dh (decide (xs=ys)) w):=by
  have hhx:=hx
  have hhy:=hy
  obtain⟨A,c,rfl,hc1,hc2⟩:=hx.shape
  obtain⟨B,c',rfl,s6,oo⟩:=hy.shape
  have hn:xs.length≤9223372036854775807:=by have:=hc2;unfold maxLen at this;omega
  by_cases hl:xs.length=ys.length
  case neg =>
    have hno:∀ W,ap [] w W→dh (decide (xs=ys)) w (.returned (.bool false)) W:=by
      intro W hW
      rw[decide_eq_false (fun h=>hl (by rw[h]))]
      exact⟨rfl,hW⟩
    have hli:((xs.length:Int)!=(ys.length:Int))=true:=by simp;omega
    clear hx hy hhx hhy hl
    go_enter Tryz.func135,Tryz.ntmps135
    go_wp2
    go_ret
    exact hno _ (ap.refl _ _)
  have hno:∀ W k,xs.getD k ⟨0,0,0,[]⟩≠ys.getD k ⟨0,0,0,[]⟩→ap [] w W→dh (decide (xs=ys)) w (.returned (.bool false)) W:=by
    intro W k hk hW
    rw[decide_eq_false (zm k hk)]
    exact⟨rfl,hW⟩
  have hyes:∀ W,xs.take xs.length=ys.take xs.length→ap [] w W→dh (decide (xs=ys)) w (.returned (.bool true)) W:=by
    intro W hk hW
    rw[List.take_length,hl,List.take_length] at hk
    rw[decide_eq_true hk]
    exact⟨rfl,hW⟩
  revert hno hyes
  generalize dh (decide (xs=ys)) w=P
  intro hno hyes
  have hli:((xs.length:Int)!=(ys.length:Int))=false:=by simp;omega
  have hL:=Lib.hid hl
  clear hx hy hl
  go_enter Tryz.func135,Tryz.ntmps135
  go_wp2
  go_loopw [17] (fun i wr=>∃ k:Nat,k≤xs.length∧i = .int .i64 (k:Int)∧xs.take k=ys.take k∧ap [] w wr) (fun i _=>xs.length-(intOf i).toNat)
  case atStart=>exact⟨0,by omega,rfl,by simp,ap.refl _ _⟩
  case round =>
    obtain⟨k,hk,rfl,hpre,hu⟩:=hrel
    by_cases hlt:k<xs.length
    · obtain⟨b,off,ca,rfl,cw0,hr0,hl0⟩:=aP.at_ hhx ⟨0,0,0,[]⟩ k hlt
      obtain⟨b',off',cb,rfl,cw1,hr1,hl1⟩:=aP.at_ hhy ⟨0,0,0,[]⟩ k (by have:=hL.out;omega)
      have hlt':k<ys.length:=by have:=hL.out;omega
      have hstep:=fun h=>sO (d:=⟨0,0,0,[]⟩) hL.out hlt hpre h
      have hno':=fun W h=>hno W k h
      revert hstep hno' hr0 hr1
      generalize xs.getD k ⟨0,0,0,[]⟩=x0
      generalize ys.getD k ⟨0,0,0,[]⟩=y0
      intro hr0 hr1 hstep hno'
      have hc0:=Lib.hid (eW cw0 hu (by simp))
      have hc1:=Lib.hid (eW cw1 hu (by simp))
      replace hstep:=Lib.hid hstep
      replace hno':=Lib.hid hno'
      have ha:=Lib.hid hr0
      have hb:=Lib.hid hr1
      clear cw0 cw1 hhx hhy hpre hno hyes hr0 hr1
      have tok1_0:True:=trivial
      have tok1_1:True:=trivial
      have tok1_2:True:=trivial
      have tok1_3:True:=trivial
      have tok1_4:True:=trivial
      have tok1_5:True:=trivial
      have tok1_6:True:=trivial
      have tok1_7:True:=trivial
      have tok1_8:True:=trivial
      go_wp2_with (first | (have _t:=tok1_0;refine wpList_load_mid rfl 98 _ rfl b (off+k*4) rfl ca _ hc0.out Tryz.underlying98 rfl (by rw[hl0];exact gf) ?_;clear _t tok1_0) | (have _t:=tok1_1;refine g9 rfl 98 rfl _ oB ?_;intro g1 w1 hg1 hB1 hu1;clear _t tok1_1) | (have _t:=tok1_2;refine g7 rfl 98 _ _ rfl g1 rfl ca.toArray rfl _ _ hB1 (by simp only[List.size_toArray,hl0];exact gf) (by simp only[List.size_toArray,hl0];rfl) (bE.one ha.out).1 ?_;intro w2 hB2 hu2;have U2:=hu1.fresh1 hu2 hg1;clear _t tok1_2) | (have _t:=tok1_3;refine wpList_load_mid rfl 98 _ rfl b' (off'+k*4) rfl cb _ (eW hc1.out U2 (by simp)) Tryz.underlying98 rfl (by rw[hl1];exact gf) ?_;clear _t tok1_3) | (have _t:=tok1_4;refine g9 rfl 98 rfl _ oB ?_;intro g3 w3 hg3 hB3 hu3;clear _t tok1_4) | (have _t:=tok1_5;refine g7 rfl 98 _ _ rfl g3 rfl cb.toArray rfl _ _ hB3 (by simp only[List.size_toArray,hl1];exact gf) (by simp only[List.size_toArray,hl1];rfl) (bE.one hb.out).1 ?_;intro w4 hB4 hu4;have U4:=hu3.fresh1 hu4 hg3;have a:=U4.blk (by simp) hB2;have V4:=hu.step (U2.step U4);clear _t tok1_5) | (have _t:=tok1_6;refine wpList_load_row rfl 98 _ rfl g1 rfl _ _ _ _ a Tryz.underlying98 rfl (by simp only[List.size_toArray,hl0];exact gf) ?_;clear _t tok1_6) | (have _t:=tok1_7;refine wpList_load_row rfl 98 _ rfl g3 rfl _ _ _ _ hB4 Tryz.underlying98 rfl (by simp only[List.size_toArray,hl1];exact gf) ?_;clear _t tok1_7) | (have _t:=tok1_8;go_at_call 136;refine(zw (bE.upd0 V4 ha.out) (bE.upd0 V4 hb.out)).mono ?_;rintro e w5 ⟨rfl,hu5⟩;generalize hD:decide (x0=y0)=D;have HD:=Lib.hid hD;clear hD a hB4;clear _t tok1_8))
      · have hD0:(!D)=true:=by assumption
        exact hno'.out _ (by have:=HD.out;intro h;rw[← this,h] at hD0;simp at hD0) (V4.step hu5)
      · have hD0:(!D)=false:=by assumption
        have hxy:x0=y0:=by have:=HD.out;rw[← this] at hD0;simpa using hD0
        go_roundw
        case rel=>exact⟨k+1,by omega,by go_num,hstep.out hxy,V4.step hu5⟩
        case measure=>simp[intOf];omega
    · have hj3:k=xs.length:=by omega
      have H3:=Lib.hid hj3
      rw[hj3] at hpre
      clear hj3 hhx hhy
      go_wp2
      exact hyes _ hpre hu
theorem yz{xs ys:List Obj}  (hx:qz m w u xs)(hy:qz m' w v ys) :
    Calls Tryz.prog 137 #[u,v,.func (.func 138) #[] #[]] w (dh (decide (xs=ys)) w):=by
  have hhx:=hx
  have hhy:=hy
  obtain⟨A,c,rfl,hc1,hc2⟩:=hx.shape
  obtain⟨B,c',rfl,s6,oo⟩:=hy.shape
  have hn:xs.length≤9223372036854775807:=by have:=hc2;unfold maxLen at this;omega
  by_cases hl:xs.length=ys.length
  case neg =>
    have hno:∀ W,ap [] w W→dh (decide (xs=ys)) w (.returned (.bool false)) W:=by
      intro W hW
      rw[decide_eq_false (fun h=>hl (by rw[h]))]
      exact⟨rfl,hW⟩
    have hli:((xs.length:Int)!=(ys.length:Int))=true:=by simp;omega
    clear hx hy hhx hhy hl
    go_enter Tryz.func137,Tryz.ntmps137
    go_wp2
    go_ret
    exact hno _ (ap.refl _ _)
  have hno:∀ W k,xs.getD k ⟨0,[]⟩≠ys.getD k ⟨0,[]⟩→ap [] w W→dh (decide (xs=ys)) w (.returned (.bool false)) W:=by
    intro W k hk hW
    rw[decide_eq_false (zm k hk)]
    exact⟨rfl,hW⟩
  have hyes:∀ W,xs.take xs.length=ys.take xs.length→ap [] w W→dh (decide (xs=ys)) w (.returned (.bool true)) W:=by
    intro W hk hW
    rw[List.take_length,hl,List.take_length] at hk
    rw[decide_eq_true hk]
    exact⟨rfl,hW⟩
  revert hno hyes
  generalize dh (decide (xs=ys)) w=P
  intro hno hyes
  have hli:((xs.length:Int)!=(ys.length:Int))=false:=by simp;omega
  have hL:=Lib.hid hl
  clear hx hy hl
  go_enter Tryz.func137,Tryz.ntmps137
  go_wp2
  go_loopw [17] (fun i wr=>∃ k:Nat,k≤xs.length∧i = .int .i64 (k:Int)∧xs.take k=ys.take k∧ap [] w wr) (fun i _=>xs.length-(intOf i).toNat)
  case atStart=>exact⟨0,by omega,rfl,by simp,ap.refl _ _⟩
  case round =>
    obtain⟨k,hk,rfl,hpre,hu⟩:=hrel
    by_cases hlt:k<xs.length
    · obtain⟨b,off,ca,rfl,cw0,hr0,hl0⟩:=aP.at_ hhx ⟨0,[]⟩ k hlt
      obtain⟨b',off',cb,rfl,cw1,hr1,hl1⟩:=aP.at_ hhy ⟨0,[]⟩ k (by have:=hL.out;omega)
      have hlt':k<ys.length:=by have:=hL.out;omega
      have hstep:=fun h=>sO (d:=⟨0,[]⟩) hL.out hlt hpre h
      have hno':=fun W h=>hno W k h
      revert hstep hno' hr0 hr1
      generalize xs.getD k ⟨0,[]⟩=x0
      generalize ys.getD k ⟨0,[]⟩=y0
      intro hr0 hr1 hstep hno'
      have hc0:=Lib.hid (eW cw0 hu (by simp))
      have hc1:=Lib.hid (eW cw1 hu (by simp))
      replace hstep:=Lib.hid hstep
      replace hno':=Lib.hid hno'
      have ha:=Lib.hid hr0
      have hb:=Lib.hid hr1
      clear cw0 cw1 hhx hhy hpre hno hyes hr0 hr1
      have tok2_0:True:=trivial
      have tok2_1:True:=trivial
      have tok2_2:True:=trivial
      have tok2_3:True:=trivial
      have tok2_4:True:=trivial
      have tok2_5:True:=trivial
      have tok2_6:True:=trivial
      have tok2_7:True:=trivial
      have tok2_8:True:=trivial
      go_wp2_with (first | (have _t:=tok2_0;refine wpList_load_mid rfl 100 _ rfl b (off+k*2) rfl ca _ hc0.out Tryz.underlying100 rfl (by rw[hl0];exact fT) ?_;clear _t tok2_0) | (have _t:=tok2_1;refine g9 rfl 100 rfl _ pQ ?_;intro g1 w1 hg1 hB1 hu1;clear _t tok2_1) | (have _t:=tok2_2;refine g7 rfl 100 _ _ rfl g1 rfl ca.toArray rfl _ _ hB1 (by simp only[List.size_toArray,hl0];exact fT) (by simp only[List.size_toArray,hl0];rfl) (cz.one ha.out).1 ?_;intro w2 hB2 hu2;have U2:=hu1.fresh1 hu2 hg1;clear _t tok2_2) | (have _t:=tok2_3;refine wpList_load_mid rfl 100 _ rfl b' (off'+k*2) rfl cb _ (eW hc1.out U2 (by simp)) Tryz.underlying100 rfl (by rw[hl1];exact fT) ?_;clear _t tok2_3) | (have _t:=tok2_4;refine g9 rfl 100 rfl _ pQ ?_;intro g3 w3 hg3 hB3 hu3;clear _t tok2_4) | (have _t:=tok2_5;refine g7 rfl 100 _ _ rfl g3 rfl cb.toArray rfl _ _ hB3 (by simp only[List.size_toArray,hl1];exact fT) (by simp only[List.size_toArray,hl1];rfl) (cz.one hb.out).1 ?_;intro w4 hB4 hu4;have U4:=hu3.fresh1 hu4 hg3;have a:=U4.blk (by simp) hB2;have V4:=hu.step (U2.step U4);clear _t tok2_5) | (have _t:=tok2_6;refine wpList_load_row rfl 100 _ rfl g1 rfl _ _ _ _ a Tryz.underlying100 rfl (by simp only[List.size_toArray,hl0];exact fT) ?_;clear _t tok2_6) | (have _t:=tok2_7;refine wpList_load_row rfl 100 _ rfl g3 rfl _ _ _ _ hB4 Tryz.underlying100 rfl (by simp only[List.size_toArray,hl1];exact fT) ?_;clear _t tok2_7) | (have _t:=tok2_8;go_at_call 138;refine(qY (cz.upd0 V4 ha.out) (cz.upd0 V4 hb.out)).mono ?_;rintro e w5 ⟨rfl,hu5⟩;generalize hD:decide (x0=y0)=D;have HD:=Lib.hid hD;clear hD a hB4;clear _t tok2_8))
      · have hD0:(!D)=true:=by assumption
        exact hno'.out _ (by have:=HD.out;intro h;rw[← this,h] at hD0;simp at hD0) (V4.step hu5)
      · have hD0:(!D)=false:=by assumption
        have hxy:x0=y0:=by have:=HD.out;rw[← this] at hD0;simpa using hD0
        go_roundw
        case rel=>exact⟨k+1,by omega,by go_num,hstep.out hxy,V4.step hu5⟩
        case measure=>simp[intOf];omega
    · have hj3:k=xs.length:=by omega
      have H3:=Lib.hid hj3
      rw[hj3] at hpre
      clear hj3 hhx hhy
      go_wp2
      exact hyes _ hpre hu
open Go.RowKit
def dB (M:b6) : List Int:=[M.code,M.fail,M.addr,M.count,M.value,M.and_,M.or_,M.addr2,M.sub,M.status,M.events,M.messages,M.mei*256+M.kind,M.level*256+M.more,M.next]
def gQ (M:b6) : Array Value:=((dB M).map (Value.int .u16)).toArray
theorem qZ:(Tryz.prog.info? 158).map (·.zero)=some (some (.agg ((List.replicate 15 (Value.int .u16 0)).toArray))):=by kernel_rfl
theorem l8:(Tryz.prog.info? 158).map (·.size)=some 15:=by kernel_rfl
theorem p6(a0 a1 a2 a3 a4 a5 a6 a7 a8 a9 a b c d e:Int)(w:World) : (Instr.build 158 #[(0,.int .u16 a0),(1,.int .u16 a1),(2,.int .u16 a2),(3,.int .u16 a3),(4,.int .u16 a4),(5,.int .u16 a5),(6,.int .u16 a6),(7,.int .u16 a7),(8,.int .u16 a8),(9,.int .u16 a9),(10,.int .u16 a),(11,.int .u16 b),(12,.int .u16 c),(13,.int .u16 d),(14,.int .u16 e)]).run Tryz.prog w
    = .ok (.agg #[.int .u16 a0,.int .u16 a1,.int .u16 a2,.int .u16 a3,.int .u16 a4,.int .u16 a5,.int .u16 a6,.int .u16 a7,.int .u16 a8,.int .u16 a9,.int .u16 a,.int .u16 b,.int .u16 c,.int .u16 d,.int .u16 e]) w:=by kernel_rfl
theorem wF{P:Program}{fn:Func}{p:Tmp}{ty:TypeId}(h:fn.results = #[.cell p ty]){R:Ending→World→Prop}{a:Act}  (hd0:a.defers=[])(g:Nat)(t:TypeId)(cs:Array Value)(fr:Nat × Nat)(d:TypeDesc)
    (hp:a.tmps.getD p undef = .pointer (some ⟨g,0,none⟩)) (hg:w.heap[g]? = some (.cells cs t fr))
    (hu:P.underlying ty=some d) (hd:(match d with | .struct _ | .array _ _=>true | _=>false)=true) (hi:(P.info? ty).map (·.size)=some cs.size)
    (hR:R (.returned (.agg cs)) w) : bodyPost P fn R .ret a w:=by
  have hp':a.tmps[p]?.getD undef = .pointer (some ⟨g,0,none⟩):=by simpa using hp
  exact bodyPost_ret (by simp[results,h,hp',asAddr,run_loadVar_row w g t ty cs fr d hg hu hd hi]) hd0 hR
theorem mJ{cs:Array Value}{M:b6}  (h:aE m w cs.toList M) : Calls Tryz.prog 132 #[.agg cs] w (bH (.agg (gQ M)) w):=by
  obtain⟨vw,vb,vd,vr,vo,h0,_,_,_,_,_,hR⟩:=h
  obtain⟨c0,c1,c2,c3,c4,c5,c6,c7,c8,c9,f,i,l1,l2,l3,l4,a,c,b,d,e,l5⟩:=M
  obtain⟨r0,r1,r2,r3,r4,r5,r6,r7,r8,r9,o,p,j,k,l,n,q⟩:=hR
  simp only[B8,eo] at r0 r1 r2 r3 r4 r5 r6 r7 r8 r9 o p j k l n q
  have hpost:∀ W,ap [] w W→bH (.agg (gQ ⟨c0,c1,c2,c3,c4,c5,c6,c7,c8,c9,f,i,l1,l2,l3,l4,a,c,b,d,e,l5⟩)) w (.returned (.agg #[.int .u16 c0,.int .u16 c1,.int .u16 c2,.int .u16 c3,.int .u16 c4,.int .u16 c5,.int .u16 c6,.int .u16 c7,.int .u16 c8,.int .u16 c9,.int .u16 f,.int .u16 i,.int .u16 (a*256+c),.int .u16 (b*256+d),.int .u16 e])) W:=fun W hW=>⟨rfl,hW⟩
  revert hpost
  generalize bH (.agg (gQ ⟨c0,c1,c2,c3,c4,c5,c6,c7,c8,c9,f,i,l1,l2,l3,l4,a,c,b,d,e,l5⟩)) w=P
  intro hpost
  replace hpost:=Lib.hid hpost
  have w0:IntKind.u16.wrap c0=c0:=by show c0%65536=c0;omega
  have w1:IntKind.u16.wrap c1=c1:=by show c1%65536=c1;omega
  have r:IntKind.u16.wrap a=a:=by show a%65536=a;omega
  have s:IntKind.u16.wrap c=c:=by show c%65536=c;omega
  have t:IntKind.u16.wrap b=b:=by show b%65536=b;omega
  have u:IntKind.u16.wrap d=d:=by show d%65536=d;omega
  have v:IntKind.u16.wrap e=e:=by show e%65536=e;omega
  have x1:IntKind.u16.wrap (a*256)=a*256:=by show(a*256)%65536=a*256;omega
  have x2:IntKind.u16.wrap (b*256)=b*256:=by show(b*256)%65536=b*256;omega
  have o1:=o7 j k
  have o2:=o7 l n
  have hcs:cs = #[.int .u8 c0,.int .u8 c1,.int .u16 c2,.int .u16 c3,.int .u16 c4,.int .u16 c5,.int .u16 c6,.int .u16 c7,.int .u16 c8,.int .u16 c9,.int .u16 f,.int .u16 i,vw,vb,vd,vr,.int .u8 a,.int .u8 c,.int .u8 b,.int .u8 d,.int .u8 e,vo]:=by
    apply Array.toList_inj.1
    exact h0
  subst hcs
  have hbp:=p6
  clear h0 r0 r1 r2 r3 r4 r5 r6 r7 r8 r9 o p j k l n q
  go_enter Tryz.func132,Tryz.ntmps132
  have tok1_0:True:=trivial
  have tok1_1:True:=trivial
  have tok1_2:True:=trivial
  go_wp2_with (first | (have _t:=tok1_0;refine zR rfl 45 _ rfl (.agg #[.int .u8 c0,.int .u8 c1,.int .u16 c2,.int .u16 c3,.int .u16 c4,.int .u16 c5,.int .u16 c6,.int .u16 c7,.int .u16 c8,.int .u16 c9,.int .u16 f,.int .u16 i,vw,vb,vd,vr,.int .u8 a,.int .u8 c,.int .u8 b,.int .u8 d,.int .u8 e,vo]) rfl ?_;intro g w1 hg hB hu1;clear _t tok1_0) | (have _t:=tok1_1;refine g9 rfl 158 rfl _ qZ ?_;intro gp w2 hgp hBp hu2;replace hB:=hu2.blk (by simp) hB;have k0:w2.cell? ⟨g,0,none⟩=some (.int .u8 c0):=(be hB 0).trans rfl;have k1:w2.cell? ⟨g,1,none⟩=some (.int .u8 c1):=(be hB 1).trans rfl;have k2:w2.cell? ⟨g,2,none⟩=some (.int .u16 c2):=(be hB 2).trans rfl;have k3:w2.cell? ⟨g,3,none⟩=some (.int .u16 c3):=(be hB 3).trans rfl;have k4:w2.cell? ⟨g,4,none⟩=some (.int .u16 c4):=(be hB 4).trans rfl;have k5:w2.cell? ⟨g,5,none⟩=some (.int .u16 c5):=(be hB 5).trans rfl;have k6:w2.cell? ⟨g,6,none⟩=some (.int .u16 c6):=(be hB 6).trans rfl;have k7:w2.cell? ⟨g,7,none⟩=some (.int .u16 c7):=(be hB 7).trans rfl;have k8:w2.cell? ⟨g,8,none⟩=some (.int .u16 c8):=(be hB 8).trans rfl;have k9:w2.cell? ⟨g,9,none⟩=some (.int .u16 c9):=(be hB 9).trans rfl;have x:w2.cell? ⟨g,10,none⟩=some (.int .u16 f):=(be hB 10).trans rfl;have y:w2.cell? ⟨g,11,none⟩=some (.int .u16 i):=(be hB 11).trans rfl;have z:w2.cell? ⟨g,16,none⟩=some (.int .u8 a):=(be hB 16).trans rfl;have A:w2.cell? ⟨g,17,none⟩=some (.int .u8 c):=(be hB 17).trans rfl;have B:w2.cell? ⟨g,18,none⟩=some (.int .u8 b):=(be hB 18).trans rfl;have C:w2.cell? ⟨g,19,none⟩=some (.int .u8 d):=(be hB 19).trans rfl;have D:w2.cell? ⟨g,20,none⟩=some (.int .u8 e):=(be hB 20).trans rfl;clear hB;clear _t tok1_1) | (have _t:=tok1_2;refine g7 rfl 158 _ _ rfl gp rfl _ rfl _ _ hBp l8 rfl (by simp[Value.oneCell']) ?_;intro w3 hB3 hu3;clear _t tok1_2))
  refine wF rfl rfl gp _ _ _ _ rfl hB3 Tryz.underlying158 rfl l8 ?_
  exact hpost.out _ (hu1.step (hu2.fresh1 hu3 hgp))
open Go.RowKit
theorem iA:∀ (xs ys:List Int),xs.length=ys.length→((List.range xs.length).all fun i=>xs.getD i 0==ys.getD i 0)=(xs==ys)
  | [],[],_=>rfl
  | x :: xs,y :: ys,h=>by
    have ih:=iA xs ys (by simpa using h)
    rw[List.length_cons,List.range_succ_eq_map,List.all_cons,List.all_map]
    simp only[List.getD_cons_zero,Function.comp_def,List.getD_cons_succ,ih]
    simp[List.cons_beq_cons]
  | [],_ :: _,h=>by simp at h
  | _ :: _,[],h=>by simp at h
theorem nw{P:Program}(w:World)(t e:TypeId)(k:IntKind)(n:Nat)(ht:P.underlying t=some (.array n e))(he:P.underlying e=some (.int k))(hsz:∀ w,(sizeOf e).run P w = .ok 1 w)
    (xs ys:List Int) (hx:xs.length=n) (hy:ys.length=n) :
    (binOp .eql t (.agg (xs.map (Value.int k)).toArray) (.agg (ys.map (Value.int k)).toArray)).run P w = .ok (.bool (xs==ys)) w:=by
  rw[run_eql_struct]
  suffices h:(Op.equalIn 10000 t (.agg (xs.map (Value.int k)).toArray) (.agg (ys.map (Value.int k)).toArray)).run P w = .ok (xs==ys) w by
    rw[h]
    rfl
  rw[show(10000:Nat)=9998+2 from rfl]
  rw[← iA xs ys (hx.trans hy.symm),hx,List.range_eq_range',Op.equalIn]
  simp only[Sem.run_bind,run_underlying ht,Result.andThen_ok,hsz,Std.Legacy.Range.forIn_eq_forIn_range',Std.Legacy.Range.size,Nat.sub_zero,Nat.add_sub_cancel,Nat.div_one]
  have hl:∀ i∈List.range' 0 n 1,i<n:=fun i hi=>by simpa using (List.mem_range'_1.1 hi).2
  generalize List.range' 0 n 1=l at hl ⊢
  induction l with
  | nil=>simp
  | cons i l ih =>
    have hi:i<n:=hl i (by simp)
    have px:(part e (xs.map (Value.int k)).toArray (i*1)).run P w = .ok (Value.int k (xs.getD i 0)) w:=by
      simp[part,isAgg,run_underlying he,List.getD,List.getElem?_eq_getElem (show i<xs.length by omega)]
    have py:(part e (ys.map (Value.int k)).toArray (i*1)).run P w = .ok (Value.int k (ys.getD i 0)) w:=by
      simp[part,isAgg,run_underlying he,List.getD,List.getElem?_eq_getElem (show i<ys.length by omega)]
    have pe:(Op.equalIn (9998+1) e (Value.int k (xs.getD i 0)) (Value.int k (ys.getD i 0))).run P w = .ok (xs.getD i 0==ys.getD i 0) w:=run_equalIn_int w 9998 e k k _ _ he
    simp only[List.forIn_cons,Sem.run_bind,px,py,pe,Result.andThen_ok,List.all_cons]
    cases hb:(xs.getD i 0==ys.getD i 0)
    · simp
    · simp only[Bool.not_true,Bool.false_eq_true,if_false,Sem.run_pure,Result.andThen_ok,Bool.true_and]
      exact ih fun j hj=>hl j (by simp[hj])
variable {B:b6}
theorem wW{A:b6}(ha:fh A)(hb:fh B) : dB A=dB B↔A = { B with words:=A.words,bits:=A.bits,data:=A.data,recs:=A.recs,objects:=A.objects }:=by
  obtain⟨_,_,_,_,_,_,_,_,_,_,_,_,a1,a2,a3,a4,_⟩:=ha
  obtain⟨_,_,_,_,_,_,_,_,_,_,_,_,b1,b2,b3,b4,_⟩:=hb
  cases A;cases B
  simp only[B8] at a1 a2 a3 a4 b1 b2 b3 b4
  simp only[dB,List.cons.injEq,and_true,b6.mk.injEq,true_and]
  constructor
  · rintro⟨h1,h2,h3,h4,h5,h6,h7,h8,h9,a,b,c,e,f,d⟩
    refine⟨h1,h2,h3,h4,h5,h6,h7,h8,h9,a,b,c,?_,?_,?_,?_,d⟩<;>omega
  · rintro⟨h1,h2,h3,h4,h5,h6,h7,h8,h9,a,b,c,e,f,d,h,g⟩
    refine⟨h1,h2,h3,h4,h5,h6,h7,h8,h9,a,b,c,?_,?_,g⟩<;>omega
theorem Bi{A:b6}(ha:fh A)(hb:fh B) : A=B↔dB A=dB B∧A.words=B.words∧A.bits=B.bits∧A.data=B.data∧A.recs=B.recs∧A.objects=B.objects:=by
  rw[wW ha hb]
  constructor
  · rintro rfl
    exact⟨rfl,rfl,rfl,rfl,rfl,rfl⟩
  · rintro⟨h1,h2,h3,h4,h5,h6⟩
    rw[h1,h2,h3,h4,h5,h6]
open Go.RowKit
theorem pS{ev:Operand→Value}{o:Oper}{x y:Operand}{t:TypeId}{A:b6}  (ho:o.op = .binOp .eql 158 x y t)(hx:ev x = .agg (gQ A))(hy:ev y = .agg (gQ B)) :
    (execOp ev o).run Tryz.prog w = .ok (.value (.bool (dB A==dB B))) w:=by
  have hg:(eqGuard .eql 158 x y (.agg (gQ A)) (.agg (gQ B))).run Tryz.prog w = .ok () w:=run_eqGuard_agg w .eql _ x y _ _ (by kernel_rfl)
  have he:(binOp .eql 158 (.agg (gQ A)) (.agg (gQ B))).run Tryz.prog w = .ok (.bool (dB A==dB B)) w:=nw (P:=Tryz.prog) w 158 37 .u16 15 Tryz.underlying158 Tryz.underlying37 (fun w=>by kernel_rfl) (dB A) (dB B) rfl rfl
  unfold execOp
  simp only[ho,hx,hy,Sem.run_bind,hg,he,Sem.run_pure,Result.andThen]
theorem gl{A:b6}(ha:fh A)(hb:fh B) : decide (A=B)=(dB A==dB B&&(decide (A.words=B.words)&&(decide (A.bits=B.bits)&&(decide (A.data=B.data)&&(decide (A.recs=B.recs)&&decide (A.objects=B.objects)))))):=by
  rw[Bool.eq_iff_iff]
  simp only[Bool.and_eq_true,decide_eq_true_eq,beq_iff_eq]
  exact Bi ha hb
theorem ga{pc qc:Array Value}{A:b6}  (ha:aE m w pc.toList A)(hb:aE m' w qc.toList B) :
    Calls Tryz.prog 94 #[.agg pc,.agg qc] w (dh (decide (A=B)) w):=by
 have pM:=ha
 obtain⟨pvw,pvb,pvd,pvr,pvo,ph0,phw,phb,phd,phr,pho,pR⟩:=ha
 obtain rfl:pc=(ei A pvw pvb pvd pvr pvo).toArray:=by apply Array.toList_inj.1;simpa using ph0
 clear ph0
 obtain⟨pw,pkw,rfl,_,_⟩:=phw.shape
 obtain⟨pb,pkb,rfl,_,_⟩:=phb.shape
 obtain⟨pd,pkd,rfl,_,_⟩:=phd.shape
 obtain⟨pr,pkr,rfl,_,_⟩:=phr.shape
 obtain⟨po,pko,rfl,_,_⟩:=pho.shape
 have qM:=hb
 obtain⟨qvw,qvb,qvd,qvr,qvo,qh0,qhw,qhb,qhd,qhr,qho,qR⟩:=hb
 obtain rfl:qc=(ei B qvw qvb qvd qvr qvo).toArray:=by apply Array.toList_inj.1;simpa using qh0
 clear qh0
 obtain⟨qw,qkw,rfl,_,_⟩:=qhw.shape
 obtain⟨qb,qkb,rfl,_,_⟩:=qhb.shape
 obtain⟨qd,qkd,rfl,_,_⟩:=qhd.shape
 obtain⟨qr,qkr,rfl,_,_⟩:=qhr.shape
 obtain⟨qo,qko,rfl,_,_⟩:=qho.shape
 refine en 47 Tryz.func94 rfl<|sg<|L0<|cU (mG A.code A.fail A.addr A.count A.value A.and_ A.or_ A.addr2 A.sub A.status A.events A.messages (.slice pw A.words.length pkw) (.slice pb A.bits.length pkb) (.slice pd A.data.length pkd) (.slice pr A.recs.length pkr) A.mei A.kind A.level A.more A.next (.slice po A.objects.length pko)) fun k aj ak ab ac=>L0<|cU (mG B.code B.fail B.addr B.count B.value B.and_ B.or_ B.addr2 B.sub B.status B.events B.messages (.slice qw B.words.length qkw) (.slice qb B.bits.length qkb) (.slice qd B.data.length qkd) (.slice qr B.recs.length qkr) B.mei B.kind B.level B.more B.next (.slice qo B.objects.length qko)) fun l am an ad X=>al 1<|sq<|Rg 43 (fun w'=>w'.heap[k]? = some (.cells (mG A.code A.fail A.addr A.count A.value A.and_ A.or_ A.addr2 A.sub A.status A.events A.messages (.slice pw A.words.length pkw) (.slice pb A.bits.length pkb) (.slice pd A.data.length pkd) (.slice pr A.recs.length pkr) A.mei A.kind A.level A.more A.next (.slice po A.objects.length pko)) 45 (0,0))∧w'.heap[l]? = some (.cells (mG B.code B.fail B.addr B.count B.value B.and_ B.or_ B.addr2 B.sub B.status B.events B.messages (.slice qw B.words.length qkw) (.slice qb B.bits.length qkb) (.slice qd B.data.length qkd) (.slice qr B.recs.length qkr) B.mei B.kind B.level B.more B.next (.slice qo B.objects.length qko)) 45 (0,0))∧w'.cell? ⟨k,12,none⟩=some (.slice pw A.words.length pkw)∧w'.cell? ⟨l,12,none⟩=some (.slice qw B.words.length qkw)∧w'.cell? ⟨k,13,none⟩=some (.slice pb A.bits.length pkb)∧w'.cell? ⟨l,13,none⟩=some (.slice qb B.bits.length qkb)∧w'.cell? ⟨k,14,none⟩=some (.slice pd A.data.length pkd)∧aR false w' (.slice pd A.data.length pkd) A.data∧w'.cell? ⟨l,14,none⟩=some (.slice qd B.data.length qkd)∧aR false w' (.slice qd B.data.length qkd) B.data∧w'.cell? ⟨k,15,none⟩=some (.slice pr A.recs.length pkr)∧w'.cell? ⟨l,15,none⟩=some (.slice qr B.recs.length qkr)∧w'.cell? ⟨k,21,none⟩=some (.slice po A.objects.length pko)∧w'.cell? ⟨l,21,none⟩=some (.slice qo B.objects.length qko)) fun ao U=>?_
 have o:=ub (aH X U) ab
 have p:=ub U ad
 have Q:=aH (aH ac X) U
 have Y:=aR.old phd Q
 have Z:=aR.old qhd Q
 refine b9 ⟨o,p,(ae o rfl),(ae p rfl),(ae o rfl),(ae p rfl),(ae o rfl),(aP.any Y (fun _ _ h=>h)),(ae p rfl),(aP.any Z (fun _ _ h=>h)),(ae o rfl),(ae p rfl),(ae o rfl),(ae p rfl)⟩ fun a0=>Rr 0 a0 (.agg (mG A.code A.fail A.addr A.count A.value A.and_ A.or_ A.addr2 A.sub A.status A.events A.messages (.slice pw A.words.length pkw) (.slice pb A.bits.length pkb) (.slice pd A.data.length pkd) (.slice pr A.recs.length pkr) A.mei A.kind A.level A.more A.next (.slice po A.objects.length pko))) (fun w' hs=>gg (g:=k) (off:=0) [vB A.code,vB A.fail,vW A.addr,vW A.count,vW A.value,vW A.and_,vW A.or_,vW A.addr2,vW A.sub,vW A.status,vW A.events,vW A.messages,.slice pw A.words.length pkw,.slice pb A.bits.length pkb,.slice pd A.data.length pkd,.slice pr A.recs.length pkr,vB A.mei,vB A.kind,vB A.level,vB A.more,vB A.next,.slice po A.objects.length pko] rfl (by kernel_rfl) hs.1 (by kernel_rfl) (by kernel_rfl) rfl)<|Rr 2 a0 (.agg (mG B.code B.fail B.addr B.count B.value B.and_ B.or_ B.addr2 B.sub B.status B.events B.messages (.slice qw B.words.length qkw) (.slice qb B.bits.length qkb) (.slice qd B.data.length qkd) (.slice qr B.recs.length qkr) B.mei B.kind B.level B.more B.next (.slice qo B.objects.length qko))) (fun w' hs=>gg (g:=l) (off:=0) [vB B.code,vB B.fail,vW B.addr,vW B.count,vW B.value,vW B.and_,vW B.or_,vW B.addr2,vW B.sub,vW B.status,vW B.events,vW B.messages,.slice qw B.words.length qkw,.slice qb B.bits.length qkb,.slice qd B.data.length qkd,.slice qr B.recs.length qkr,vB B.mei,vB B.kind,vB B.level,vB B.more,vB B.next,.slice qo B.objects.length qko] rfl (by kernel_rfl) hs.2.1 (by kernel_rfl) (by kernel_rfl) rfl)<|?_
 refine R0 1 rfl<|Oc<|m1 (mJ (aE.old pM Q)) fun ap I=>?_
 have q:=ub I o
 have r:=ub I p
 have a1:=aR.old Y I
 have a2:=aR.old Z I
 refine b9 ⟨q,r,(ae q rfl),(ae r rfl),(ae q rfl),(ae r rfl),(ae q rfl),(aP.any a1 (fun _ _ h=>h)),(ae r rfl),(aP.any a2 (fun _ _ h=>h)),(ae q rfl),(ae r rfl),(ae q rfl),(ae r rfl)⟩ fun aq=>?_
 have a3:=aH Q I
 refine R0 3 rfl<|Oc<|m1 (mJ (aE.old qM a3)) fun ar J=>?_
 have s:=ub J q
 have t:=ub J r
 have a4:=aR.old a1 J
 have a5:=aR.old a2 J
 refine b9 ⟨s,t,(ae s rfl),(ae t rfl),(ae s rfl),(ae t rfl),(ae s rfl),(aP.any a4 (fun _ _ h=>h)),(ae t rfl),(aP.any a5 (fun _ _ h=>h)),(ae s rfl),(ae t rfl),(ae s rfl),(ae t rfl)⟩ fun e=>Rr 4 e (.bool (dB A==dB B)) (fun _ _=>pS rfl (by kernel_rfl) (by kernel_rfl))<|Rt 5 e<|?_
 have R:=aH a3 J
 refine y2 10 ((dB A==dB B)) (fun u=>?_) (fun u=>?_)
 refine Rt 6 e<|Rl 7 e (fun _ hs=>hs.2.2.1)<|Rt 8 e<|Rl 9 e (fun _ hs=>hs.2.2.2.1)<|?_
 refine R0 10 rfl<|Oc<|m1 (sH (eO.old phw R) (eO.old qhw R)) fun au K=>?_
 have v:=ub K s
 have x:=ub K t
 have a6:=aR.old a4 K
 have a7:=aR.old a5 K
 refine b9 ⟨v,x,(ae v rfl),(ae x rfl),(ae v rfl),(ae x rfl),(ae v rfl),(aP.any a6 (fun _ _ h=>h)),(ae x rfl),(aP.any a7 (fun _ _ h=>h)),(ae v rfl),(ae x rfl),(ae v rfl),(ae x rfl)⟩ fun f=>Rt 11 f<|Rt 12 f<|?_
 have S:=aH R K
 refine y2 17 ((decide (A.words=B.words))) (fun j=>?_) (fun j=>?_)
 have af:=of_decide_eq_true j
 refine Rt 13 f<|Rl 14 f (fun _ hs=>hs.2.2.2.2.1)<|Rt 15 f<|Rl 16 f (fun _ hs=>hs.2.2.2.2.2.1)<|?_
 refine R0 17 rfl<|Oc<|m1 (yA (mF.old phb S) (mF.old qhb S)) fun av L=>?_
 have y:=ub L v
 have z:=ub L x
 have V:=aR.old a6 L
 have W:=aR.old a7 L
 refine b9 ⟨y,z,(ae y rfl),(ae z rfl),(ae y rfl),(ae z rfl),(ae y rfl),(aP.any V (fun _ _ h=>h)),(ae z rfl),(aP.any W (fun _ _ h=>h)),(ae y rfl),(ae z rfl),(ae y rfl),(ae z rfl)⟩ fun d=>Rt 18 d<|Rt 19 d<|?_
 have M:=aH S L
 refine y2 24 ((decide (A.bits=B.bits))) (fun C=>?_) (fun C=>?_)
 have ag:=of_decide_eq_true C
 refine Rt 20 d<|Rl 21 d (fun _ hs=>hs.2.2.2.2.2.2.1)<|Rr 22 d (.string (strOfNums A.data)) (fun _ hs=>ck (A:=pd) (n:=A.data.length) (c:=pkd) rfl (by kernel_rfl) Tryz.underlying27 Tryz.underlying5 Tryz.underlying9 hs.2.2.2.2.2.2.2.1)<|Rt 23 d<|Rl 24 d (fun _ hs=>hs.2.2.2.2.2.2.2.2.1)<|Rr 25 d (.string (strOfNums B.data)) (fun _ hs=>ck (A:=qd) (n:=B.data.length) (c:=qkd) rfl (by kernel_rfl) Tryz.underlying27 Tryz.underlying5 Tryz.underlying9 hs.2.2.2.2.2.2.2.2.2.1)<|Rr 26 d (.bool (decide (A.data=B.data))) (fun _ _=>e8 (a:=(strOfNums A.data)) (b:=(strOfNums B.data)) rfl (by kernel_rfl) (by kernel_rfl) (iF V W))<|Rt 27 d<|Rt 28 d<|y2 33 ((decide (A.data=B.data))) (fun F=>?_) (fun F=>?_)
 have ah:=of_decide_eq_true F
 refine Rt 29 d<|Rl 30 d (fun _ hs=>hs.2.2.2.2.2.2.2.2.2.2.1)<|Rt 31 d<|Rl 32 d (fun _ hs=>hs.2.2.2.2.2.2.2.2.2.2.2.1)<|?_
 refine R0 33 rfl<|Oc<|m1 (yk (qx.old phr M) (qx.old qhr M)) fun aw N=>?_
 have D:=ub N y
 have E:=ub N z
 have a8:=aR.old V N
 have a9:=aR.old W N
 refine b9 ⟨D,E,(ae D rfl),(ae E rfl),(ae D rfl),(ae E rfl),(ae D rfl),(aP.any a8 (fun _ _ h=>h)),(ae E rfl),(aP.any a9 (fun _ _ h=>h)),(ae D rfl),(ae E rfl),(ae D rfl),(ae E rfl)⟩ fun i=>Rt 34 i<|Rt 35 i<|?_
 have T:=aH M N
 refine y2 40 ((decide (A.recs=B.recs))) (fun O=>?_) (fun O=>?_)
 have ai:=of_decide_eq_true O
 refine Rt 36 i<|Rl 37 i (fun _ hs=>hs.2.2.2.2.2.2.2.2.2.2.2.2.1)<|Rt 38 i<|Rl 39 i (fun _ hs=>hs.2.2.2.2.2.2.2.2.2.2.2.2.2)<|?_
 refine R0 40 rfl<|Oc<|m1 (yz (qz.old pho T) (qz.old qho T)) fun ax P=>?_
 have G:=ub P D
 have H:=ub P E
 refine b9 ⟨G,H,(ae G rfl),(ae H rfl),(ae G rfl),(ae H rfl),(ae G rfl),(aP.any (aR.old a8 P) (fun _ _ h=>h)),(ae H rfl),(aP.any (aR.old a9 P) (fun _ _ h=>h)),(ae G rfl),(ae H rfl),(ae G rfl),(ae H rfl)⟩ fun aa=>Rt 41 aa<|Rt 42 aa<|re<|tn<|rt<|rr (.bool (decide (A.objects=B.objects)))<|?_
 have hs:decide (A=B)=(decide (A.objects=B.objects)):=by
   rw[gl pR qR]
   (try simp only[u,j,C,F,O,bt])
 rw[hs]
 exact⟨rfl,(aH T P)⟩
 have ai:=of_decide_eq_false O
 refine Ro 36 i<|Ro 37 i<|Ro 38 i<|Ro 39 i<|Ro 40 i<|Rt 41 i<|Rt 42 i<|re<|tn<|rt<|rr (.bool false)<|?_
 have hs:decide (A=B)=false:=by
   rw[gl pR qR]
   (try simp only[u,j,C,F,O,bt])
 rw[hs]
 exact⟨rfl,T⟩
 have ah:=of_decide_eq_false F
 refine Ro 29 d<|Ro 30 d<|Ro 31 d<|Ro 32 d<|Ro 33 d<|Rt 34 d<|Rt 35 d<|Ro 36 d<|Ro 37 d<|Ro 38 d<|Ro 39 d<|Ro 40 d<|Rt 41 d<|Rt 42 d<|re<|tn<|rt<|rr (.bool false)<|?_
 have hs:decide (A=B)=false:=by
   rw[gl pR qR]
   (try simp only[u,j,C,F,bt])
 rw[hs]
 exact⟨rfl,M⟩
 have ag:=of_decide_eq_false C
 refine Ro 20 d<|Ro 21 d<|Ro 22 d<|Ro 23 d<|Ro 24 d<|Ro 25 d<|Ro 26 d<|Rt 27 d<|Rt 28 d<|Ro 29 d<|Ro 30 d<|Ro 31 d<|Ro 32 d<|Ro 33 d<|Rt 34 d<|Rt 35 d<|Ro 36 d<|Ro 37 d<|Ro 38 d<|Ro 39 d<|Ro 40 d<|Rt 41 d<|Rt 42 d<|re<|tn<|rt<|rr (.bool false)<|?_
 have hs:decide (A=B)=false:=by
   rw[gl pR qR]
   (try simp only[u,j,C,bt])
 rw[hs]
 exact⟨rfl,M⟩
 have af:=of_decide_eq_false j
 refine Ro 13 f<|Ro 14 f<|Ro 15 f<|Ro 16 f<|Ro 17 f<|Rt 18 f<|Rt 19 f<|Ro 20 f<|Ro 21 f<|Ro 22 f<|Ro 23 f<|Ro 24 f<|Ro 25 f<|Ro 26 f<|Rt 27 f<|Rt 28 f<|Ro 29 f<|Ro 30 f<|Ro 31 f<|Ro 32 f<|Ro 33 f<|Rt 34 f<|Rt 35 f<|Ro 36 f<|Ro 37 f<|Ro 38 f<|Ro 39 f<|Ro 40 f<|Rt 41 f<|Rt 42 f<|re<|tn<|rt<|rr (.bool false)<|?_
 have hs:decide (A=B)=false:=by
   rw[gl pR qR]
   (try simp only[u,j,bt])
 rw[hs]
 exact⟨rfl,S⟩
 refine Ro 6 e<|Ro 7 e<|Ro 8 e<|Ro 9 e<|Ro 10 e<|Rt 11 e<|Rt 12 e<|Ro 13 e<|Ro 14 e<|Ro 15 e<|Ro 16 e<|Ro 17 e<|Rt 18 e<|Rt 19 e<|Ro 20 e<|Ro 21 e<|Ro 22 e<|Ro 23 e<|Ro 24 e<|Ro 25 e<|Ro 26 e<|Rt 27 e<|Rt 28 e<|Ro 29 e<|Ro 30 e<|Ro 31 e<|Ro 32 e<|Ro 33 e<|Rt 34 e<|Rt 35 e<|Ro 36 e<|Ro 37 e<|Ro 38 e<|Ro 39 e<|Ro 40 e<|Rt 41 e<|Rt 42 e<|re<|tn<|rt<|rr (.bool false)<|?_
 have hs:decide (A=B)=false:=by
   rw[gl pR qR]
   (try simp only[u,bt])
 rw[hs]
 exact⟨rfl,R⟩
open Go.RowKit
def iJ (Q:World→Ending→World→Prop)(w:World)(e:Ending)(w':World) : Prop:=∃ F free,e = .returned (.func (.func F) #[] free)∧AX Tryz.prog F=some (false,true)∧ap [] w w'∧Calls Tryz.prog F free w' (Q w')
variable {C:aA}{g:Nat}{most:Int}
theorem mY(hC:ag w g C)(ha:0≤a∧a<65536) :
    Calls Tryz.prog 199 #[vP g 0,vW a,vI most] w (mN g .i64 65536 C.wordV (bB C a most) w):=by
 have hlen:=hC.len
 have hrr:=hC.wordV
 refine en 26 Tryz.func199 rfl<|au 1<|aS 1<|aF<|m3 (bC hC) fun k b c l=>bA C.wordV<|al 1<|au 4<|gy 4 [14] 18 14 (decide (1≤C.wordV)) (decide (C.wordV≤most)) (fun K d e=>?_) ?_
 have m:=of_decide_eq_true e
 exact Pl 4<|ce d _ rfl
 refine aF<|m2 (aU (((decide (1≤C.wordV))&&(decide (C.wordV≤most)))) 5 b) fun o f h=>aS 3<|aF<|mq (iO (a:=a) (n:=C.wordV) (by omega))<|aF<|m2 (aU ((eN a C.wordV)) 7 f) fun p i j=>aS 2<|nl<|tn<|rt<|rr (vI C.wordV)<|?_
 exact dA (by unfold bB;(try simp only[bt,reduceIte])<;>rfl) ⟨rfl,i,(u1 c (u1 h j im) im),hrr⟩
theorem jX{n:Int}(hC:ag w g C)(hn:0≤n∧n<65536) :
    Calls Tryz.prog 205 #[vP g 0,vI n] w (fun e w'=>∃ v,e = .returned v∧nM w.heap.size w' v ((cA C n).wordsR n)∧ag w' g ((cA C n).wordsC n)∧ap [g] w w'):=by
 have hlen:=hC.len
 refine en 16 Tryz.func205 rfl<|au 1<|aS 2<|aF<|m3 (bD hC) fun l c a m=>bA C.byteV<|Pl 1<|bA (2*n)<|Pl 1<|aF<|m2 (aU ((C.byteV==(2*n))) 5 c) fun o d b=>?_
 refine aS 2<|aF<|sY (dO (n:=n) d) fun f h p i q r j k=>al 1<|rt<|rr (.slice f ((((C.bytesC 1).need (C.byteV==(2*n)) 5).wordsR n).length) h)<|?_
 have hs:cA C n=((C.bytesC 1).need (C.byteV==(2*n)) 5):=by
   unfold cA
   (try simp only[bt,reduceIte])
   all_goals rfl
 rw[hs]
 exact⟨_,rfl,(aJ.weaken i (le a.size b.size)),j,(u1 a (u1 b k im) im)⟩
variable {bc bm gm:Nat}{c:Int}
theorem ia(hcode:B8 c)(hC:ag w g C)(hm:w.heap[gm]? = some (.cells (mC c) 45 (0,0)))(hne:g≠gm)   (hbc:w.heap[bc]? = some (.cells #[vP g 0] 164 (0,0)))(n_bc_g:bc≠g)(n_bc_gm:bc≠gm)(hbm:w.heap[bm]? = some (.cells #[vP gm 0] 166 (0,0)))(n_bm_g:bm≠g)(n_bm_gm:bm≠gm) :
    Calls Tryz.prog 198 #[vI most,vP bc 0,vP bm 0] w (rM g gm (bB (C.wordsC 1) C.wordV most) (mG c 0 C.wordV (C.wordsC 1).wordV 0 0 0 0 0 0 0 0 nS nS nS nS 0 0 0 0 0 nS) w):=by
 obtain⟨hcode1,hcode2⟩:=hcode
 have hlen:=hC.len
 refine en 20 Tryz.func198 rfl<|sq<|Rg 6 (fun w'=>w'.cell? ⟨bm,0,none⟩=some (vP gm 0)∧w'.cell? ⟨bc,0,none⟩=some (vP g 0)) fun I d=>?_
 have m:=ub d hbm
 have n:=ub d hbc
 refine b9 ⟨(ae m rfl),(ae n rfl)⟩ fun o=>Rl 0 o (fun _ hs=>hs.1)<|Rl 1 o (fun _ hs=>hs.2)<|?_
 refine R0 2 rfl<|Oc<|m3 (bC (ag.old hC d)) fun J F i K=>?_
 have p:=b7 i n_bm_g m
 have q:=b7 i n_bc_g n
 refine b9 ⟨(ae p rfl),(ae q rfl)⟩ fun r=>Rt 3 r<|Rt 4 r<|?_
 have s:=uz d i
 have t:=b7 s (Ne.symm hne) hm
 refine R0 5 rfl<|cv t 2 (mG c 0 C.wordV 0 0 0 0 0 0 0 0 0 nS nS nS nS 0 0 0 0 0 nS) fun L G j=>?_
 have u:=b7 j n_bm_gm p
 have v:=b7 j n_bc_gm q
 refine b9 ⟨(ae u rfl),(ae v rfl)⟩ fun M=>re<|tn<|Rg 12 (fun w'=>w'.cell? ⟨bm,0,none⟩=some (vP gm 0)∧w'.cell? ⟨bc,0,none⟩=some (vP g 0)∧w'.cell? ⟨gm,2,none⟩=some (vW C.wordV)) fun N e=>?_
 have x:=ub e u
 have y:=ub e v
 have z:=ub e G
 refine b9 ⟨(ae x rfl),(ae y rfl),(ae z rfl)⟩ fun b=>Rl 0 b (fun _ hs=>hs.1)<|Rl 1 b (fun _ hs=>hs.2.1)<|Rl 2 b (fun _ hs=>hs.1)<|Rt 3 b<|Rt 4 b<|Rl 5 b (fun _ hs=>hs.2.2)<|Rt 6 b<|?_
 have A:=aH j e
 refine R0 7 rfl<|Oc<|m3 (mY (a:=C.wordV) (most:=most) (ag.upd F A (aa hne az) (ak (aW t (by decide)) aK)) (by omega)) fun O H f P=>?_
 have B:=b7 f n_bm_g x
 have D:=b7 f n_bc_g y
 have k:=b7 f (Ne.symm hne) z
 refine b9 ⟨(ae B rfl),(ae D rfl),(ae k rfl)⟩ fun l=>Rr 8 l (vW ((C.wordsC 1).wordV)) (fun _ _=>cE (vW (IntKind.u16.wrap ((C.wordsC 1).wordV))) (by kernel_rfl) (congrArg (Value.int .u16) (rI (by omega))))<|Rt 9 l<|Rt 10 l<|R0 11 rfl<|cv k 3 (mG c 0 C.wordV ((C.wordsC 1).wordV) 0 0 0 0 0 0 0 0 nS nS nS nS 0 0 0 0 0 nS) fun Q E h=>?_
 refine b9 ⟨(ae (b7 h n_bm_gm B) rfl),(ae (b7 h n_bc_gm D) rfl),(ae E rfl)⟩ fun R=>re<|rm (.tuple #[])<|?_
 exact⟨rfl,(ag.upd H h (aa hne az) (ak (aW k (by decide)) aK)),E,(ui s (ui A (us f h)))⟩
variable {bw:Nat}
theorem Dp(hcode:B8 c)(hC:ag w g C)(hm:w.heap[gm]? = some (.cells (mC c) 45 (0,0)))(hne:g≠gm)    (hbc:w.heap[bc]? = some (.cells #[vP g 0] 164 (0,0)))(n_bc_g:bc≠g)(n_bc_gm:bc≠gm)(hbm:w.heap[bm]? = some (.cells #[vP gm 0] 166 (0,0)))(n_bm_g:bm≠g)(n_bm_gm:bm≠gm)(hbw:w.heap[bw]? = some (.cells #[.func (.func 198) #[] #[vP bc 0,vP bm 0]] 218 (0,0)))(n_bw_g:bw≠g)(n_bw_gm:bw≠gm) :
    Calls Tryz.prog 200 #[vP bw 0] w (bS g gm (cL 125 c C).1 (cL 125 c C).2 w):=by
 obtain⟨hcode1,hcode2⟩:=hcode
 have hlen:=hC.len
 refine en 3 Tryz.func200 rfl<|go<|ax hbw 0<|L0<|fy #[] #[vP bc 0,vP bm 0] (args:=#[vI 125,vP bc 0,vP bm 0])<|m3 (ia (most:=125) ⟨hcode1,hcode2⟩ hC hm hne hbc n_bc_g n_bc_gm hbm n_bm_g n_bm_gm) fun e a b d=>?_
 have f:=(hC).wordV
 have h:=di (d6 (hC).rng 1)
 refine nl<|rm (.tuple #[])<|?_
 have hs:cL 125 c C=((bB (C.wordsC 1) C.wordV 125),(b6.mk c 0 C.wordV ((C.wordsC 1).wordV) 0 0 0 0 0 0 0 0 [] [] [] [] 0 0 0 0 0 [])):=by
   unfold cL
   (try simp only[bt,reduceIte])
   all_goals rfl
 rw[hs]
 exact⟨rfl,a,⟨_,⟨b,rfl⟩,⟨_,_,_,_,_,rfl,aP.nil ..,aP.nil ..,aP.nil ..,aP.nil ..,aP.nil ..,(ek (by omega))⟩⟩,d⟩
theorem Dh(hcode:B8 c)(hC:ag w g C)(hm:w.heap[gm]? = some (.cells (mC c) 45 (0,0)))(hne:g≠gm)   (hbc:w.heap[bc]? = some (.cells #[vP g 0] 164 (0,0)))(n_bc_g:bc≠g)(n_bc_gm:bc≠gm)(hbm:w.heap[bm]? = some (.cells #[vP gm 0] 166 (0,0)))(n_bm_g:bm≠g)(n_bm_gm:bm≠gm) :
    Calls Tryz.prog 201 #[vP bc 0,vP bm 0] w (bS g gm (dC c C).1 (dC c C).2 w):=by
 obtain⟨hcode1,hcode2⟩:=hcode
 have hlen:=hC.len
 refine en 26 Tryz.func201 rfl<|sg<|ax hbc 0<|aF<|m3 (bD hC) fun M y i N=>bA C.byteV<|Pl 1<|ng<|?_
 have j:=b7 i n_bc_g hbc
 refine ax j 0<|Pl 1<|L0<|Oe (vI (Int.tmod C.byteV 2)) (vI (C.byteV%2)) (congrArg (Value.int .i64) (Int.tmod_eq_emod_of_nonneg (by omega)))<|Pl 2<|gy 3 [10] 13 10 ((C.byteV%2)==0) (decide (2≤C.byteV)) (fun K z A=>?_) ?_
 have O:=aC A
 exact Pl 3<|ce z _ rfl
 refine Pl 1<|gy 3 [14] 17 14 (((C.byteV%2)==0)&&(decide (2≤C.byteV))) (decide (C.byteV≤250)) (fun K B k=>?_) ?_
 have D:=(bK k).1
 have E:=(bK k).2
 have P:=aC D
 have Q:=of_decide_eq_true E
 exact Pl 3<|ce B _ rfl
 refine aF<|m2 (aU (((((C.byteV%2)==0)&&(decide (2≤C.byteV)))&&(decide (C.byteV≤250)))) 5 y) fun R F G=>nt<|Rg 8 (fun w'=>w'.cell? ⟨bm,0,none⟩=some (vP gm 0)∧w'.cell? ⟨bc,0,none⟩=some (vP g 0)) fun S l=>?_
 have m:=aH G l
 have b:=u1 i m im
 have o:=b7 b n_bm_g hbm
 have p:=b7 m n_bc_g j
 refine b9 ⟨(ae o rfl),(ae p rfl)⟩ fun d=>Rl 0 d (fun _ hs=>hs.1)<|Rl 1 d (fun _ hs=>hs.2)<|Rt 2 d<|Rr 3 d (vI (C.byteV/2)) (fun _ _=>cE (vI (IntKind.i64.wrap (Int.tdiv C.byteV 2))) (by kernel_rfl) (congrArg (Value.int .i64) (ta (by omega) (by omega))))<|?_
 refine R0 4 rfl<|Oc<|sY (dO (n:=(C.byteV/2)) (ag.old F l)) fun H I T q U V J f=>?_
 have r:=b7 f n_bm_g o
 have s:=b7 f n_bc_g p
 refine b9 ⟨(ae r rfl),(ae s rfl)⟩ fun t=>Rt 5 t<|Rt 6 t<|?_
 have u:=u1 b f im
 have v:=b7 u (Ne.symm hne) hm
 refine R0 7 rfl<|cv v 12 (mG c 0 0 0 0 0 0 0 0 0 0 0 (.slice H ((((C.bytesC 1).need ((((C.byteV%2)==0)&&(decide (2≤C.byteV)))&&(decide (C.byteV≤250))) 5).wordsR (C.byteV/2)).length) I) nS nS nS 0 0 0 0 0 nS) fun W L a=>?_
 refine b9 ⟨(ae (b7 a n_bm_gm r) rfl),(ae (b7 a n_bc_gm s) rfl)⟩ fun X=>re<|rm (.tuple #[])<|?_
 exact dA (by unfold dC ll jP;(try simp only[bt,reduceIte])<;>rfl) ⟨rfl,(ag.upd J a (aa hne az) (ak (aW v (by decide)) aK)),⟨_,⟨L,rfl⟩,⟨_,_,_,_,_,rfl,(aJ.hi (aj q a (fun x hx=>(aa (fun e=>(aD (ai hm) b.size q) (e▸hx)) az)) (fun _ _ h=>h)) b.size),aP.nil ..,aP.nil ..,aP.nil ..,aP.nil ..,(ek (by omega))⟩⟩,(us u a)⟩
theorem Dr(hcode:B8 c)(hC:ag w g C)(hm:w.heap[gm]? = some (.cells (mC c) 45 (0,0)))(hne:g≠gm)   (hbc:w.heap[bc]? = some (.cells #[vP g 0] 164 (0,0)))(n_bc_g:bc≠g)(n_bc_gm:bc≠gm)(hbm:w.heap[bm]? = some (.cells #[vP gm 0] 166 (0,0)))(n_bm_g:bm≠g)(n_bm_gm:bm≠gm) :
    Calls Tryz.prog 203 #[vP bc 0,vP bm 0] w (bS g gm (fZ c C).1 (fZ c C).2 w):=by
 obtain⟨hcode1,hcode2⟩:=hcode
 have hlen:=hC.len
 refine en 12 Tryz.func203 rfl<|Rg 12 (fun w'=>w'.cell? ⟨bm,0,none⟩=some (vP gm 0)∧w'.cell? ⟨bc,0,none⟩=some (vP g 0)) fun A a=>?_
 have i:=ub a hbm
 have j:=ub a hbc
 refine b9 ⟨(ae i rfl),(ae j rfl)⟩ fun b=>Rl 0 b (fun _ hs=>hs.1)<|Rl 1 b (fun _ hs=>hs.1)<|Rl 2 b (fun _ hs=>hs.2)<|Rl 4 b (fun _ hs=>hs.2)<|?_
 refine R0 3 rfl<|Oc<|m3 (bC (ag.old hC a)) fun B v d D=>?_
 have k:=b7 d n_bm_g i
 have l:=b7 d n_bc_g j
 refine b9 ⟨(ae k rfl),(ae l rfl)⟩ fun E=>R0 5 rfl<|Oc<|m3 (bC v) fun F x e G=>?_
 have m:=b7 e n_bm_g k
 have n:=b7 e n_bc_g l
 refine b9 ⟨(ae m rfl),(ae n rfl)⟩ fun o=>Rt 6 o<|Rt 7 o<|?_
 have p:=uz a (u1 d e im)
 have q:=b7 p (Ne.symm hne) hm
 refine R0 8 rfl<|cv q 2 (mG c 0 C.wordV 0 0 0 0 0 0 0 0 0 nS nS nS nS 0 0 0 0 0 nS) fun H y f=>?_
 have r:=b7 f n_bm_gm m
 have s:=b7 f n_bc_gm n
 refine b9 ⟨(ae r rfl),(ae s rfl)⟩ fun t=>Rt 9 t<|Rt 10 t<|R0 11 rfl<|cv y 4 (mG c 0 C.wordV 0 ((C.wordsC 1).wordV) 0 0 0 0 0 0 0 nS nS nS nS 0 0 0 0 0 nS) fun I z h=>?_
 refine b9 ⟨(ae (b7 h n_bm_gm r) rfl),(ae (b7 h n_bc_gm s) rfl)⟩ fun J=>re<|rm (.tuple #[])<|?_
 have hs:fZ c C=(((C.wordsC 1).wordsC 1),(b6.mk c 0 C.wordV 0 ((C.wordsC 1).wordV) 0 0 0 0 0 0 0 [] [] [] [] 0 0 0 0 0 [])):=by
   unfold fZ
   (try simp only[bt,reduceIte])
   all_goals rfl
 rw[hs]
 have u:=u1 f h im
 exact⟨rfl,(ag.upd x u (aa hne az) (ak (aW q (by decide)) aK)),⟨_,⟨z,rfl⟩,⟨_,_,_,_,_,rfl,aP.nil ..,aP.nil ..,aP.nil ..,aP.nil ..,aP.nil ..,(ek (by omega))⟩⟩,(us p u)⟩
theorem D7{ask:Bool}     (hcode:B8 c)(hC:ag w g C)(hm:w.heap[gm]? = some (.cells (mC c) 45 (0,0)))(hne:g≠gm)    {ba:Nat}(hbc:w.heap[bc]? = some (.cells #[vP g 0] 164 (0,0)))(n_bc_g:bc≠g)(n_bc_gm:bc≠gm)(hbm:w.heap[bm]? = some (.cells #[vP gm 0] 166 (0,0)))(n_bm_g:bm≠g)(n_bm_gm:bm≠gm)(hbw:w.heap[bw]? = some (.cells #[.func (.func 198) #[] #[vP bc 0,vP bm 0]] 218 (0,0)))(n_bw_g:bw≠g)(n_bw_gm:bw≠gm)(hba:w.heap[ba]? = some (.cells #[.bool ask] 4 (0,0)))(n_ba_g:ba≠g)(n_ba_gm:ba≠gm)(hask:ask=true) :
    Calls Tryz.prog 204 #[vP bw 0,vP ba 0,vP bc 0,vP bm 0] w (bS g gm (eY c C).1 (eY c C).2 w):=by
 obtain⟨hcode1,hcode2⟩:=hcode
 have hlen:=hC.len
 refine en 17 Tryz.func204 rfl<|sg<|ax hbw 0<|L0<|fy #[] #[vP bc 0,vP bm 0] (args:=#[vI 123,vP bc 0,vP bm 0])<|m3 (ia (most:=123) ⟨hcode1,hcode2⟩ hC hm hne hbc n_bc_g n_bc_gm hbm n_bm_g n_bm_gm) fun B u v k=>?_
 have D:=(hC).wordV
 have E:=di (d6 (hC).rng 1)
 refine ng<|?_
 refine ax (ap.blk k (aa n_ba_g (aa n_ba_gm az)) hba) 0<|nt<|ct hask<|Rg 11 (fun w'=>w'.cell? ⟨bm,0,none⟩=some (vP gm 0)∧w'.cell? ⟨bc,0,none⟩=some (vP g 0)∧w'.cell? ⟨gm,3,none⟩=some (vW ((C.wordsC 1).wordV))) fun F i=>?_
 have b:=aH k i
 have l:=ap.blk b (aa n_bm_g (aa n_bm_gm az)) hbm
 have m:=ap.blk b (aa n_bc_g (aa n_bc_gm az)) hbc
 have o:=ub i v
 refine b9 ⟨(ae l rfl),(ae m rfl),(ae o rfl)⟩ fun a=>Rl 0 a (fun _ hs=>hs.1)<|Rl 1 a (fun _ hs=>hs.2.1)<|Rl 2 a (fun _ hs=>hs.1)<|Rt 3 a<|Rt 4 a<|Rl 5 a (fun _ hs=>hs.2.2)<|Rr 6 a (vI ((C.wordsC 1).wordV)) (fun _ _=>cE (vI (IntKind.i64.wrap ((C.wordsC 1).wordV))) (by kernel_rfl) (congrArg (Value.int .i64) (i64_in (by omega))))<|?_
 refine R0 7 rfl<|Oc<|sY (jX (n:=(C.wordsC 1).wordV) (ag.old u i) (by omega)) fun y z G p H I A f=>?_
 have q:=b7 f n_bm_g l
 have r:=b7 f n_bc_g m
 have j:=b7 f (Ne.symm hne) o
 refine b9 ⟨(ae q rfl),(ae r rfl),(ae j rfl)⟩ fun s=>Rt 8 s<|Rt 9 s<|R0 10 rfl<|cv j 12 (mG c 0 C.wordV ((C.wordsC 1).wordV) 0 0 0 0 0 0 0 0 (.slice y (((cA (bB (C.wordsC 1) C.wordV 123) ((C.wordsC 1).wordV)).wordsR ((C.wordsC 1).wordV)).length) z) nS nS nS 0 0 0 0 0 nS) fun J t d=>?_
 refine b9 ⟨(ae (b7 d n_bm_gm q) rfl),(ae (b7 d n_bc_gm r) rfl),(ae t rfl)⟩ fun K=>re<|rm (.tuple #[])<|?_
 have hs:eY c C=(((cA (bB (C.wordsC 1) C.wordV 123) ((C.wordsC 1).wordV)).wordsC ((C.wordsC 1).wordV)),(b6.mk c 0 C.wordV ((C.wordsC 1).wordV) 0 0 0 0 0 0 0 0 ((cA (bB (C.wordsC 1) C.wordV 123) ((C.wordsC 1).wordV)).wordsR ((C.wordsC 1).wordV)) [] [] [] 0 0 0 0 0 [])):=by
   unfold eY iG
   (try simp only[hask,bt,reduceIte])
   all_goals rfl
 rw[hs]
 exact⟨rfl,(ag.upd A d (aa hne az) (ak (aW j (by decide)) aK)),⟨_,⟨t,rfl⟩,⟨_,_,_,_,_,rfl,(aJ.hi (aj p d (fun x hx=>(aa (fun e=>(aD (ai hm) b.size p) (e▸hx)) az)) (fun _ _ h=>h)) b.size),aP.nil ..,aP.nil ..,aP.nil ..,aP.nil ..,(ek (by omega))⟩⟩,(ut b (us f d) (ac im (ac im aB)))⟩
theorem D4{ask:Bool}     (hcode:B8 c)(hC:ag w g C)(hm:w.heap[gm]? = some (.cells (mC c) 45 (0,0)))(hne:g≠gm)    {ba:Nat}(hbc:w.heap[bc]? = some (.cells #[vP g 0] 164 (0,0)))(n_bc_g:bc≠g)(n_bc_gm:bc≠gm)(hbm:w.heap[bm]? = some (.cells #[vP gm 0] 166 (0,0)))(n_bm_g:bm≠g)(n_bm_gm:bm≠gm)(hbw:w.heap[bw]? = some (.cells #[.func (.func 198) #[] #[vP bc 0,vP bm 0]] 218 (0,0)))(n_bw_g:bw≠g)(n_bw_gm:bw≠gm)(hba:w.heap[ba]? = some (.cells #[.bool ask] 4 (0,0)))(n_ba_g:ba≠g)(n_ba_gm:ba≠gm)(hask:ask=false) :
    Calls Tryz.prog 204 #[vP bw 0,vP ba 0,vP bc 0,vP bm 0] w (bS g gm (cL 123 c C).1 (cL 123 c C).2 w):=by
 obtain⟨hcode1,hcode2⟩:=hcode
 have hlen:=hC.len
 refine en 17 Tryz.func204 rfl<|sg<|ax hbw 0<|L0<|fy #[] #[vP bc 0,vP bm 0] (args:=#[vI 123,vP bc 0,vP bm 0])<|m3 (ia (most:=123) ⟨hcode1,hcode2⟩ hC hm hne hbc n_bc_g n_bc_gm hbm n_bm_g n_bm_gm) fun e b d a=>?_
 have f:=(hC).wordV
 have h:=di (d6 (hC).rng 1)
 refine ng<|?_
 refine ax (ap.blk a (aa n_ba_g (aa n_ba_gm az)) hba) 0<|nt<|cf hask<|sk<|rm (.tuple #[])<|?_
 have hs:cL 123 c C=((bB (C.wordsC 1) C.wordV 123),(b6.mk c 0 C.wordV ((C.wordsC 1).wordV) 0 0 0 0 0 0 0 0 [] [] [] [] 0 0 0 0 0 [])):=by
   unfold cL
   (try simp only[hask,bt,reduceIte])
   all_goals rfl
 rw[hs]
 exact⟨rfl,b,⟨_,⟨d,rfl⟩,⟨_,_,_,_,_,rfl,aP.nil ..,aP.nil ..,aP.nil ..,aP.nil ..,aP.nil ..,(ek (by omega))⟩⟩,a⟩
theorem Dt(hcode:B8 c)(hC:ag w g C)(hm:w.heap[gm]? = some (.cells (mC c) 45 (0,0)))(hne:g≠gm)   (hbc:w.heap[bc]? = some (.cells #[vP g 0] 164 (0,0)))(n_bc_g:bc≠g)(n_bc_gm:bc≠gm)(hbm:w.heap[bm]? = some (.cells #[vP gm 0] 166 (0,0)))(n_bm_g:bm≠g)(n_bm_gm:bm≠gm) :
    Calls Tryz.prog 206 #[vP bc 0,vP bm 0] w (bS g gm (ez c C).1 (ez c C).2 w):=by
 obtain⟨hcode1,hcode2⟩:=hcode
 have hlen:=hC.len
 refine en 17 Tryz.func206 rfl<|Rg 18 (fun w'=>w'.cell? ⟨bm,0,none⟩=some (vP gm 0)∧w'.cell? ⟨bc,0,none⟩=some (vP g 0)) fun K b=>?_
 have k:=ub b hbm
 have l:=ub b hbc
 refine b9 ⟨(ae k rfl),(ae l rfl)⟩ fun a=>Rl 0 a (fun _ hs=>hs.1)<|Rl 1 a (fun _ hs=>hs.1)<|Rl 2 a (fun _ hs=>hs.1)<|Rl 3 a (fun _ hs=>hs.2)<|Rl 5 a (fun _ hs=>hs.2)<|Rl 7 a (fun _ hs=>hs.2)<|?_
 refine R0 4 rfl<|Oc<|m3 (bC (ag.old hC b)) fun L E d M=>?_
 have m:=b7 d n_bm_g k
 have n:=b7 d n_bc_g l
 refine b9 ⟨(ae m rfl),(ae n rfl)⟩ fun N=>R0 6 rfl<|Oc<|m3 (bC E) fun O F e P=>?_
 have o:=b7 e n_bm_g m
 have p:=b7 e n_bc_g n
 refine b9 ⟨(ae o rfl),(ae p rfl)⟩ fun Q=>R0 8 rfl<|Oc<|m3 (bC F) fun R G f S=>?_
 have q:=b7 f n_bm_g o
 have r:=b7 f n_bc_g p
 refine b9 ⟨(ae q rfl),(ae r rfl)⟩ fun s=>Rt 9 s<|Rt 10 s<|?_
 have t:=uz b (u1 d (u1 e f im) im)
 have u:=b7 t (Ne.symm hne) hm
 refine R0 11 rfl<|cv u 2 (mG c 0 C.wordV 0 0 0 0 0 0 0 0 0 nS nS nS nS 0 0 0 0 0 nS) fun T H h=>?_
 have v:=b7 h n_bm_gm q
 have x:=b7 h n_bc_gm r
 refine b9 ⟨(ae v rfl),(ae x rfl)⟩ fun y=>Rt 12 y<|Rt 13 y<|R0 14 rfl<|cv H 5 (mG c 0 C.wordV 0 0 ((C.wordsC 1).wordV) 0 0 0 0 0 0 nS nS nS nS 0 0 0 0 0 nS) fun U I i=>?_
 have z:=b7 i n_bm_gm v
 have A:=b7 i n_bc_gm x
 refine b9 ⟨(ae z rfl),(ae A rfl)⟩ fun B=>Rt 15 B<|Rt 16 B<|R0 17 rfl<|cv I 6 (mG c 0 C.wordV 0 0 ((C.wordsC 1).wordV) (((C.wordsC 1).wordsC 1).wordV) 0 0 0 0 0 nS nS nS nS 0 0 0 0 0 nS) fun V J j=>?_
 refine b9 ⟨(ae (b7 j n_bm_gm z) rfl),(ae (b7 j n_bc_gm A) rfl)⟩ fun W=>re<|rm (.tuple #[])<|?_
 have hs:ez c C=((((C.wordsC 1).wordsC 1).wordsC 1),(b6.mk c 0 C.wordV 0 0 ((C.wordsC 1).wordV) (((C.wordsC 1).wordsC 1).wordV) 0 0 0 0 0 [] [] [] [] 0 0 0 0 0 [])):=by
   unfold ez
   (try simp only[bt,reduceIte])
   all_goals rfl
 rw[hs]
 have D:=u1 h (u1 i j im) im
 exact⟨rfl,(ag.upd G D (aa hne az) (ak (aW u (by decide)) aK)),⟨_,⟨J,rfl⟩,⟨_,_,_,_,_,rfl,aP.nil ..,aP.nil ..,aP.nil ..,aP.nil ..,aP.nil ..,(ek (by omega))⟩⟩,(us t D)⟩
theorem DF(hcode:B8 c)(hC:ag w g C)(hm:w.heap[gm]? = some (.cells (mC c) 45 (0,0)))(hne:g≠gm)    (hbc:w.heap[bc]? = some (.cells #[vP g 0] 164 (0,0)))(n_bc_g:bc≠g)(n_bc_gm:bc≠gm)(hbm:w.heap[bm]? = some (.cells #[vP gm 0] 166 (0,0)))(n_bm_g:bm≠g)(n_bm_gm:bm≠gm)(hbw:w.heap[bw]? = some (.cells #[.func (.func 198) #[] #[vP bc 0,vP bm 0]] 218 (0,0)))(n_bw_g:bw≠g)(n_bw_gm:bw≠gm) :
    Calls Tryz.prog 207 #[vP bw 0,vP bc 0,vP bm 0] w (bS g gm (eZ c C).1 (eZ c C).2 w):=by
 obtain⟨hcode1,hcode2⟩:=hcode
 have hlen:=hC.len
 refine en 21 Tryz.func207 rfl<|sg<|ax hbw 0<|L0<|fy #[] #[vP bc 0,vP bm 0] (args:=#[vI 125,vP bc 0,vP bm 0])<|m3 (ia (most:=125) ⟨hcode1,hcode2⟩ hC hm hne hbc n_bc_g n_bc_gm hbm n_bm_g n_bm_gm) fun X P Q o=>?_
 have Y:=(hC).wordV
 have Z:=di (d6 (hC).rng 1)
 refine nt<|sq<|Rg 6 (fun w'=>w'.cell? ⟨bm,0,none⟩=some (vP gm 0)∧w'.cell? ⟨bc,0,none⟩=some (vP g 0)) fun a0 j=>?_
 have p:=aH o j
 have r:=ap.blk p (aa n_bm_g (aa n_bm_gm az)) hbm
 have s:=ap.blk p (aa n_bc_g (aa n_bc_gm az)) hbc
 refine b9 ⟨(ae r rfl),(ae s rfl)⟩ fun t=>Rl 0 t (fun _ hs=>hs.1)<|Rl 1 t (fun _ hs=>hs.2)<|?_
 refine R0 2 rfl<|Oc<|m3 (bC (ag.old P j)) fun a1 R d a2=>?_
 have u:=b7 d n_bm_g r
 have v:=b7 d n_bc_g s
 refine b9 ⟨(ae u rfl),(ae v rfl)⟩ fun y=>Rt 3 y<|Rt 4 y<|?_
 have z:=b7 (uz j d) (Ne.symm hne) Q
 refine R0 5 rfl<|cv z 7 (mG c 0 C.wordV ((C.wordsC 1).wordV) 0 0 0 ((bB (C.wordsC 1) C.wordV 125).wordV) 0 0 0 0 nS nS nS nS 0 0 0 0 0 nS) fun a3 S k=>?_
 have A:=b7 k n_bm_gm u
 have B:=b7 k n_bc_gm v
 refine b9 ⟨(ae A rfl),(ae B rfl)⟩ fun a4=>re<|tn<|Rg 12 (fun w'=>w'.cell? ⟨bm,0,none⟩=some (vP gm 0)∧w'.cell? ⟨bc,0,none⟩=some (vP g 0)∧w'.cell? ⟨gm,7,none⟩=some (vW ((bB (C.wordsC 1) C.wordV 125).wordV))) fun a5 f=>?_
 have D:=ub f A
 have E:=ub f B
 have F:=ub f S
 refine b9 ⟨(ae D rfl),(ae E rfl),(ae F rfl)⟩ fun b=>Rl 0 b (fun _ hs=>hs.1)<|Rl 1 b (fun _ hs=>hs.2.1)<|Rl 2 b (fun _ hs=>hs.2.1)<|Rl 3 b (fun _ hs=>hs.1)<|Rt 4 b<|Rt 5 b<|Rl 6 b (fun _ hs=>hs.2.2)<|?_
 have G:=aH k f
 refine R0 7 rfl<|Oc<|m3 (mY (a:=(bB (C.wordsC 1) C.wordV 125).wordV) (most:=121) (ag.upd R G (aa hne az) (ak (aW z (by decide)) aK)) (by omega)) fun a6 T i a7=>?_
 have H:=b7 i n_bm_g D
 have I:=b7 i n_bc_g E
 have J:=b7 i (Ne.symm hne) F
 refine b9 ⟨(ae H rfl),(ae I rfl),(ae J rfl)⟩ fun a8=>R0 8 rfl<|Oc<|sY (jX (n:=((bB (C.wordsC 1) C.wordV 125).wordsC 1).wordV) T (by omega)) fun U V a9 K ab ad W m=>?_
 have L:=b7 m n_bm_g H
 have M:=b7 m n_bc_g I
 have q:=b7 m (Ne.symm hne) J
 refine b9 ⟨(ae L rfl),(ae M rfl),(ae q rfl)⟩ fun N=>Rt 9 N<|Rt 10 N<|R0 11 rfl<|cv q 12 (mG c 0 C.wordV ((C.wordsC 1).wordV) 0 0 0 ((bB (C.wordsC 1) C.wordV 125).wordV) 0 0 0 0 (.slice U (((cA (bB ((bB (C.wordsC 1) C.wordV 125).wordsC 1) ((bB (C.wordsC 1) C.wordV 125).wordV) 121) (((bB (C.wordsC 1) C.wordV 125).wordsC 1).wordV)).wordsR (((bB (C.wordsC 1) C.wordV 125).wordsC 1).wordV)).length) V) nS nS nS 0 0 0 0 0 nS) fun af O l=>?_
 refine b9 ⟨(ae (b7 l n_bm_gm L) rfl),(ae (b7 l n_bc_gm M) rfl),(ae O rfl)⟩ fun ah=>re<|rm (.tuple #[])<|?_
 have hs:eZ c C=(((cA (bB ((bB (C.wordsC 1) C.wordV 125).wordsC 1) ((bB (C.wordsC 1) C.wordV 125).wordV) 121) (((bB (C.wordsC 1) C.wordV 125).wordsC 1).wordV)).wordsC (((bB (C.wordsC 1) C.wordV 125).wordsC 1).wordV)),(b6.mk c 0 C.wordV ((C.wordsC 1).wordV) 0 0 0 ((bB (C.wordsC 1) C.wordV 125).wordV) 0 0 0 0 ((cA (bB ((bB (C.wordsC 1) C.wordV 125).wordsC 1) ((bB (C.wordsC 1) C.wordV 125).wordV) 121) (((bB (C.wordsC 1) C.wordV 125).wordsC 1).wordV)).wordsR (((bB (C.wordsC 1) C.wordV 125).wordsC 1).wordV)) [] [] [] 0 0 0 0 0 [])):=by
   unfold eZ hH t1 fH
   (try simp only[bt,reduceIte])
   all_goals rfl
 rw[hs]
 exact⟨rfl,(ag.upd W l (aa hne az) (ak (aW q (by decide)) aK)),⟨_,⟨O,rfl⟩,⟨_,_,_,_,_,rfl,(aJ.hi (aj K l (fun x hx=>(aa (fun e=>(aD (ai hm) (le (le (le (le (le o.size j.size) d.size) k.size) f.size) i.size) K) (e▸hx)) az)) (fun _ _ h=>h)) (le (le (le (le (le o.size j.size) d.size) k.size) f.size) i.size)),aP.nil ..,aP.nil ..,aP.nil ..,aP.nil ..,(ek (by omega))⟩⟩,(ut p (ui d (ui G (ui i (us m l)))) (ac im (ac im aB)))⟩
theorem Ec(hcode:B8 c)(hC:ag w g C)(hm:w.heap[gm]? = some (.cells (mC c) 45 (0,0)))(hne:g≠gm)   (hbc:w.heap[bc]? = some (.cells #[vP g 0] 164 (0,0)))(n_bc_g:bc≠g)(n_bc_gm:bc≠gm)(hbm:w.heap[bm]? = some (.cells #[vP gm 0] 166 (0,0)))(n_bm_g:bm≠g)(n_bm_gm:bm≠gm) :
    Calls Tryz.prog 208 #[vP bc 0,vP bm 0] w (bS g gm (fu c C).1 (fu c C).2 w):=by
 obtain⟨hcode1,hcode2⟩:=hcode
 have hlen:=hC.len
 refine en 7 Tryz.func208 rfl<|Rg 6 (fun w'=>w'.cell? ⟨bm,0,none⟩=some (vP gm 0)∧w'.cell? ⟨bc,0,none⟩=some (vP g 0)) fun p a=>?_
 have e:=ub a hbm
 have f:=ub a hbc
 refine b9 ⟨(ae e rfl),(ae f rfl)⟩ fun h=>Rl 0 h (fun _ hs=>hs.1)<|Rl 1 h (fun _ hs=>hs.2)<|?_
 refine R0 2 rfl<|Oc<|m3 (bC (ag.old hC a)) fun q n d r=>?_
 have i:=b7 d n_bm_g e
 have j:=b7 d n_bc_g f
 refine b9 ⟨(ae i rfl),(ae j rfl)⟩ fun k=>Rt 3 k<|Rt 4 k<|?_
 have l:=uz a d
 have m:=b7 l (Ne.symm hne) hm
 refine R0 5 rfl<|cv m 2 (mG c 0 C.wordV 0 0 0 0 0 0 0 0 0 nS nS nS nS 0 0 0 0 0 nS) fun s o b=>?_
 refine b9 ⟨(ae (b7 b n_bm_gm i) rfl),(ae (b7 b n_bc_gm j) rfl)⟩ fun t=>re<|rm (.tuple #[])<|?_
 have hs:fu c C=((C.wordsC 1),(b6.mk c 0 C.wordV 0 0 0 0 0 0 0 0 0 [] [] [] [] 0 0 0 0 0 [])):=by
   unfold fu
   (try simp only[bt,reduceIte])
   all_goals rfl
 rw[hs]
 exact⟨rfl,(ag.upd n b (aa hne az) (ak (aW m (by decide)) aK)),⟨_,⟨o,rfl⟩,⟨_,_,_,_,_,rfl,aP.nil ..,aP.nil ..,aP.nil ..,aP.nil ..,aP.nil ..,(ek (by omega))⟩⟩,(us l b)⟩
theorem E9(hcode:B8 c)(hC:ag w g C)(hm:w.heap[gm]? = some (.cells (mC c) 45 (0,0)))(hne:g≠gm)   (hbc:w.heap[bc]? = some (.cells #[vP g 0] 164 (0,0)))(n_bc_g:bc≠g)(n_bc_gm:bc≠gm)(hbm:w.heap[bm]? = some (.cells #[vP gm 0] 166 (0,0)))(n_bm_g:bm≠g)(n_bm_gm:bm≠gm) :
    Calls Tryz.prog 209 #[vP bc 0,vP bm 0] w (bS g gm (y4 c C).1 (y4 c C).2 w):=by
 obtain⟨hcode1,hcode2⟩:=hcode
 have hlen:=hC.len
 refine en 36 Tryz.func209 rfl<|sg<|ax hbc 0<|aF<|m3 (bC hC) fun S D i T=>bA C.wordV<|Pl 1<|ng<|?_
 have j:=b7 i n_bc_g hbc
 refine ax j 0<|Pl 1<|L0<|Oe (vI (Int.tmod C.wordV 2)) (vI (C.wordV%2)) (congrArg (Value.int .i64) (Int.tmod_eq_emod_of_nonneg (by omega)))<|Pl 2<|gy 3 [11] 14 11 ((C.wordV%2)==0) (decide (2≤C.wordV)) (fun K E F=>?_) ?_
 have U:=aC F
 exact Pl 3<|ce E _ rfl
 refine Pl 1<|gy 3 [15] 18 15 (((C.wordV%2)==0)&&(decide (2≤C.wordV))) (decide (C.wordV≤64)) (fun K G k=>?_) ?_
 have H:=(bK k).1
 have I:=(bK k).2
 have V:=aC H
 have W:=of_decide_eq_true I
 exact Pl 3<|ce G _ rfl
 refine aF<|m2 (aU (((((C.wordV%2)==0)&&(decide (2≤C.wordV)))&&(decide (C.wordV≤64)))) 5 D) fun X J l=>ng<|?_
 have m:=b7 l n_bc_g j
 refine ax m 0<|aF<|m3 (bC J) fun Y L o Z=>bA (((C.wordsC 1).need ((((C.wordV%2)==0)&&(decide (2≤C.wordV)))&&(decide (C.wordV≤64))) 5).wordV)<|Pl 1<|ng<|?_
 have p:=b7 o n_bc_g m
 refine ax p 0<|Pl 1<|bA (2*(((C.wordsC 1).need ((((C.wordV%2)==0)&&(decide (2≤C.wordV)))&&(decide (C.wordV≤64))) 5).wordV))<|bA (2+(2*(((C.wordsC 1).need ((((C.wordV%2)==0)&&(decide (2≤C.wordV)))&&(decide (C.wordV≤64))) 5).wordV)))<|Pl 2<|aF<|m2 (aU (((2+(2*(((C.wordsC 1).need ((((C.wordV%2)==0)&&(decide (2≤C.wordV)))&&(decide (C.wordV≤64))) 5).wordV)))==C.wordV)) 5 L) fun a0 M N=>nt<|Rg 7 (fun w'=>w'.cell? ⟨bm,0,none⟩=some (vP gm 0)∧w'.cell? ⟨bc,0,none⟩=some (vP g 0)) fun a1 q=>?_
 have r:=aH N q
 have b:=u1 i (u1 l (u1 o r im) im) im
 have s:=b7 b n_bm_g hbm
 have t:=b7 r n_bc_g p
 refine b9 ⟨(ae s rfl),(ae t rfl)⟩ fun d=>Rl 0 d (fun _ hs=>hs.1)<|Rl 1 d (fun _ hs=>hs.2)<|Rt 2 d<|?_
 refine R0 3 rfl<|Oc<|sY (dO (n:=((C.wordsC 1).need ((((C.wordV%2)==0)&&(decide (2≤C.wordV)))&&(decide (C.wordV≤64))) 5).wordV) (ag.old M q)) fun O P a2 u a3 a4 Q f=>?_
 have v:=b7 f n_bm_g s
 have y:=b7 f n_bc_g t
 refine b9 ⟨(ae v rfl),(ae y rfl)⟩ fun z=>Rt 4 z<|Rt 5 z<|?_
 have A:=u1 b f im
 have B:=b7 A (Ne.symm hne) hm
 refine R0 6 rfl<|cv B 12 (mG c 0 0 0 0 0 0 0 0 0 0 0 (.slice O ((((((C.wordsC 1).need ((((C.wordV%2)==0)&&(decide (2≤C.wordV)))&&(decide (C.wordV≤64))) 5).wordsC 1).need ((2+(2*(((C.wordsC 1).need ((((C.wordV%2)==0)&&(decide (2≤C.wordV)))&&(decide (C.wordV≤64))) 5).wordV)))==C.wordV) 5).wordsR (((C.wordsC 1).need ((((C.wordV%2)==0)&&(decide (2≤C.wordV)))&&(decide (C.wordV≤64))) 5).wordV)).length) P) nS nS nS 0 0 0 0 0 nS) fun a5 R a=>?_
 refine b9 ⟨(ae (b7 a n_bm_gm v) rfl),(ae (b7 a n_bc_gm y) rfl)⟩ fun a6=>re<|rm (.tuple #[])<|?_
 exact dA (by unfold y4 zV tv jP;(try simp only[bt,reduceIte])<;>rfl) ⟨rfl,(ag.upd Q a (aa hne az) (ak (aW B (by decide)) aK)),⟨_,⟨R,rfl⟩,⟨_,_,_,_,_,rfl,(aJ.hi (aj u a (fun x hx=>(aa (fun e=>(aD (ai hm) b.size u) (e▸hx)) az)) (fun _ _ h=>h)) b.size),aP.nil ..,aP.nil ..,aP.nil ..,aP.nil ..,(ek (by omega))⟩⟩,(us A a)⟩
open Go.RowKit
theorem tE(hC:ag w g C)(hm:w.heap[gm]? = some (.cells (mC 3) 45 (0,0)))(hne:g≠gm) : Calls Tryz.prog 148 #[vI 0,vP gm 0,vP g 0] w (iJ (fun W=>bS g gm (cL 125 3 C).1 (cL 125 3 C).2 W) w):=by
 refine en 67 Tryz.func148 rfl<|sg<|L0<|cU #[vP gm 0] fun n D f o a=>L0<|cU #[vP g 0] fun p E h q b=>Pl 1<|aS 1<|aL #[.nilFunc] fun r F d s t=>L0<|cv s 0 #[.func (.func 198) #[] #[vP p 0,vP n 0]] fun G u v=>nl<|tn<|au 2<|aL #[.bool false] fun H I x y z=>L0<|cv y 0 #[.bool true] fun J A B=>nt<|sq<|sg<|?_
 have i:=ud z B x
 have j:=ud t (aH v i) d
 have k:=aH b j
 have l:=ub k o
 refine ax l 0<|Pl 2<|?_
 have e:=aH a k
 have m:=ub e hm
 refine ax m 0<|al 1<|bk<|sg<|ax A 0<|al 9<|c1<|ay 2<|rt<|br<|tr<|rr (.func (.func 200) #[] #[vP r 0])<|?_
 exact⟨_,_,rfl,by kernel_rfl,e,Dp (c:=3) ⟨by decide,by decide⟩ (ag.old hC e) m hne (ub j q) (Ne.symm (nb (ag.lt hC) a.size h)) (Ne.symm (nb (ai hm) a.size h)) l (Ne.symm (nb (ag.lt hC) lr f)) (Ne.symm (nb (ai hm) lr f)) (ub i u) (Ne.symm (nb (ag.lt hC) (le a.size b.size) d)) (Ne.symm (nb (ai hm) (le a.size b.size) d))⟩
theorem vg(hC:ag w g C)(hm:w.heap[gm]? = some (.cells (mC 4) 45 (0,0)))(hne:g≠gm) : Calls Tryz.prog 148 #[vI 0,vP gm 0,vP g 0] w (iJ (fun W=>bS g gm (cL 125 4 C).1 (cL 125 4 C).2 W) w):=by
 refine en 67 Tryz.func148 rfl<|sg<|L0<|cU #[vP gm 0] fun n D f o a=>L0<|cU #[vP g 0] fun p E h q b=>Pl 1<|aS 1<|aL #[.nilFunc] fun r F d s t=>L0<|cv s 0 #[.func (.func 198) #[] #[vP p 0,vP n 0]] fun G u v=>nl<|tn<|au 2<|aL #[.bool false] fun H I x y z=>L0<|cv y 0 #[.bool true] fun J A B=>nt<|sq<|sg<|?_
 have i:=ud z B x
 have j:=ud t (aH v i) d
 have k:=aH b j
 have l:=ub k o
 refine ax l 0<|Pl 2<|?_
 have e:=aH a k
 have m:=ub e hm
 refine ax m 0<|al 1<|bk<|sg<|ax A 0<|al 9<|c1<|ay 2<|rt<|br<|tr<|rr (.func (.func 200) #[] #[vP r 0])<|?_
 exact⟨_,_,rfl,by kernel_rfl,e,Dp (c:=4) ⟨by decide,by decide⟩ (ag.old hC e) m hne (ub j q) (Ne.symm (nb (ag.lt hC) a.size h)) (Ne.symm (nb (ai hm) a.size h)) l (Ne.symm (nb (ag.lt hC) lr f)) (Ne.symm (nb (ai hm) lr f)) (ub i u) (Ne.symm (nb (ag.lt hC) (le a.size b.size) d)) (Ne.symm (nb (ai hm) (le a.size b.size) d))⟩
theorem uF(hC:ag w g C)(hm:w.heap[gm]? = some (.cells (mC 3) 45 (0,0)))(hne:g≠gm) : Calls Tryz.prog 148 #[vI 1,vP gm 0,vP g 0] w (iJ (fun W=>bS g gm (dC 3 C).1 (dC 3 C).2 W) w):=by
 refine en 67 Tryz.func148 rfl<|sg<|L0<|cU #[vP gm 0] fun d z e m a=>L0<|cU #[vP g 0] fun f A h n o=>Pl 1<|aS 1<|aL #[.nilFunc] fun B D p q r=>L0<|cv q 0 #[.func (.func 198) #[] #[vP f 0,vP d 0]] fun E F s=>nl<|tn<|au 2<|aL #[.bool false] fun G H t u v=>L0<|cv u 0 #[.bool false] fun I x y=>nt<|sq<|sg<|?_
 have i:=ud r (aH s (ud v y t)) p
 have j:=aH o i
 have k:=ub j m
 refine ax k 0<|Pl 2<|?_
 have b:=aH a j
 have l:=ub b hm
 refine ax l 0<|al 1<|bk<|sg<|ax x 0<|al 9<|c0<|sq<|sq<|go<|al 3<|c1<|bU<|c1<|ay 2<|rt<|br<|tr<|rr (.func (.func 201) #[] #[vP f 0,vP d 0])<|?_
 exact⟨_,_,rfl,by kernel_rfl,b,Dh (c:=3) ⟨by decide,by decide⟩ (ag.old hC b) l hne (ub i n) (Ne.symm (nb (ag.lt hC) a.size h)) (Ne.symm (nb (ai hm) a.size h)) k (Ne.symm (nb (ag.lt hC) lr e)) (Ne.symm (nb (ai hm) lr e))⟩
theorem tA(hC:ag w g C)(hm:w.heap[gm]? = some (.cells (mC 4) 45 (0,0)))(hne:g≠gm) : Calls Tryz.prog 148 #[vI 1,vP gm 0,vP g 0] w (iJ (fun W=>bS g gm (dC 4 C).1 (dC 4 C).2 W) w):=by
 refine en 67 Tryz.func148 rfl<|sg<|L0<|cU #[vP gm 0] fun d z e m a=>L0<|cU #[vP g 0] fun f A h n o=>Pl 1<|aS 1<|aL #[.nilFunc] fun B D p q r=>L0<|cv q 0 #[.func (.func 198) #[] #[vP f 0,vP d 0]] fun E F s=>nl<|tn<|au 2<|aL #[.bool false] fun G H t u v=>L0<|cv u 0 #[.bool false] fun I x y=>nt<|sq<|sg<|?_
 have i:=ud r (aH s (ud v y t)) p
 have j:=aH o i
 have k:=ub j m
 refine ax k 0<|Pl 2<|?_
 have b:=aH a j
 have l:=ub b hm
 refine ax l 0<|al 1<|bk<|sg<|ax x 0<|al 9<|c0<|sq<|sq<|go<|al 3<|c0<|ay 3<|c1<|bU<|c1<|ay 2<|rt<|br<|tr<|rr (.func (.func 201) #[] #[vP f 0,vP d 0])<|?_
 exact⟨_,_,rfl,by kernel_rfl,b,Dh (c:=4) ⟨by decide,by decide⟩ (ag.old hC b) l hne (ub i n) (Ne.symm (nb (ag.lt hC) a.size h)) (Ne.symm (nb (ai hm) a.size h)) k (Ne.symm (nb (ag.lt hC) lr e)) (Ne.symm (nb (ai hm) lr e))⟩
theorem vh(hC:ag w g C)(hm:w.heap[gm]? = some (.cells (mC 6) 45 (0,0)))(hne:g≠gm) : Calls Tryz.prog 148 #[vI 0,vP gm 0,vP g 0] w (iJ (fun W=>bS g gm (fZ 6 C).1 (fZ 6 C).2 W) w):=by
 refine en 67 Tryz.func148 rfl<|sg<|L0<|cU #[vP gm 0] fun d z e m a=>L0<|cU #[vP g 0] fun f A h n o=>Pl 1<|aS 1<|aL #[.nilFunc] fun B D p q r=>L0<|cv q 0 #[.func (.func 198) #[] #[vP f 0,vP d 0]] fun E F s=>nl<|tn<|au 2<|aL #[.bool false] fun G H t u v=>L0<|cv u 0 #[.bool true] fun I x y=>nt<|sq<|sg<|?_
 have i:=ud r (aH s (ud v y t)) p
 have j:=aH o i
 have k:=ub j m
 refine ax k 0<|Pl 2<|?_
 have b:=aH a j
 have l:=ub b hm
 refine ax l 0<|al 1<|bk<|sg<|ax x 0<|al 9<|c0<|sq<|sq<|go<|al 3<|c0<|ay 3<|c0<|go<|Pl 7<|nl<|tn<|c0<|ay 3<|c1<|ay 2<|rt<|br<|tr<|rr (.func (.func 203) #[] #[vP f 0,vP d 0])<|?_
 exact⟨_,_,rfl,by kernel_rfl,b,Dr (c:=6) ⟨by decide,by decide⟩ (ag.old hC b) l hne (ub i n) (Ne.symm (nb (ag.lt hC) a.size h)) (Ne.symm (nb (ai hm) a.size h)) k (Ne.symm (nb (ag.lt hC) lr e)) (Ne.symm (nb (ai hm) lr e))⟩
theorem tV(hC:ag w g C)(hm:w.heap[gm]? = some (.cells (mC 6) 45 (0,0)))(hne:g≠gm) : Calls Tryz.prog 148 #[vI 1,vP gm 0,vP g 0] w (iJ (fun W=>bS g gm (fZ 6 C).1 (fZ 6 C).2 W) w):=by
 refine en 67 Tryz.func148 rfl<|sg<|L0<|cU #[vP gm 0] fun d z e m a=>L0<|cU #[vP g 0] fun f A h n o=>Pl 1<|aS 1<|aL #[.nilFunc] fun B D p q r=>L0<|cv q 0 #[.func (.func 198) #[] #[vP f 0,vP d 0]] fun E F s=>nl<|tn<|au 2<|aL #[.bool false] fun G H t u v=>L0<|cv u 0 #[.bool false] fun I x y=>nt<|sq<|sg<|?_
 have i:=ud r (aH s (ud v y t)) p
 have j:=aH o i
 have k:=ub j m
 refine ax k 0<|Pl 2<|?_
 have b:=aH a j
 have l:=ub b hm
 refine ax l 0<|al 1<|bk<|sg<|ax x 0<|al 9<|c0<|sq<|sq<|go<|al 3<|c0<|ay 3<|c0<|go<|Pl 7<|nl<|tn<|c0<|ay 3<|c1<|ay 2<|rt<|br<|tr<|rr (.func (.func 203) #[] #[vP f 0,vP d 0])<|?_
 exact⟨_,_,rfl,by kernel_rfl,b,Dr (c:=6) ⟨by decide,by decide⟩ (ag.old hC b) l hne (ub i n) (Ne.symm (nb (ag.lt hC) a.size h)) (Ne.symm (nb (ai hm) a.size h)) k (Ne.symm (nb (ag.lt hC) lr e)) (Ne.symm (nb (ai hm) lr e))⟩
theorem s0(hC:ag w g C)(hm:w.heap[gm]? = some (.cells (mC 16) 45 (0,0)))(hne:g≠gm) : Calls Tryz.prog 148 #[vI 0,vP gm 0,vP g 0] w (iJ (fun W=>bS g gm (eY 16 C).1 (eY 16 C).2 W) w):=by
 refine en 67 Tryz.func148 rfl<|sg<|L0<|cU #[vP gm 0] fun j E k t a=>L0<|cU #[vP g 0] fun l F m u b=>Pl 1<|aS 1<|aL #[.nilFunc] fun v G d x e=>L0<|cv x 0 #[.func (.func 198) #[] #[vP l 0,vP j 0]] fun H y f=>nl<|tn<|au 2<|aL #[.bool false] fun z I h A B=>L0<|cv A 0 #[.bool true] fun J n D=>nt<|sq<|sg<|?_
 have o:=ud B D h
 have p:=ud e (aH f o) d
 have q:=aH b p
 have r:=ub q t
 refine ax r 0<|Pl 2<|?_
 have i:=aH a q
 have s:=ub i hm
 refine ax s 0<|al 1<|bk<|sg<|ax n 0<|al 9<|c0<|sq<|sq<|go<|al 3<|c0<|ay 3<|c0<|go<|Pl 7<|nl<|tn<|c0<|ay 3<|c0<|ay 3<|c1<|ay 2<|rt<|br<|tr<|rr (.func (.func 204) #[] #[vP v 0,vP z 0,vP l 0,vP j 0])<|?_
 exact⟨_,_,rfl,by kernel_rfl,i,D7 (c:=16) ⟨by decide,by decide⟩ (ag.old hC i) s hne (ub p u) (Ne.symm (nb (ag.lt hC) a.size m)) (Ne.symm (nb (ai hm) a.size m)) r (Ne.symm (nb (ag.lt hC) lr k)) (Ne.symm (nb (ai hm) lr k)) (ub o y) (Ne.symm (nb (ag.lt hC) (le a.size b.size) d)) (Ne.symm (nb (ai hm) (le a.size b.size) d)) n (Ne.symm (nb (ag.lt hC) (le (le (le a.size b.size) e.size) f.size) h)) (Ne.symm (nb (ai hm) (le (le (le a.size b.size) e.size) f.size) h)) rfl⟩
theorem rD(hC:ag w g C)(hm:w.heap[gm]? = some (.cells (mC 16) 45 (0,0)))(hne:g≠gm) : Calls Tryz.prog 148 #[vI 1,vP gm 0,vP g 0] w (iJ (fun W=>bS g gm (cL 123 16 C).1 (cL 123 16 C).2 W) w):=by
 refine en 67 Tryz.func148 rfl<|sg<|L0<|cU #[vP gm 0] fun j E k t a=>L0<|cU #[vP g 0] fun l F m u b=>Pl 1<|aS 1<|aL #[.nilFunc] fun v G d x e=>L0<|cv x 0 #[.func (.func 198) #[] #[vP l 0,vP j 0]] fun H y f=>nl<|tn<|au 2<|aL #[.bool false] fun z I h A B=>L0<|cv A 0 #[.bool false] fun J n D=>nt<|sq<|sg<|?_
 have o:=ud B D h
 have p:=ud e (aH f o) d
 have q:=aH b p
 have r:=ub q t
 refine ax r 0<|Pl 2<|?_
 have i:=aH a q
 have s:=ub i hm
 refine ax s 0<|al 1<|bk<|sg<|ax n 0<|al 9<|c0<|sq<|sq<|go<|al 3<|c0<|ay 3<|c0<|go<|Pl 7<|nl<|tn<|c0<|ay 3<|c0<|ay 3<|c1<|ay 2<|rt<|br<|tr<|rr (.func (.func 204) #[] #[vP v 0,vP z 0,vP l 0,vP j 0])<|?_
 exact⟨_,_,rfl,by kernel_rfl,i,D4 (c:=16) ⟨by decide,by decide⟩ (ag.old hC i) s hne (ub p u) (Ne.symm (nb (ag.lt hC) a.size m)) (Ne.symm (nb (ai hm) a.size m)) r (Ne.symm (nb (ag.lt hC) lr k)) (Ne.symm (nb (ai hm) lr k)) (ub o y) (Ne.symm (nb (ag.lt hC) (le a.size b.size) d)) (Ne.symm (nb (ai hm) (le a.size b.size) d)) n (Ne.symm (nb (ag.lt hC) (le (le (le a.size b.size) e.size) f.size) h)) (Ne.symm (nb (ai hm) (le (le (le a.size b.size) e.size) f.size) h)) rfl⟩
theorem qX(hC:ag w g C)(hm:w.heap[gm]? = some (.cells (mC 22) 45 (0,0)))(hne:g≠gm) : Calls Tryz.prog 148 #[vI 0,vP gm 0,vP g 0] w (iJ (fun W=>bS g gm (ez 22 C).1 (ez 22 C).2 W) w):=by
 refine en 67 Tryz.func148 rfl<|sg<|L0<|cU #[vP gm 0] fun d z e m a=>L0<|cU #[vP g 0] fun f A h n o=>Pl 1<|aS 1<|aL #[.nilFunc] fun B D p q r=>L0<|cv q 0 #[.func (.func 198) #[] #[vP f 0,vP d 0]] fun E F s=>nl<|tn<|au 2<|aL #[.bool false] fun G H t u v=>L0<|cv u 0 #[.bool true] fun I x y=>nt<|sq<|sg<|?_
 have i:=ud r (aH s (ud v y t)) p
 have j:=aH o i
 have k:=ub j m
 refine ax k 0<|Pl 2<|?_
 have b:=aH a j
 have l:=ub b hm
 refine ax l 0<|al 1<|bk<|sg<|ax x 0<|al 9<|c0<|sq<|sq<|go<|al 3<|c0<|ay 3<|c0<|go<|Pl 7<|nl<|tn<|c0<|ay 3<|c0<|ay 3<|c0<|ay 3<|c1<|ay 2<|rt<|br<|tr<|rr (.func (.func 206) #[] #[vP f 0,vP d 0])<|?_
 exact⟨_,_,rfl,by kernel_rfl,b,Dt (c:=22) ⟨by decide,by decide⟩ (ag.old hC b) l hne (ub i n) (Ne.symm (nb (ag.lt hC) a.size h)) (Ne.symm (nb (ai hm) a.size h)) k (Ne.symm (nb (ag.lt hC) lr e)) (Ne.symm (nb (ai hm) lr e))⟩
theorem s7(hC:ag w g C)(hm:w.heap[gm]? = some (.cells (mC 22) 45 (0,0)))(hne:g≠gm) : Calls Tryz.prog 148 #[vI 1,vP gm 0,vP g 0] w (iJ (fun W=>bS g gm (ez 22 C).1 (ez 22 C).2 W) w):=by
 refine en 67 Tryz.func148 rfl<|sg<|L0<|cU #[vP gm 0] fun d z e m a=>L0<|cU #[vP g 0] fun f A h n o=>Pl 1<|aS 1<|aL #[.nilFunc] fun B D p q r=>L0<|cv q 0 #[.func (.func 198) #[] #[vP f 0,vP d 0]] fun E F s=>nl<|tn<|au 2<|aL #[.bool false] fun G H t u v=>L0<|cv u 0 #[.bool false] fun I x y=>nt<|sq<|sg<|?_
 have i:=ud r (aH s (ud v y t)) p
 have j:=aH o i
 have k:=ub j m
 refine ax k 0<|Pl 2<|?_
 have b:=aH a j
 have l:=ub b hm
 refine ax l 0<|al 1<|bk<|sg<|ax x 0<|al 9<|c0<|sq<|sq<|go<|al 3<|c0<|ay 3<|c0<|go<|Pl 7<|nl<|tn<|c0<|ay 3<|c0<|ay 3<|c0<|ay 3<|c1<|ay 2<|rt<|br<|tr<|rr (.func (.func 206) #[] #[vP f 0,vP d 0])<|?_
 exact⟨_,_,rfl,by kernel_rfl,b,Dt (c:=22) ⟨by decide,by decide⟩ (ag.old hC b) l hne (ub i n) (Ne.symm (nb (ag.lt hC) a.size h)) (Ne.symm (nb (ai hm) a.size h)) k (Ne.symm (nb (ag.lt hC) lr e)) (Ne.symm (nb (ai hm) lr e))⟩
theorem se(hC:ag w g C)(hm:w.heap[gm]? = some (.cells (mC 23) 45 (0,0)))(hne:g≠gm) : Calls Tryz.prog 148 #[vI 0,vP gm 0,vP g 0] w (iJ (fun W=>bS g gm (eZ 23 C).1 (eZ 23 C).2 W) w):=by
 refine en 67 Tryz.func148 rfl<|sg<|L0<|cU #[vP gm 0] fun f D h q a=>L0<|cU #[vP g 0] fun i E j r b=>Pl 1<|aS 1<|aL #[.nilFunc] fun s F d t u=>L0<|cv t 0 #[.func (.func 198) #[] #[vP i 0,vP f 0]] fun G v x=>nl<|tn<|au 2<|aL #[.bool false] fun H I y z A=>L0<|cv z 0 #[.bool true] fun J k B=>nt<|sq<|sg<|?_
 have l:=ud A B y
 have m:=ud u (aH x l) d
 have n:=aH b m
 have o:=ub n q
 refine ax o 0<|Pl 2<|?_
 have e:=aH a n
 have p:=ub e hm
 refine ax p 0<|al 1<|bk<|sg<|ax k 0<|al 9<|c0<|sq<|sq<|go<|al 3<|c0<|ay 3<|c0<|go<|Pl 3<|L1<|ii k 0<|al 3<|c0<|ay 3<|c0<|au 3<|nl<|tn<|c0<|ay 3<|c0<|ay 3<|c1<|ay 2<|rt<|br<|tr<|rr (.func (.func 207) #[] #[vP s 0,vP i 0,vP f 0])<|?_
 exact⟨_,_,rfl,by kernel_rfl,e,DF (c:=23) ⟨by decide,by decide⟩ (ag.old hC e) p hne (ub m r) (Ne.symm (nb (ag.lt hC) a.size j)) (Ne.symm (nb (ai hm) a.size j)) o (Ne.symm (nb (ag.lt hC) lr h)) (Ne.symm (nb (ai hm) lr h)) (ub l v) (Ne.symm (nb (ag.lt hC) (le a.size b.size) d)) (Ne.symm (nb (ai hm) (le a.size b.size) d))⟩
theorem rQ(hC:ag w g C)(hm:w.heap[gm]? = some (.cells (mC 23) 45 (0,0)))(hne:g≠gm) : Calls Tryz.prog 148 #[vI 1,vP gm 0,vP g 0] w (iJ (fun W=>bS g gm (dC 23 C).1 (dC 23 C).2 W) w):=by
 refine en 67 Tryz.func148 rfl<|sg<|L0<|cU #[vP gm 0] fun d z e n a=>L0<|cU #[vP g 0] fun f A h o p=>Pl 1<|aS 1<|aL #[.nilFunc] fun B D q r s=>L0<|cv r 0 #[.func (.func 198) #[] #[vP f 0,vP d 0]] fun E F t=>nl<|tn<|au 2<|aL #[.bool false] fun G H u v x=>L0<|cv v 0 #[.bool false] fun I i y=>nt<|sq<|sg<|?_
 have j:=ud s (aH t (ud x y u)) q
 have k:=aH p j
 have l:=ub k n
 refine ax l 0<|Pl 2<|?_
 have b:=aH a k
 have m:=ub b hm
 refine ax m 0<|al 1<|bk<|sg<|ax i 0<|al 9<|c0<|sq<|sq<|go<|al 3<|c0<|ay 3<|c0<|go<|Pl 3<|L1<|ii i 0<|al 3<|c1<|ay 2<|rt<|br<|tr<|rr (.func (.func 201) #[] #[vP f 0,vP d 0])<|?_
 exact⟨_,_,rfl,by kernel_rfl,b,Dh (c:=23) ⟨by decide,by decide⟩ (ag.old hC b) m hne (ub j o) (Ne.symm (nb (ag.lt hC) a.size h)) (Ne.symm (nb (ai hm) a.size h)) l (Ne.symm (nb (ag.lt hC) lr e)) (Ne.symm (nb (ai hm) lr e))⟩
theorem sa(hC:ag w g C)(hm:w.heap[gm]? = some (.cells (mC 24) 45 (0,0)))(hne:g≠gm) : Calls Tryz.prog 148 #[vI 0,vP gm 0,vP g 0] w (iJ (fun W=>bS g gm (fu 24 C).1 (fu 24 C).2 W) w):=by
 refine en 67 Tryz.func148 rfl<|sg<|L0<|cU #[vP gm 0] fun d z e n a=>L0<|cU #[vP g 0] fun f A h o p=>Pl 1<|aS 1<|aL #[.nilFunc] fun B D q r s=>L0<|cv r 0 #[.func (.func 198) #[] #[vP f 0,vP d 0]] fun E F t=>nl<|tn<|au 2<|aL #[.bool false] fun G H u v x=>L0<|cv v 0 #[.bool true] fun I i y=>nt<|sq<|sg<|?_
 have j:=ud s (aH t (ud x y u)) q
 have k:=aH p j
 have l:=ub k n
 refine ax l 0<|Pl 2<|?_
 have b:=aH a k
 have m:=ub b hm
 refine ax m 0<|al 1<|bk<|sg<|ax i 0<|al 9<|c0<|sq<|sq<|go<|al 3<|c0<|ay 3<|c0<|go<|Pl 7<|nl<|tn<|c0<|ay 3<|c0<|ay 3<|c0<|ay 3<|c0<|ay 3<|c0<|au 3<|L1<|ii i 0<|al 2<|c1<|ay 2<|rt<|br<|tr<|rr (.func (.func 208) #[] #[vP f 0,vP d 0])<|?_
 exact⟨_,_,rfl,by kernel_rfl,b,Ec (c:=24) ⟨by decide,by decide⟩ (ag.old hC b) m hne (ub j o) (Ne.symm (nb (ag.lt hC) a.size h)) (Ne.symm (nb (ai hm) a.size h)) l (Ne.symm (nb (ag.lt hC) lr e)) (Ne.symm (nb (ai hm) lr e))⟩
theorem qS(hC:ag w g C)(hm:w.heap[gm]? = some (.cells (mC 24) 45 (0,0)))(hne:g≠gm) : Calls Tryz.prog 148 #[vI 1,vP gm 0,vP g 0] w (iJ (fun W=>bS g gm (y4 24 C).1 (y4 24 C).2 W) w):=by
 refine en 67 Tryz.func148 rfl<|sg<|L0<|cU #[vP gm 0] fun d z e n a=>L0<|cU #[vP g 0] fun f A h o p=>Pl 1<|aS 1<|aL #[.nilFunc] fun B D q r s=>L0<|cv r 0 #[.func (.func 198) #[] #[vP f 0,vP d 0]] fun E F t=>nl<|tn<|au 2<|aL #[.bool false] fun G H u v x=>L0<|cv v 0 #[.bool false] fun I i y=>nt<|sq<|sg<|?_
 have j:=ud s (aH t (ud x y u)) q
 have k:=aH p j
 have l:=ub k n
 refine ax l 0<|Pl 2<|?_
 have b:=aH a k
 have m:=ub b hm
 refine ax m 0<|al 1<|bk<|sg<|ax i 0<|al 9<|c0<|sq<|sq<|go<|al 3<|c0<|ay 3<|c0<|go<|Pl 7<|nl<|tn<|c0<|ay 3<|c0<|ay 3<|c0<|ay 3<|c0<|ay 3<|c0<|au 3<|L1<|ii i 0<|al 2<|c0<|ay 3<|c1<|ay 2<|rt<|br<|tr<|rr (.func (.func 209) #[] #[vP f 0,vP d 0])<|?_
 exact⟨_,_,rfl,by kernel_rfl,b,E9 (c:=24) ⟨by decide,by decide⟩ (ag.old hC b) m hne (ub j o) (Ne.symm (nb (ag.lt hC) a.size h)) (Ne.symm (nb (ai hm) a.size h)) l (Ne.symm (nb (ag.lt hC) lr e)) (Ne.symm (nb (ai hm) lr e))⟩
theorem rc(hC:ag w g C)(hm:w.heap[gm]? = some (.cells (mC c) 45 (0,0)))(hne:g≠gm)(k3:(c==3)=false)(k4:(c==4)=false)(k6:(c==6)=false)(f:(c==16)=false)(h:(c==22)=false)(a:(c==23)=false)(b:(c==24)=false) : Calls Tryz.prog 148 #[vI 0,vP gm 0,vP g 0] w (bH .nilFunc w):=by
 refine en 67 Tryz.func148 rfl<|sg<|L0<|cU #[vP gm 0] fun i x y j k=>L0<|cU #[vP g 0] fun l z A B m=>Pl 1<|aS 1<|aL #[.nilFunc] fun D E n o p=>L0<|cv o 0 #[.func (.func 198) #[] #[vP l 0,vP i 0]] fun F G q=>nl<|tn<|au 2<|aL #[.bool false] fun H I r s t=>L0<|cv s 0 #[.bool true] fun J u v=>nt<|sq<|sg<|?_
 have d:=aH m (ud p (aH q (ud t v r)) n)
 refine ax (ub d j) 0<|Pl 2<|?_
 have e:=aH k d
 exact ax (ub e hm) 0<|al 1<|bk<|sg<|ax u 0<|Pl 4<|sy 22 k3<|al 5<|cf k4<|sq<|ay 3<|cf k3<|ay 3<|cf k4<|go<|Pl 3<|sy 35 a<|al 4<|c0<|ay 3<|cf k6<|ay 3<|cf f<|ay 3<|cf h<|au 3<|nl<|tn<|cf a<|au 3<|sy 59 b<|al 3<|c0<|au 3<|nl<|tn<|cf b<|sk<|bn<|tn<|ay 1<|rt<|rr (.nilFunc)<|⟨rfl,e⟩
theorem qJ(hC:ag w g C)(hm:w.heap[gm]? = some (.cells (mC c) 45 (0,0)))(hne:g≠gm)(k3:(c==3)=false)(k4:(c==4)=false)(k6:(c==6)=false)(f:(c==16)=false)(h:(c==22)=false)(a:(c==23)=false)(b:(c==24)=false) : Calls Tryz.prog 148 #[vI 1,vP gm 0,vP g 0] w (bH .nilFunc w):=by
 refine en 67 Tryz.func148 rfl<|sg<|L0<|cU #[vP gm 0] fun i x y j k=>L0<|cU #[vP g 0] fun l z A B m=>Pl 1<|aS 1<|aL #[.nilFunc] fun D E n o p=>L0<|cv o 0 #[.func (.func 198) #[] #[vP l 0,vP i 0]] fun F G q=>nl<|tn<|au 2<|aL #[.bool false] fun H I r s t=>L0<|cv s 0 #[.bool false] fun J u v=>nt<|sq<|sg<|?_
 have d:=aH m (ud p (aH q (ud t v r)) n)
 refine ax (ub d j) 0<|Pl 2<|?_
 have e:=aH k d
 exact ax (ub e hm) 0<|al 1<|bk<|sg<|ax u 0<|al 9<|c0<|sq<|sq<|go<|al 3<|cf k3<|ay 3<|cf k4<|go<|Pl 3<|sy 35 a<|al 4<|c0<|ay 3<|cf k6<|au 3<|nl<|tn<|cf f<|ay 3<|cf h<|ay 3<|cf a<|au 3<|sy 59 b<|al 3<|c0<|ay 3<|cf b<|sk<|bn<|tn<|ay 1<|rt<|rr (.nilFunc)<|⟨rfl,e⟩
theorem lD{r:aA × b6}    (hC:ag w g C)(hm:w.heap[gm]? = some (.cells (mC c) 45 (0,0)))(hne:g≠gm)(hd:dir=0∨dir=1)(h:bQ dir c C=some r) : Calls Tryz.prog 148 #[.int .i64 dir,.pointer (some ⟨gm,0,none⟩),.pointer (some ⟨g,0,none⟩)] w (iJ (fun W=>bS g gm r.1 r.2 W) w):=by
  by_cases h3:c=3
  · subst h3
    rcases hd with rfl|rfl
    · obtain rfl:cL 125 3 C=r:=Option.some.inj h
      exact tE hC hm hne
    · obtain rfl:dC 3 C=r:=Option.some.inj h
      exact uF hC hm hne
  by_cases h4:c=4
  · subst h4
    rcases hd with rfl|rfl
    · obtain rfl:cL 125 4 C=r:=Option.some.inj h
      exact vg hC hm hne
    · obtain rfl:dC 4 C=r:=Option.some.inj h
      exact tA hC hm hne
  by_cases h6:c=6
  · subst h6
    rcases hd with rfl|rfl
    · obtain rfl:fZ 6 C=r:=Option.some.inj h
      exact vh hC hm hne
    · obtain rfl:fZ 6 C=r:=Option.some.inj h
      exact tV hC hm hne
  by_cases a:c=16
  · subst a
    rcases hd with rfl|rfl
    · obtain rfl:eY 16 C=r:=Option.some.inj h
      exact s0 hC hm hne
    · obtain rfl:cL 123 16 C=r:=Option.some.inj h
      exact rD hC hm hne
  by_cases b:c=22
  · subst b
    rcases hd with rfl|rfl
    · obtain rfl:ez 22 C=r:=Option.some.inj h
      exact qX hC hm hne
    · obtain rfl:ez 22 C=r:=Option.some.inj h
      exact s7 hC hm hne
  by_cases d:c=23
  · subst d
    rcases hd with rfl|rfl
    · obtain rfl:eZ 23 C=r:=Option.some.inj h
      exact se hC hm hne
    · obtain rfl:dC 23 C=r:=Option.some.inj h
      exact rQ hC hm hne
  by_cases e:c=24
  · subst e
    rcases hd with rfl|rfl
    · obtain rfl:fu 24 C=r:=Option.some.inj h
      exact sa hC hm hne
    · obtain rfl:y4 24 C=r:=Option.some.inj h
      exact qS hC hm hne
  exfalso
  unfold bQ at h
  simp[h3,h4,h6,a,b,d,e] at h
theorem l0(hC:ag w g C)(hm:w.heap[gm]? = some (.cells (mC c) 45 (0,0)))(hne:g≠gm)(hd:dir=0∨dir=1)(h:bQ dir c C=none) : Calls Tryz.prog 148 #[.int .i64 dir,.pointer (some ⟨gm,0,none⟩),.pointer (some ⟨g,0,none⟩)] w (bH .nilFunc w):=by
  have k3:(c==3)=false:=by
    cases hk:(c==3)
    · rfl
    · obtain rfl:c=3:=by simpa using hk
      rcases hd with rfl|rfl<;>cases h
  have k4:(c==4)=false:=by
    cases hk:(c==4)
    · rfl
    · obtain rfl:c=4:=by simpa using hk
      rcases hd with rfl|rfl<;>cases h
  have k6:(c==6)=false:=by
    cases hk:(c==6)
    · rfl
    · obtain rfl:c=6:=by simpa using hk
      rcases hd with rfl|rfl<;>cases h
  have a:(c==16)=false:=by
    cases hk:(c==16)
    · rfl
    · obtain rfl:c=16:=by simpa using hk
      rcases hd with rfl|rfl<;>cases h
  have b:(c==22)=false:=by
    cases hk:(c==22)
    · rfl
    · obtain rfl:c=22:=by simpa using hk
      rcases hd with rfl|rfl<;>cases h
  have d:(c==23)=false:=by
    cases hk:(c==23)
    · rfl
    · obtain rfl:c=23:=by simpa using hk
      rcases hd with rfl|rfl<;>cases h
  have e:(c==24)=false:=by
    cases hk:(c==24)
    · rfl
    · obtain rfl:c=24:=by simpa using hk
      rcases hd with rfl|rfl<;>cases h
  rcases hd with rfl|rfl
  · exact rc hC hm hne k3 k4 k6 a b d e
  · exact qJ hC hm hne k3 k4 k6 a b d e
open Go.RowKit
theorem og(hcode:B8 c)(hsl:aR m w (.slice A b.length cp) b)(hb:b.length≤1048576) :
    Calls Tryz.prog 98 #[vI 0,vB c,.slice A b.length cp] w (dL (aG bQ 0 c b) w):=by
 obtain⟨hcode1,hcode2⟩:=hcode
 have hln:(b.length:Int)≤1048576:=by omega
 refine en 40 Tryz.func98 rfl<|sg<|aL mZ fun U V l i n=>al 1<|sq<|ay 6<|c0<|bU<|au 2<|aL mZ fun W X g o y=>aI o (mC c) fun Y z j=>aS 1<|?_
 have h:=ud y j g
 have p:=aH n h
 refine aF<|e3 (dt (aR.old hsl p) (by omega)) fun Z a0 d B a=>Pl 1<|aS 2<|?_
 have C:=aH p a
 refine wo (bQ 0 c ⟨b,false,0⟩) (fun hr=>?_) (fun r hr=>?_)
 refine aF<|m1 (l0 (dir:=0) (c:=c) B (ub a z) (Ne.symm (nb (ai o) j.size d)) (Or.inl rfl) hr) fun a1 D=>al 1<|sq<|ay 2<|c1<|au 1<|?_
 refine aI (ub (aH h (aH a D)) i) mZ fun a2 L M=>al 1<|bJ<|dZ L (vI 4)<|?_
 exact dA (by unfold aG;(try simp only[bt,fO,fQ,fP,fR,fS,reduceIte,hr])<;>rfl) (bV (ud C (uz D M) l))
 have E:=nb (ai o) j.size d
 refine aF<|BV (lD (dir:=0) (c:=c) B (ub a z) (Ne.symm E) (Or.inl rfl) hr) fun N F a3 O q hcall51=>al 1<|sq<|ay 2<|c0<|bU<|sq<|go<|Pl 1<|L0<|fy (f:=N) (args:=F) (hf:=O) #[] F<|m3 (hcall51) fun a4 G P H=>?_
 obtain⟨Q,k,s⟩:=P
 refine aS 1<|aF<|m2 (ee G) fun a5 I t=>nt<|sq<|au 1<|aF<|mq (ci I)<|?_
 have a6:=ag.len I
 refine Pl 1<|dl 2<|?_
 have u:=uz q (u1 H t im)
 have J:=ut C u (ac (ni p.size d) (ac (ni n.size g) aB))
 have hs:aG bQ 0 c b=cC r.2 r.1:=by
   unfold aG
   (try simp only[bt,fO,fQ,fP,fR,fS,reduceIte,hr])
   all_goals rfl
 refine cb ((r.1.endC.e != 0)) (fun v=>?_) (fun v=>?_)
 have x:=aN v
 refine au 2<|?_
 refine aI (ub (ud h (ud a u d) g) i) mZ fun a7 R S=>al 1<|bJ<|dZ R (vI r.1.endC.e)<|?_
 rw[hs]
 exact cQ x (ud J S l)
 have x:=aV v
 refine bU<|sg<|?_
 refine L0<|cH (hz:=(by rw[k.2];exact bo)) (b7 t E k.1)<|?_
 refine aI (hz:=(by rw[k.2];exact bo)) (hv:=s.size) (h1:=s.one) (ub (ud h (ud a u d) g) i) (Q) fun a8 T K=>al 1<|rt<|jq 22 k.2 T (vI 0)<|?_
 rw[hs]
 exact de x (aE.lo (aE.upd s (us t K) (ak (ag.safe G _ (by decide)) (ak (aW (ub (ud h (ud a (uz q H) d) g) i) (by decide)) aK))) (le (le (le (le n.size y.size) j.size) a.size) q.size)) (ud J K l)
theorem oc(hcode:B8 c)(hsl:aR m w (.slice A b.length cp) b)(hb:b.length≤1048576) :
    Calls Tryz.prog 98 #[vI 1,vB c,.slice A b.length cp] w (dL (aG bQ 1 c b) w):=by
 obtain⟨hcode1,hcode2⟩:=hcode
 have hln:(b.length:Int)≤1048576:=by omega
 refine en 40 Tryz.func98 rfl<|sg<|aL mZ fun U V l i n=>al 1<|sq<|ay 6<|c0<|bU<|au 2<|aL mZ fun W X g o y=>aI o (mC c) fun Y z j=>aS 1<|?_
 have h:=ud y j g
 have p:=aH n h
 refine aF<|e3 (dt (aR.old hsl p) (by omega)) fun Z a0 d B a=>Pl 1<|aS 2<|?_
 have C:=aH p a
 refine wo (bQ 1 c ⟨b,false,0⟩) (fun hr=>?_) (fun r hr=>?_)
 refine aF<|m1 (l0 (dir:=1) (c:=c) B (ub a z) (Ne.symm (nb (ai o) j.size d)) (Or.inr rfl) hr) fun a1 D=>al 1<|sq<|ay 2<|c1<|au 1<|?_
 refine aI (ub (aH h (aH a D)) i) mZ fun a2 L M=>al 1<|bJ<|dZ L (vI 4)<|?_
 exact dA (by unfold aG;(try simp only[bt,fO,fQ,fP,fR,fS,reduceIte,hr])<;>rfl) (bV (ud C (uz D M) l))
 have E:=nb (ai o) j.size d
 refine aF<|BV (lD (dir:=1) (c:=c) B (ub a z) (Ne.symm E) (Or.inr rfl) hr) fun N F a3 O q hcall51=>al 1<|sq<|ay 2<|c0<|bU<|sq<|go<|Pl 1<|L0<|fy (f:=N) (args:=F) (hf:=O) #[] F<|m3 (hcall51) fun a4 G P H=>?_
 obtain⟨Q,k,s⟩:=P
 refine aS 1<|aF<|m2 (ee G) fun a5 I t=>nt<|sq<|au 1<|aF<|mq (ci I)<|?_
 have a6:=ag.len I
 refine Pl 1<|dl 2<|?_
 have u:=uz q (u1 H t im)
 have J:=ut C u (ac (ni p.size d) (ac (ni n.size g) aB))
 have hs:aG bQ 1 c b=cC r.2 r.1:=by
   unfold aG
   (try simp only[bt,fO,fQ,fP,fR,fS,reduceIte,hr])
   all_goals rfl
 refine cb ((r.1.endC.e != 0)) (fun v=>?_) (fun v=>?_)
 have x:=aN v
 refine au 2<|?_
 refine aI (ub (ud h (ud a u d) g) i) mZ fun a7 R S=>al 1<|bJ<|dZ R (vI r.1.endC.e)<|?_
 rw[hs]
 exact cQ x (ud J S l)
 have x:=aV v
 refine bU<|sg<|?_
 refine L0<|cH (hz:=(by rw[k.2];exact bo)) (b7 t E k.1)<|?_
 refine aI (hz:=(by rw[k.2];exact bo)) (hv:=s.size) (h1:=s.one) (ub (ud h (ud a u d) g) i) (Q) fun a8 T K=>al 1<|rt<|jq 22 k.2 T (vI 0)<|?_
 rw[hs]
 exact de x (aE.lo (aE.upd s (us t K) (ak (ag.safe G _ (by decide)) (ak (aW (ub (ud h (ud a (uz q H) d) g) i) (by decide)) aK))) (le (le (le (le n.size y.size) j.size) a.size) q.size)) (ud J K l)
theorem nQ(hcode:B8 c)(hsl:aR m w (.slice A b.length cp) b)(hb:b.length≤1048576)(hd:¬ (dir=0∨dir=1)) :
    Calls Tryz.prog 98 #[vI dir,vB c,.slice A b.length cp] w (dL (aG bQ dir c b) w):=by
 obtain⟨hcode1,hcode2⟩:=hcode
 have hln:(b.length:Int)≤1048576:=by omega
 have e0:(dir != 0)=true:=by simp;omega
 have e1:(dir != 1)=true:=by simp;omega
 refine en 40 Tryz.func98 rfl<|sg<|aL mZ fun g h a d e=>al 1<|sq<|au 3<|sy 14 e0<|Pl 3<|nl<|tn<|ct e1<|au 1<|aI d mZ fun i eo f=>al 1<|bJ<|dZ eo (vI 1)<|?_
 exact dA (by unfold aG bQ;(try simp only[e0,e1,bt,fO,fQ,fP,fR,fS,reduceIte,hd])<;>rfl) (bV (ud e f a))
theorem lM(hc:B8 c)(h:aR m w v b)(hb:b.length≤1048576) :
    Calls Tryz.prog 98 #[.int .i64 dir,.int .u8 c,v] w (dL (aG bQ dir c b) w):=by
  obtain⟨A,cp,rfl,_,_⟩:=h.shape
  by_cases h0:dir=0
  · subst h0;exact og hc h hb
  by_cases h1:dir=1
  · subst h1;exact oc hc h hb
  exact nQ hc h hb (by omega)
open Go.RowKit
theorem lg(hcode:B8 c)(hC:ag w g C)(hm:w.heap[gm]? = some (.cells (mC c) 45 (0,0)))(hne:g≠gm) :
    Calls Tryz.prog 193 #[.agg #[vP g 0,vP gm 0],vW most] w (rM g gm (cM C most) (mG c 0 C.wordV (C.wordsC 1).wordV 0 0 0 0 0 0 0 0 nS nS nS nS 0 0 0 0 0 nS) w):=by
 obtain⟨hcode1,hcode2⟩:=hcode
 have hlen:=hC.len
 refine en 51 Tryz.func193 rfl<|sg<|L0<|cU #[vP g 0,vP gm 0] fun f am P a7 a8=>nt<|sq<|Rg 8 (fun w'=>w'.cell? ⟨f,1,none⟩=some (vP gm 0)∧w'.cell? ⟨f,0,none⟩=some (vP g 0)) fun an Q=>?_
 have t:=ub Q a7
 refine b9 ⟨(ae t rfl),(ae t rfl)⟩ fun o=>Rt 0 o<|Rl 1 o (fun _ hs=>hs.1)<|Rt 2 o<|Rl 3 o (fun _ hs=>hs.2)<|?_
 have R:=aH a8 Q
 refine R0 4 rfl<|Oc<|m3 (bC (ag.old hC R)) fun ao a9 S ap=>?_
 have h:=nb (ag.lt hC) lr P
 have u:=b7 S (Ne.symm h) t
 refine b9 ⟨(ae u rfl),(ae u rfl)⟩ fun T=>Rt 5 T<|Rt 6 T<|?_
 have U:=uz R S
 have V:=b7 U (Ne.symm hne) hm
 refine R0 7 rfl<|cv V 2 (mG c 0 C.wordV 0 0 0 0 0 0 0 0 0 nS nS nS nS 0 0 0 0 0 nS) fun aq ab W=>?_
 have X:=nb (ai hm) lr P
 have v:=b7 W (Ne.symm X) u
 refine b9 ⟨(ae v rfl),(ae v rfl)⟩ fun ar=>re<|tn<|sq<|Rg 8 (fun w'=>w'.cell? ⟨f,1,none⟩=some (vP gm 0)∧w'.cell? ⟨f,0,none⟩=some (vP g 0)) fun au x=>?_
 have y:=ub x v
 refine b9 ⟨(ae y rfl),(ae y rfl)⟩ fun p=>Rt 0 p<|Rl 1 p (fun _ hs=>hs.1)<|Rt 2 p<|Rl 3 p (fun _ hs=>hs.2)<|?_
 have Y:=aH W x
 refine R0 4 rfl<|Oc<|m3 (bC (ag.upd a9 Y (aa hne az) (ak (aW V (by decide)) aK))) fun av Z z aw=>?_
 have A:=b7 z (Ne.symm h) y
 refine b9 ⟨(ae A rfl),(ae A rfl)⟩ fun a0=>Rt 5 a0<|Rt 6 a0<|?_
 have B:=b7 (uz x z) (Ne.symm hne) ab
 refine R0 7 rfl<|cv B 3 (mG c 0 C.wordV ((C.wordsC 1).wordV) 0 0 0 0 0 0 0 0 nS nS nS nS 0 0 0 0 0 nS) fun ax ac a1=>?_
 have D:=b7 a1 (Ne.symm X) A
 refine b9 ⟨(ae D rfl),(ae D rfl)⟩ fun ay=>re<|tn<|sq<|Rg 18 (fun w'=>w'.cell? ⟨f,0,none⟩=some (vP g 0)∧w'.cell? ⟨f,1,none⟩=some (vP gm 0)∧w'.cell? ⟨gm,3,none⟩=some (vW ((C.wordsC 1).wordV))) fun aB E=>?_
 have q:=ub E D
 have F:=ub E ac
 refine b9 ⟨(ae q rfl),(ae q rfl),(ae F rfl)⟩ fun b=>Rt 0 b<|Rl 1 b (fun _ hs=>hs.1)<|Rt 2 b<|Rl 3 b (fun _ hs=>hs.2.1)<|Rt 4 b<|Rt 5 b<|Rl 6 b (fun _ hs=>hs.2.2)<|Rt 7 b<|Rt 8 b<|?_
 have G:=aH a1 E
 have a2:=ui U (ui Y (us z G))
 refine y2 26 ((decide (1≤((C.wordsC 1).wordV)))) (fun i=>?_) (fun i=>?_)
 have ad:=of_decide_eq_true i
 refine Rt 9 b<|Rl 10 b (fun _ hs=>hs.2.1)<|Rt 11 b<|Rt 12 b<|Rl 13 b (fun _ hs=>hs.2.2)<|Rt 14 b<|Rt 15 b<|Rt 16 b<|?_
 refine R0 17 rfl<|Oc<|m2 (aU ((decide (((C.wordsC 1).wordV)≤most))) 5 (ag.upd Z G (aa hne az) (ak (aW B (by decide)) aK))) fun aC af H=>?_
 have I:=b7 H (Ne.symm h) q
 have a3:=b7 H (Ne.symm hne) F
 refine b9 ⟨(ae I rfl),(ae I rfl),(ae a3 rfl)⟩ fun aD=>re<|tn<|Rg 15 (fun w'=>w'.cell? ⟨f,0,none⟩=some (vP g 0)∧w'.cell? ⟨f,1,none⟩=some (vP gm 0)∧w'.cell? ⟨gm,2,none⟩=some (vW C.wordV)∧w'.cell? ⟨gm,3,none⟩=some (vW ((C.wordsC 1).wordV))) fun aE r=>?_
 have j:=ub r I
 have k:=ub r a3
 refine b9 ⟨(ae j rfl),(ae j rfl),(ae k rfl),(ae k rfl)⟩ fun d=>Rt 0 d<|Rl 1 d (fun _ hs=>hs.1)<|Rt 2 d<|Rl 3 d (fun _ hs=>hs.2.1)<|Rt 4 d<|Rt 5 d<|Rl 6 d (fun _ hs=>hs.2.2.1)<|Rt 7 d<|Rl 8 d (fun _ hs=>hs.2.1)<|Rt 9 d<|Rt 10 d<|Rl 11 d (fun _ hs=>hs.2.2.2)<|Rr 12 d (vI ((C.wordsC 1).wordV)) (fun _ _=>cE (vI (IntKind.i64.wrap ((C.wordsC 1).wordV))) (by kernel_rfl) (congrArg (Value.int .i64) (i64_in (by omega))))<|R0 13 rfl<|Oc<|mq (iO (a:=C.wordV) (n:=(C.wordsC 1).wordV) (by omega))<|b9 ⟨(ae j rfl),(ae j rfl),(ae k rfl),(ae k rfl)⟩ fun aF=>?_
 refine R0 14 rfl<|Oc<|m2 (aU ((eN C.wordV ((C.wordsC 1).wordV))) 7 (ag.old af r)) fun aG ah J=>?_
 have a4:=b7 J (Ne.symm h) j
 have K:=b7 J (Ne.symm hne) k
 refine b9 ⟨(ae a4 rfl),(ae a4 rfl),(ae K rfl),(ae K rfl)⟩ fun aI=>re<|rm (.tuple #[])<|?_
 have hs:cM C most=((((C.wordsC 1).wordsC 1).need (decide (((C.wordsC 1).wordV)≤most)) 5).need (eN C.wordV ((C.wordsC 1).wordV)) 7):=by
   unfold cM lT
   (try simp only[i,bt,reduceIte])
   all_goals rfl
 rw[hs]
 exact⟨rfl,ah,K,(u1 a2 (u1 H (uz r J) im) im)⟩
 have ad:=of_decide_eq_false i
 refine Ro 9 b<|Ro 10 b<|Ro 11 b<|Ro 12 b<|Ro 13 b<|Ro 14 b<|Ro 15 b<|Rt 16 b<|?_
 refine R0 17 rfl<|Oc<|m2 (aU (false) 5 (ag.upd Z G (aa hne az) (ak (aW B (by decide)) aK))) fun aJ aj L=>?_
 have M:=b7 L (Ne.symm h) q
 have a5:=b7 L (Ne.symm hne) F
 refine b9 ⟨(ae M rfl),(ae M rfl),(ae a5 rfl)⟩ fun aL=>re<|tn<|Rg 15 (fun w'=>w'.cell? ⟨f,0,none⟩=some (vP g 0)∧w'.cell? ⟨f,1,none⟩=some (vP gm 0)∧w'.cell? ⟨gm,2,none⟩=some (vW C.wordV)∧w'.cell? ⟨gm,3,none⟩=some (vW ((C.wordsC 1).wordV))) fun aM s=>?_
 have l:=ub s M
 have m:=ub s a5
 refine b9 ⟨(ae l rfl),(ae l rfl),(ae m rfl),(ae m rfl)⟩ fun e=>Rt 0 e<|Rl 1 e (fun _ hs=>hs.1)<|Rt 2 e<|Rl 3 e (fun _ hs=>hs.2.1)<|Rt 4 e<|Rt 5 e<|Rl 6 e (fun _ hs=>hs.2.2.1)<|Rt 7 e<|Rl 8 e (fun _ hs=>hs.2.1)<|Rt 9 e<|Rt 10 e<|Rl 11 e (fun _ hs=>hs.2.2.2)<|Rr 12 e (vI ((C.wordsC 1).wordV)) (fun _ _=>cE (vI (IntKind.i64.wrap ((C.wordsC 1).wordV))) (by kernel_rfl) (congrArg (Value.int .i64) (i64_in (by omega))))<|R0 13 rfl<|Oc<|mq (iO (a:=C.wordV) (n:=(C.wordsC 1).wordV) (by omega))<|b9 ⟨(ae l rfl),(ae l rfl),(ae m rfl),(ae m rfl)⟩ fun aN=>?_
 refine R0 14 rfl<|Oc<|m2 (aU ((eN C.wordV ((C.wordsC 1).wordV))) 7 (ag.old aj s)) fun aO al N=>?_
 have a6:=b7 N (Ne.symm h) l
 have O:=b7 N (Ne.symm hne) m
 refine b9 ⟨(ae a6 rfl),(ae a6 rfl),(ae O rfl),(ae O rfl)⟩ fun aP=>re<|rm (.tuple #[])<|?_
 have hs:cM C most=((((C.wordsC 1).wordsC 1).need false 5).need (eN C.wordV ((C.wordsC 1).wordV)) 7):=by
   unfold cM lT
   (try simp only[i,bt,reduceIte])
   all_goals rfl
 rw[hs]
 exact⟨rfl,al,O,(u1 a2 (u1 L (uz s N) im) im)⟩
theorem j0(hcode:B8 c)(hC:ag w g C)(hm:w.heap[gm]? = some (.cells (mC c) 45 (0,0)))(hne:g≠gm) :
    Calls Tryz.prog 140 #[.agg #[vP g 0,vP gm 0]] w (bS g gm (fk 2000 c C).1 (fk 2000 c C).2 w):=by
 obtain⟨hcode1,hcode2⟩:=hcode
 have hlen:=hC.len
 refine en 4 Tryz.func140 rfl<|sg<|L0<|cU #[vP g 0,vP gm 0] fun i j k d a=>nt<|go<|L0<|cH d<|?_
 have b:=ag.old hC a
 refine aF<|m3 (lg (most:=2000) ⟨hcode1,hcode2⟩ b (ub a hm) hne) fun l e f h=>?_
 have m:=(b).wordV
 have n:=di (d6 (b).rng 1)
 refine nl<|rm (.tuple #[])<|?_
 exact dA (by unfold fk;(try simp only[bt,reduceIte])<;>rfl) ⟨rfl,e,⟨_,⟨f,rfl⟩,⟨_,_,_,_,_,rfl,aP.nil ..,aP.nil ..,aP.nil ..,aP.nil ..,aP.nil ..,⟨(b8 (x:=c) (by omega)),(b8 (x:=0) (by omega)),(co (x:=C.wordV) (by omega)),(co (x:=(C.wordsC 1).wordV) (by omega)),(co (x:=0) (by omega)),(co (x:=0) (by omega)),(co (x:=0) (by omega)),(co (x:=0) (by omega)),(co (x:=0) (by omega)),(co (x:=0) (by omega)),(co (x:=0) (by omega)),(co (x:=0) (by omega)),(b8 (x:=0) (by omega)),(b8 (x:=0) (by omega)),(b8 (x:=0) (by omega)),(b8 (x:=0) (by omega)),(b8 (x:=0) (by omega))⟩⟩⟩,(uz a h)⟩
theorem nq(hcode:B8 c)(hC:ag w g C)(hm:w.heap[gm]? = some (.cells (mC c) 45 (0,0)))(hne:g≠gm) :
    Calls Tryz.prog 141 #[.agg #[vP g 0,vP gm 0]] w (bS g gm (gO c C).1 (gO c C).2 w):=by
 obtain⟨hcode1,hcode2⟩:=hcode
 have hlen:=hC.len
 refine en 24 Tryz.func141 rfl<|sg<|L0<|cU #[vP g 0,vP gm 0] fun l L m o d=>aS 1<|ax o 0<|?_
 refine aF<|m3 (bD (ag.old hC d)) fun M A e N=>Pl 1<|aS 1<|?_
 have f:=nb (ag.lt hC) lr m
 have p:=b7 e (Ne.symm f) o
 refine ax p 0<|Pl 3<|gy 3 [10] 13 10 (decide (1≤C.byteV)) (decide (C.byteV≤250)) (fun K B D=>?_) ?_
 have O:=of_decide_eq_true D
 exact Pl 3<|ce B _ rfl
 refine aF<|m2 (aU (((decide (1≤C.byteV))&&(decide (C.byteV≤250)))) 5 A) fun P E r=>nt<|Rg 10 (fun w'=>w'.cell? ⟨l,1,none⟩=some (vP gm 0)∧w'.cell? ⟨l,0,none⟩=some (vP g 0)) fun Q h=>?_
 have s:=aH r h
 have i:=b7 s (Ne.symm f) p
 refine b9 ⟨(ae i rfl),(ae i rfl)⟩ fun a=>Rt 0 a<|Rl 1 a (fun _ hs=>hs.1)<|Rt 2 a<|Rl 3 a (fun _ hs=>hs.2)<|Rt 4 a<|Rr 5 a (vI C.byteV) (fun _ _=>cE (vI (IntKind.i64.wrap C.byteV)) (by kernel_rfl) (congrArg (Value.int .i64) (i64_in (by omega))))<|?_
 have t:=ag.old E h
 refine R0 6 rfl<|Oc<|um (bP (n:=C.byteV) t) fun F G R H S T I u=>?_
 have U:=Nat.le_trans (aA.bytesR_le ((C.bytesC 1).need ((decide (1≤C.byteV))&&(decide (C.byteV≤250))) 5) C.byteV) (ag.len t)
 have j:=b7 u (Ne.symm f) i
 refine b9 ⟨(ae j rfl),(ae j rfl)⟩ fun v=>Rt 7 v<|Rt 8 v<|?_
 have y:=uz d (u1 e (u1 s u im) im)
 have k:=b7 y (Ne.symm hne) hm
 refine R0 9 rfl<|cv k 14 (mG c 0 0 0 0 0 0 0 0 0 0 0 nS nS (.slice F ((((C.bytesC 1).need ((decide (1≤C.byteV))&&(decide (C.byteV≤250))) 5).bytesR C.byteV).length) G) nS 0 0 0 0 0 nS) fun V J b=>?_
 have z:=b7 b (Ne.symm (nb (ai hm) lr m)) j
 refine b9 ⟨(ae z rfl),(ae z rfl)⟩ fun W=>re<|rm (.tuple #[])<|?_
 exact dA (by unfold gO hY;(try simp only[bt,reduceIte])<;>rfl) ⟨rfl,(ag.upd I b (aa hne az) (ak (aW k (by decide)) aK)),⟨_,⟨J,rfl⟩,⟨_,_,_,_,_,rfl,aP.nil ..,aP.nil ..,(aP.hi_le (aR.upd' H b (ak (aW k (by decide)) aK)) (le (le (le d.size e.size) r.size) h.size) fun _ _ q=>q),aP.nil ..,aP.nil ..,⟨(b8 (x:=c) (by omega)),(b8 (x:=0) (by omega)),(co (x:=0) (by omega)),(co (x:=0) (by omega)),(co (x:=0) (by omega)),(co (x:=0) (by omega)),(co (x:=0) (by omega)),(co (x:=0) (by omega)),(co (x:=0) (by omega)),(co (x:=0) (by omega)),(co (x:=0) (by omega)),(co (x:=0) (by omega)),(b8 (x:=0) (by omega)),(b8 (x:=0) (by omega)),(b8 (x:=0) (by omega)),(b8 (x:=0) (by omega)),(b8 (x:=0) (by omega))⟩⟩⟩,(us y b)⟩
theorem nk(hcode:B8 c)(hC:ag w g C)(hm:w.heap[gm]? = some (.cells (mC c) 45 (0,0)))(hne:g≠gm) :
    Calls Tryz.prog 142 #[.agg #[vP g 0,vP gm 0]] w (bS g gm (f7 c C).1 (f7 c C).2 w):=by
 obtain⟨hcode1,hcode2⟩:=hcode
 have hlen:=hC.len
 refine en 33 Tryz.func142 rfl<|sg<|L0<|cU #[vP g 0,vP gm 0] fun b a0 z S T=>nt<|sq<|Rg 8 (fun w'=>w'.cell? ⟨b,1,none⟩=some (vP gm 0)∧w'.cell? ⟨b,0,none⟩=some (vP g 0)) fun a1 A=>?_
 have j:=ub A S
 refine b9 ⟨(ae j rfl),(ae j rfl)⟩ fun e=>Rt 0 e<|Rl 1 e (fun _ hs=>hs.1)<|Rt 2 e<|Rl 3 e (fun _ hs=>hs.2)<|?_
 have B:=aH T A
 refine R0 4 rfl<|Oc<|m3 (bC (ag.old hC B)) fun a2 U D a3=>?_
 have f:=nb (ag.lt hC) lr z
 have k:=b7 D (Ne.symm f) j
 refine b9 ⟨(ae k rfl),(ae k rfl)⟩ fun E=>Rt 5 E<|Rt 6 E<|?_
 have F:=uz B D
 have G:=b7 F (Ne.symm hne) hm
 refine R0 7 rfl<|cv G 2 (mG c 0 C.wordV 0 0 0 0 0 0 0 0 0 nS nS nS nS 0 0 0 0 0 nS) fun a4 V H=>?_
 have I:=nb (ai hm) lr z
 have l:=b7 H (Ne.symm I) k
 refine b9 ⟨(ae l rfl),(ae l rfl)⟩ fun a5=>re<|tn<|sq<|Rg 8 (fun w'=>w'.cell? ⟨b,1,none⟩=some (vP gm 0)∧w'.cell? ⟨b,0,none⟩=some (vP g 0)) fun a6 m=>?_
 have n:=ub m l
 refine b9 ⟨(ae n rfl),(ae n rfl)⟩ fun h=>Rt 0 h<|Rl 1 h (fun _ hs=>hs.1)<|Rt 2 h<|Rl 3 h (fun _ hs=>hs.2)<|?_
 have J:=aH H m
 refine R0 4 rfl<|Oc<|m3 (bC (ag.upd U J (aa hne az) (ak (aW G (by decide)) aK))) fun a7 K o a8=>?_
 have p:=b7 o (Ne.symm f) n
 refine b9 ⟨(ae p rfl),(ae p rfl)⟩ fun L=>Rt 5 L<|Rt 6 L<|?_
 have q:=b7 (uz m o) (Ne.symm hne) V
 refine R0 7 rfl<|cv q 4 (mG c 0 C.wordV 0 ((C.wordsC 1).wordV) 0 0 0 0 0 0 0 nS nS nS nS 0 0 0 0 0 nS) fun a9 W M=>?_
 have r:=b7 M (Ne.symm I) p
 refine b9 ⟨(ae r rfl),(ae r rfl)⟩ fun ab=>re<|tn<|Rg 17 (fun w'=>w'.cell? ⟨b,0,none⟩=some (vP g 0)∧w'.cell? ⟨b,1,none⟩=some (vP gm 0)∧w'.cell? ⟨gm,4,none⟩=some (vW ((C.wordsC 1).wordV))) fun ac s=>?_
 have i:=ub s r
 have t:=ub s W
 refine b9 ⟨(ae i rfl),(ae i rfl),(ae t rfl)⟩ fun a=>Rt 0 a<|Rl 1 a (fun _ hs=>hs.1)<|Rt 2 a<|Rl 3 a (fun _ hs=>hs.2.1)<|Rt 4 a<|Rt 5 a<|Rl 6 a (fun _ hs=>hs.2.2)<|Rt 7 a<|Rt 8 a<|?_
 have u:=aH M s
 have N:=ui F (ui J (us o u))
 refine y2 24 ((((C.wordsC 1).wordV)==0)) (fun d=>?_) (fun d=>?_)
 have X:=aC d
 refine Ro 9 a<|Ro 10 a<|Ro 11 a<|Ro 12 a<|Ro 13 a<|Ro 14 a<|Rt 15 a<|?_
 refine R0 16 rfl<|Oc<|m2 (aU (true) 6 (ag.upd K u (aa hne az) (ak (aW q (by decide)) aK))) fun ad Y v=>?_
 have O:=b7 v (Ne.symm f) i
 have P:=b7 v (Ne.symm hne) t
 refine b9 ⟨(ae O rfl),(ae O rfl),(ae P rfl)⟩ fun af=>re<|rm (.tuple #[])<|?_
 have hs:f7 c C=((((C.wordsC 1).wordsC 1).need true 6),(b6.mk c 0 C.wordV 0 ((C.wordsC 1).wordV) 0 0 0 0 0 0 0 [] [] [] [] 0 0 0 0 0 [])):=by
   unfold f7 oH
   (try simp only[d,bt,reduceIte])
   all_goals rfl
 rw[hs]
 exact⟨rfl,Y,⟨_,⟨P,rfl⟩,⟨_,_,_,_,_,rfl,aP.nil ..,aP.nil ..,aP.nil ..,aP.nil ..,aP.nil ..,⟨(b8 (x:=c) (by omega)),(b8 (x:=0) (by omega)),(co (x:=C.wordV) (by omega)),(co (x:=0) (by omega)),(co (x:=(C.wordsC 1).wordV) (by omega)),(co (x:=0) (by omega)),(co (x:=0) (by omega)),(co (x:=0) (by omega)),(co (x:=0) (by omega)),(co (x:=0) (by omega)),(co (x:=0) (by omega)),(co (x:=0) (by omega)),(b8 (x:=0) (by omega)),(b8 (x:=0) (by omega)),(b8 (x:=0) (by omega)),(b8 (x:=0) (by omega)),(b8 (x:=0) (by omega))⟩⟩⟩,(u1 N v im)⟩
 have X:=aO d
 refine Rt 9 a<|Rl 10 a (fun _ hs=>hs.2.1)<|Rt 11 a<|Rt 12 a<|Rl 13 a (fun _ hs=>hs.2.2)<|Rt 14 a<|Rt 15 a<|?_
 refine R0 16 rfl<|Oc<|m2 (aU ((((C.wordsC 1).wordV)==65280)) 6 (ag.upd K u (aa hne az) (ak (aW q (by decide)) aK))) fun ah Z y=>?_
 have Q:=b7 y (Ne.symm f) i
 have R:=b7 y (Ne.symm hne) t
 refine b9 ⟨(ae Q rfl),(ae Q rfl),(ae R rfl)⟩ fun aj=>re<|rm (.tuple #[])<|?_
 have hs:f7 c C=((((C.wordsC 1).wordsC 1).need (((C.wordsC 1).wordV)==65280) 6),(b6.mk c 0 C.wordV 0 ((C.wordsC 1).wordV) 0 0 0 0 0 0 0 [] [] [] [] 0 0 0 0 0 [])):=by
   unfold f7 oH
   (try simp only[d,bt,reduceIte])
   all_goals rfl
 rw[hs]
 exact⟨rfl,Z,⟨_,⟨R,rfl⟩,⟨_,_,_,_,_,rfl,aP.nil ..,aP.nil ..,aP.nil ..,aP.nil ..,aP.nil ..,⟨(b8 (x:=c) (by omega)),(b8 (x:=0) (by omega)),(co (x:=C.wordV) (by omega)),(co (x:=0) (by omega)),(co (x:=(C.wordsC 1).wordV) (by omega)),(co (x:=0) (by omega)),(co (x:=0) (by omega)),(co (x:=0) (by omega)),(co (x:=0) (by omega)),(co (x:=0) (by omega)),(co (x:=0) (by omega)),(co (x:=0) (by omega)),(b8 (x:=0) (by omega)),(b8 (x:=0) (by omega)),(b8 (x:=0) (by omega)),(b8 (x:=0) (by omega)),(b8 (x:=0) (by omega))⟩⟩⟩,(u1 N y im)⟩
theorem xn(hcode:B8 c)(hC:ag w g C)(hm:w.heap[gm]? = some (.cells (mC c) 45 (0,0)))(hne:g≠gm) :
    Calls Tryz.prog 144 #[.agg #[vP g 0,vP gm 0]] w (bS g gm (fk 1968 c C).1 (fk 1968 c C).2 w):=by
 obtain⟨hcode1,hcode2⟩:=hcode
 have hlen:=hC.len
 refine en 4 Tryz.func144 rfl<|sg<|L0<|cU #[vP g 0,vP gm 0] fun i j k d a=>nt<|go<|L0<|cH d<|?_
 have b:=ag.old hC a
 refine aF<|m3 (lg (most:=1968) ⟨hcode1,hcode2⟩ b (ub a hm) hne) fun l e f h=>?_
 have m:=(b).wordV
 have n:=di (d6 (b).rng 1)
 refine nl<|rm (.tuple #[])<|?_
 exact dA (by unfold fk;(try simp only[bt,reduceIte])<;>rfl) ⟨rfl,e,⟨_,⟨f,rfl⟩,⟨_,_,_,_,_,rfl,aP.nil ..,aP.nil ..,aP.nil ..,aP.nil ..,aP.nil ..,⟨(b8 (x:=c) (by omega)),(b8 (x:=0) (by omega)),(co (x:=C.wordV) (by omega)),(co (x:=(C.wordsC 1).wordV) (by omega)),(co (x:=0) (by omega)),(co (x:=0) (by omega)),(co (x:=0) (by omega)),(co (x:=0) (by omega)),(co (x:=0) (by omega)),(co (x:=0) (by omega)),(co (x:=0) (by omega)),(co (x:=0) (by omega)),(b8 (x:=0) (by omega)),(b8 (x:=0) (by omega)),(b8 (x:=0) (by omega)),(b8 (x:=0) (by omega)),(b8 (x:=0) (by omega))⟩⟩⟩,(uz a h)⟩
theorem uu(hcode:B8 c)(hC:ag w g C)(hm:w.heap[gm]? = some (.cells (mC c) 45 (0,0)))(hne:g≠gm) :
    Calls Tryz.prog 144 #[.agg #[vP g 0,vP gm 0]] w (rM g gm (cM C 1968) (mG c 0 C.wordV (C.wordsC 1).wordV 0 0 0 0 0 0 0 0 nS nS nS nS 0 0 0 0 0 nS) w):=by
 obtain⟨hcode1,hcode2⟩:=hcode
 have hlen:=hC.len
 refine en 4 Tryz.func144 rfl<|sg<|L0<|cU #[vP g 0,vP gm 0] fun i j k d a=>nt<|go<|L0<|cH d<|?_
 have b:=ag.old hC a
 refine aF<|m3 (lg (most:=1968) ⟨hcode1,hcode2⟩ b (ub a hm) hne) fun l e f h=>?_
 have m:=(b).wordV
 have n:=di (d6 (b).rng 1)
 refine nl<|rm (.tuple #[])<|?_
 have hs:cM C 1968=(cM C 1968):=by
   unfold cM lT
   (try simp only[bt,reduceIte])
   all_goals rfl
 rw[hs]
 exact⟨rfl,e,f,(uz a h)⟩
theorem zI(hcode:B8 c)(hC:ag w g C)(hm:w.heap[gm]? = some (.cells (mC c) 45 (0,0)))(hne:g≠gm) :
    Calls Tryz.prog 143 #[.agg #[vP g 0,vP gm 0]] w (bS g gm (nN c C).1 (nN c C).2 w):=by
 obtain⟨hcode1,hcode2⟩:=hcode
 have hlen:=hC.len
 refine en 46 Tryz.func143 rfl<|sg<|L0<|cU #[vP g 0,vP gm 0] fun q a3 F G f=>ng<|L0<|cH G<|?_
 have u:=ag.old hC f
 refine aF<|m3 (uu ⟨hcode1,hcode2⟩ u (ub f hm) hne) fun a4 Q R k=>?_
 have a5:=(u).wordV
 have a6:=di (d6 (u).rng 1)
 refine aS 1<|?_
 have l:=nb (ag.lt hC) lr F
 have H:=ap.blk k (aa (Ne.symm l) (aa (Ne.symm (nb (ai hm) lr F)) az)) G
 refine ax H 0<|aF<|m3 (bD Q) fun a7 S r a8=>bA ((cM C 1968).byteV)<|al 1<|sq<|Rg 12 (fun w'=>w'.cell? ⟨q,0,none⟩=some (vP g 0)∧w'.cell? ⟨q,1,none⟩=some (vP gm 0)∧w'.cell? ⟨gm,3,none⟩=some (vW ((C.wordsC 1).wordV))) fun a9 m=>?_
 have v:=aH r m
 have o:=b7 v (Ne.symm l) H
 have y:=b7 v (Ne.symm hne) R
 refine b9 ⟨(ae o rfl),(ae o rfl),(ae y rfl)⟩ fun a=>Rt 0 a<|Rl 1 a (fun _ hs=>hs.1)<|Rt 2 a<|Rt 3 a<|Rl 4 a (fun _ hs=>hs.2.1)<|Rt 5 a<|Rt 6 a<|Rl 7 a (fun _ hs=>hs.2.2)<|Rr 8 a (vI ((C.wordsC 1).wordV)) (fun _ _=>cE (vI (IntKind.i64.wrap ((C.wordsC 1).wordV))) (by kernel_rfl) (congrArg (Value.int .i64) (i64_in (by omega))))<|R0 9 rfl<|Oc<|mq (jl (n:=(C.wordsC 1).wordV) (by omega))<|b9 ⟨(ae o rfl),(ae o rfl),(ae y rfl)⟩ fun T=>Rt 10 T<|?_
 refine R0 11 rfl<|Oc<|m2 (aU ((((cM C 1968).byteV)==(eI ((C.wordsC 1).wordV)))) 5 (ag.old S m)) fun ab U i=>?_
 have z:=b7 i (Ne.symm l) o
 have I:=b7 i (Ne.symm hne) y
 refine b9 ⟨(ae z rfl),(ae z rfl),(ae I rfl)⟩ fun ad=>re<|tn<|sq<|Rg 16 (fun w'=>w'.cell? ⟨q,0,none⟩=some (vP g 0)∧w'.cell? ⟨q,1,none⟩=some (vP gm 0)∧w'.cell? ⟨gm,3,none⟩=some (vW ((C.wordsC 1).wordV))) fun af d=>?_
 have A:=ub d z
 have J:=ub d I
 refine b9 ⟨(ae A rfl),(ae A rfl),(ae J rfl)⟩ fun b=>Rt 0 b<|Rl 1 b (fun _ hs=>hs.1)<|Rt 2 b<|Rt 4 b<|Rl 5 b (fun _ hs=>hs.2.1)<|Rt 6 b<|Rt 7 b<|Rl 8 b (fun _ hs=>hs.2.2)<|Rr 9 b (vI ((C.wordsC 1).wordV)) (fun _ _=>cE (vI (IntKind.i64.wrap ((C.wordsC 1).wordV))) (by kernel_rfl) (congrArg (Value.int .i64) (i64_in (by omega))))<|?_
 have K:=ag.old U d
 refine R0 3 rfl<|Oc<|um (bP (n:=(cM C 1968).byteV) K) fun V W ah X am an Y j=>?_
 have ao:=Nat.le_trans (aA.bytesR_le (((cM C 1968).bytesC 1).need (((cM C 1968).byteV)==(eI ((C.wordsC 1).wordV))) 5) ((cM C 1968).byteV)) (ag.len K)
 have B:=b7 j (Ne.symm l) A
 have L:=b7 j (Ne.symm hne) J
 refine b9 ⟨(ae B rfl),(ae B rfl),(ae L rfl)⟩ fun aq=>R0 10 rfl<|Oc (args:=#[.slice V (((((cM C 1968).bytesC 1).need (((cM C 1968).byteV)==(eI ((C.wordsC 1).wordV))) 5).bytesR ((cM C 1968).byteV)).length) W,vI ((C.wordsC 1).wordV)])<|eU (rF X (by omega) (by omega) (by omega)) fun Z a0 ar D av aw s=>?_
 have t:=ub s B
 have M:=ub s L
 refine b9 ⟨(ae t rfl),(ae t rfl),(ae M rfl)⟩ fun p=>Rt 11 p<|Rt 12 p<|Rt 13 p<|Rt 14 p<|Rt 15 p<|re<|tn<|au 1<|ax t 0<|Pl 1<|?_
 refine aF<|m2 (aU ((dc ((((cM C 1968).bytesC 1).need (((cM C 1968).byteV)==(eI ((C.wordsC 1).wordV))) 5).bytesR ((cM C 1968).byteV)) ((C.wordsC 1).wordV)).isSome) 6 (ag.old Y s)) fun ay a1 E=>nt<|go<|Pl 1<|?_
 refine ax (b7 E (Ne.symm l) t) 1<|Pl 3<|?_
 have N:=b7 E (Ne.symm hne) M
 refine L0<|cv N 13 (mG c 0 C.wordV ((C.wordsC 1).wordV) 0 0 0 0 0 0 0 0 nS (.slice Z (((dc ((((cM C 1968).bytesC 1).need (((cM C 1968).byteV)==(eI ((C.wordsC 1).wordV))) 5).bytesR ((cM C 1968).byteV)) ((C.wordsC 1).wordV)).getD []).length) a0) nS nS 0 0 0 0 0 nS) fun aC a2 O=>nl<|rm (.tuple #[])<|?_
 have P:=us E O
 exact dA (by unfold nN Cm AP pv xZ Co;(try simp only[bt,reduceIte])<;>rfl) ⟨rfl,(ag.upd a1 O (aa hne az) (ak (aW N (by decide)) aK)),⟨_,⟨a2,rfl⟩,⟨_,_,_,_,_,rfl,aP.nil ..,(aJ.hi (aj D P (fun x hx=>(aa (fun e=>(aD (ag.lt hC) (le (le (le (le (le (le f.size k.size) r.size) m.size) i.size) d.size) j.size) D) (e▸hx)) (aa (fun e=>(aD (ai hm) (le (le (le (le (le (le f.size k.size) r.size) m.size) i.size) d.size) j.size) D) (e▸hx)) az))) (fun _ _ h=>h)) (le (le (le (le (le (le f.size k.size) r.size) m.size) i.size) d.size) j.size)),aP.nil ..,aP.nil ..,aP.nil ..,⟨(b8 (x:=c) (by omega)),(b8 (x:=0) (by omega)),(co (x:=C.wordV) (by omega)),(co (x:=(C.wordsC 1).wordV) (by omega)),(co (x:=0) (by omega)),(co (x:=0) (by omega)),(co (x:=0) (by omega)),(co (x:=0) (by omega)),(co (x:=0) (by omega)),(co (x:=0) (by omega)),(co (x:=0) (by omega)),(co (x:=0) (by omega)),(b8 (x:=0) (by omega)),(b8 (x:=0) (by omega)),(b8 (x:=0) (by omega)),(b8 (x:=0) (by omega)),(b8 (x:=0) (by omega))⟩⟩⟩,(uz f (ut k (ui v (ui i (uz d (ui j (uz s P))))) (ac im (ac im aB))))⟩
open Go.RowKit
theorem A9(c:Int) : c=1∨c=2∨c=5∨c=15∨(c≠1∧c≠2∧c≠5∧c≠15):=by omega
theorem mh(hcode:B8 c)(hsl:aR m w (.slice A b.length cp) b)(hb:b.length≤1048576) :
    Calls Tryz.prog 96 #[vI 0,vB c,.slice A b.length cp] w (dL (aG bj 0 c b) w):=by
 obtain⟨hcode1,hcode2⟩:=hcode
 have hln:(b.length:Int)≤1048576:=by omega
 refine en 72 Tryz.func96 rfl<|sg<|aL mZ fun a5 bX P H t=>al 1<|sq<|ay 6<|c0<|bU<|au 2<|aL mZ fun a bY y p z=>aI p (mC c) fun bZ I f=>aS 1<|?_
 have B:=ud z f y
 have Q:=aH t B
 refine aF<|e3 (dt (aR.old hsl Q) (by omega)) fun d c2 r D i=>Pl 1<|aL #[.pointer none,.pointer none] fun a6 c3 E a7 s=>aI a7 #[vP d 0,vP a 0] fun c4 aC j=>ng<|L0<|zq fun c5 c6 J aD k=>?_
 have R:=ub k aC
 refine L0<|cH R<|Pl 1<|L0<|cH R<|Pl 2<|L0<|gM aD 1 fun c7 aJ l=>?_
 have K:=nb (ai a7) j.size J
 have S:=b7 l K R
 refine L0<|cH S<|Pl 1<|L0<|cH S<|Pl 2<|L0<|gM aJ 2 fun c8 aM n=>?_
 have T:=b7 n K S
 refine L0<|cH T<|Pl 1<|L0<|cH T<|Pl 2<|L0<|gM aM 5 fun c9 aO o=>?_
 have U:=b7 o K T
 refine L0<|cH U<|Pl 1<|L0<|cH U<|Pl 2<|L0<|gM aO 15 fun aP F u=>al 2<|Du (fun x=>[(6,vP a5 0),(8,vP a 0),(9,vP a6 0)]) (fun(x:aA × Array Value × b6) w'=>ap [d,a] aP w'∧ag w' d x.1∧w'.heap[a]? = some (.cells x.2.1 45 (0,0))∧aE (.hi w.heap.size) w' x.2.1.toList x.2.2∧(aG bj 0 c b=cC x.2.2 x.1)) ?_ fun L=>?_
 rintro⟨C,cs,M⟩ V ⟨aQ,aT,aU,aX,aY⟩
 refine ip [(6,vP a5 0),(8,vP a 0),(9,vP a6 0)] ?_
 have a8:ag V d C:=aT
 have aZ:V.heap[a]? = some (.cells cs 45 (0,0)):=aU
 have N:aE (.hi w.heap.size) V cs.toList M:=aX
 have W:=aE.size N
 have a9:aG bj 0 c b=cC M C:=aY
 refine au 1<|?_
 have X:=us u aQ
 have ac:=nb (ag.lt D) lr E
 have ad:=ap.blk X (aa K (aa (Ne.symm ac) (aa (Ne.symm (nb (ai p) (le f.size i.size) E)) az))) U
 refine ax ad 0<|aF<|m2 (ee a8) fun ca ae O=>nt<|sq<|au 1<|?_
 refine ax (b7 O (Ne.symm ac) ad) 0<|aF<|mq (ci ae)<|?_
 have cc:=ag.len ae
 refine Pl 1<|dl 2<|?_
 have Y:=ud i (ud s (us j (ud k (ui l (ui n (ui o (u1 X O im)))) J)) E) r
 have af:=ud Q Y (le t.size y)
 refine cb ((C.endC.e != 0)) (fun Z=>?_) (fun Z=>?_)
 have a0:=aN Z
 refine au 2<|?_
 refine aI (ub (ud B Y y) H) mZ fun cd b0 b1=>al 1<|bJ<|dZ b0 (vI C.endC.e)<|?_
 rw[a9]
 exact cQ a0 (ud af b1 P)
 have a0:=aV Z
 refine bU<|sg<|?_
 refine L0<|cH (hz:=(by rw[W];exact bo)) (b7 O (nb (ai p) f.size r) aZ)<|?_
 refine aI (hz:=(by rw[W];exact bo)) (hv:=N.size) (h1:=N.one) (ub (ud B Y y) H) (cs) fun ce b2 ah=>al 1<|rt<|jq 22 W b2 (vI 0)<|?_
 rw[a9]
 exact de a0 (aE.upd N (us O ah) (ak (ag.safe a8 _ (by decide)) (ak (aW (ub (ud B (ud i (ud s (us j (ud k (ui l (ui n (ui o X))) J)) E) r) y) H) (by decide)) aK))) (ud af ah P)
 refine au 2<|?_
 have G:=ud s (aH j (ud k (u1 l (u1 n (u1 o u im) im) im) J)) E
 have v:=aH i G
 rcases A9 c with hk|hk|hk|hk|hk
 have k1:(c==1)=true:=by rw[hk];rfl
 have k2:(c==2)=false:=by rw[hk];rfl
 have k5:(c==5)=false:=by rw[hk];rfl
 have g:(c==15)=false:=by rw[hk];rfl
 refine L0<|o8 (hf:=(by subst hk;kernel_rfl)) F c (.agg #[.nilFunc,.nilFunc]) (some (0,.agg #[.func (.func 140) #[.agg #[vP d 0,vP a 0]] #[],.func (.func 141) #[.agg #[vP d 0,vP a 0]] #[]]))<|Pl 3<|aL #[.nilFunc,.nilFunc] fun cf cg b3 b4 aj=>aI b4 #[.func (.func 140) #[.agg #[vP d 0,vP a 0]] #[],.func (.func 141) #[.agg #[vP d 0,vP a 0]] #[]] fun ch b5 am=>al 1<|sq<|ay 2<|c0<|bU<|au 2<|ax b5 0<|?_
 have a1:=ud aj am b3
 refine L0<|fy #[.agg #[vP d 0,vP a 0]] #[] (args:=#[.agg #[vP d 0,vP a 0]])<|m3 (j0 (c:=c) ⟨hcode1,hcode2⟩ (ag.old D (aH G a1)) (ub (aH v a1) I) (Ne.symm (nb (ai p) f.size r))) fun cj b8 b9 ba=>?_
 obtain⟨ck,bb,bc⟩:=b9
 refine ab b8 fun bd be bf=>?_
 refine nt<|?_
 exact L (bd,_,(fk 2000 c (aA.mk b false 0)).2) ⟨(uz a1 ba),bf,bb.1,(aE.lo bc (le (le (le (le (le (le (le (le (le (le (le (le t.size z.size) f.size) i.size) s.size) j.size) k.size) l.size) n.size) o.size) u.size) aj.size) am.size)),by subst be;unfold aG bj ;(try simp only[bt,fO,fQ,fP,fR,fS,reduceIte,k1,k2,k5,g])<;>rfl⟩
 have k1:(c==1)=false:=by rw[hk];rfl
 have k2:(c==2)=true:=by rw[hk];rfl
 have k5:(c==5)=false:=by rw[hk];rfl
 have g:(c==15)=false:=by rw[hk];rfl
 refine L0<|o8 (hf:=(by subst hk;kernel_rfl)) F c (.agg #[.nilFunc,.nilFunc]) (some (1,.agg #[.func (.func 140) #[.agg #[vP d 0,vP a 0]] #[],.func (.func 141) #[.agg #[vP d 0,vP a 0]] #[]]))<|Pl 3<|aL #[.nilFunc,.nilFunc] fun cl cm bg bh an=>aI bh #[.func (.func 140) #[.agg #[vP d 0,vP a 0]] #[],.func (.func 141) #[.agg #[vP d 0,vP a 0]] #[]] fun cn bi ao=>al 1<|sq<|ay 2<|c0<|bU<|au 2<|ax bi 0<|?_
 have a2:=ud an ao bg
 refine L0<|fy #[.agg #[vP d 0,vP a 0]] #[] (args:=#[.agg #[vP d 0,vP a 0]])<|m3 (j0 (c:=c) ⟨hcode1,hcode2⟩ (ag.old D (aH G a2)) (ub (aH v a2) I) (Ne.symm (nb (ai p) f.size r))) fun co bk bl bm=>?_
 obtain⟨cq,bn,bp⟩:=bl
 refine ab bk fun bq br bs=>?_
 refine nt<|?_
 exact L (bq,_,(fk 2000 c (aA.mk b false 0)).2) ⟨(uz a2 bm),bs,bn.1,(aE.lo bp (le (le (le (le (le (le (le (le (le (le (le (le t.size z.size) f.size) i.size) s.size) j.size) k.size) l.size) n.size) o.size) u.size) an.size) ao.size)),by subst br;unfold aG bj ;(try simp only[bt,fO,fQ,fP,fR,fS,reduceIte,k1,k2,k5,g])<;>rfl⟩
 have k1:(c==1)=false:=by rw[hk];rfl
 have k2:(c==2)=false:=by rw[hk];rfl
 have k5:(c==5)=true:=by rw[hk];rfl
 have g:(c==15)=false:=by rw[hk];rfl
 refine L0<|o8 (hf:=(by subst hk;kernel_rfl)) F c (.agg #[.nilFunc,.nilFunc]) (some (2,.agg #[.func (.func 142) #[.agg #[vP d 0,vP a 0]] #[],.func (.func 142) #[.agg #[vP d 0,vP a 0]] #[]]))<|Pl 3<|aL #[.nilFunc,.nilFunc] fun cr ct bu bv aq=>aI bv #[.func (.func 142) #[.agg #[vP d 0,vP a 0]] #[],.func (.func 142) #[.agg #[vP d 0,vP a 0]] #[]] fun cu bw ar=>al 1<|sq<|ay 2<|c0<|bU<|au 2<|ax bw 0<|?_
 have a3:=ud aq ar bu
 refine L0<|fy #[.agg #[vP d 0,vP a 0]] #[] (args:=#[.agg #[vP d 0,vP a 0]])<|m3 (nk (c:=c) ⟨hcode1,hcode2⟩ (ag.old D (aH G a3)) (ub (aH v a3) I) (Ne.symm (nb (ai p) f.size r))) fun cv bx bz bA=>?_
 obtain⟨cw,bB,bC⟩:=bz
 refine ab bx fun bD bE bF=>?_
 refine nt<|?_
 exact L (bD,_,(f7 c (aA.mk b false 0)).2) ⟨(uz a3 bA),bF,bB.1,(aE.lo bC (le (le (le (le (le (le (le (le (le (le (le (le t.size z.size) f.size) i.size) s.size) j.size) k.size) l.size) n.size) o.size) u.size) aq.size) ar.size)),by subst bE;unfold aG bj ;(try simp only[bt,fO,fQ,fP,fR,fS,reduceIte,k1,k2,k5,g])<;>rfl⟩
 have k1:(c==1)=false:=by rw[hk];rfl
 have k2:(c==2)=false:=by rw[hk];rfl
 have k5:(c==5)=false:=by rw[hk];rfl
 have g:(c==15)=true:=by rw[hk];rfl
 refine L0<|o8 (hf:=(by subst hk;kernel_rfl)) F c (.agg #[.nilFunc,.nilFunc]) (some (3,.agg #[.func (.func 143) #[.agg #[vP d 0,vP a 0]] #[],.func (.func 144) #[.agg #[vP d 0,vP a 0]] #[]]))<|Pl 3<|aL #[.nilFunc,.nilFunc] fun cx cy bG bH av=>aI bH #[.func (.func 143) #[.agg #[vP d 0,vP a 0]] #[],.func (.func 144) #[.agg #[vP d 0,vP a 0]] #[]] fun cz bI aw=>al 1<|sq<|ay 2<|c0<|bU<|au 2<|ax bI 0<|?_
 have a4:=ud av aw bG
 refine L0<|fy #[.agg #[vP d 0,vP a 0]] #[] (args:=#[.agg #[vP d 0,vP a 0]])<|m3 (zI (c:=c) ⟨hcode1,hcode2⟩ (ag.old D (aH G a4)) (ub (aH v a4) I) (Ne.symm (nb (ai p) f.size r))) fun cA bK bL bM=>?_
 obtain⟨cB,bN,bO⟩:=bL
 refine nt<|?_
 exact L ((nN c (aA.mk b false 0)).1,_,(nN c (aA.mk b false 0)).2) ⟨(uz a4 bM),bK,bN.1,(aE.lo bO (le (le (le (le (le (le (le (le (le (le (le (le t.size z.size) f.size) i.size) s.size) j.size) k.size) l.size) n.size) o.size) u.size) av.size) aw.size)),by unfold aG bj ;(try simp only[bt,fO,fQ,fP,fR,fS,reduceIte,k1,k2,k5,g])<;>rfl⟩
 have k1:(c==1)=false:=by simpa using hk.1
 have k2:(c==2)=false:=by simpa using hk.2.1
 have k5:(c==5)=false:=by simpa using hk.2.2.1
 have g:(c==15)=false:=by simpa using hk.2.2.2
 refine L0<|o8 (hf:=(Cs (q:=.u8) (x:=c) #[⟨vB 1,.agg #[.func (.func 140) #[.agg #[vP d 0,vP a 0]] #[],.func (.func 141) #[.agg #[vP d 0,vP a 0]] #[]],0⟩,⟨vB 2,.agg #[.func (.func 140) #[.agg #[vP d 0,vP a 0]] #[],.func (.func 141) #[.agg #[vP d 0,vP a 0]] #[]],1⟩,⟨vB 5,.agg #[.func (.func 142) #[.agg #[vP d 0,vP a 0]] #[],.func (.func 142) #[.agg #[vP d 0,vP a 0]] #[]],2⟩,⟨vB 15,.agg #[.func (.func 143) #[.agg #[vP d 0,vP a 0]] #[],.func (.func 144) #[.agg #[vP d 0,vP a 0]] #[]],3⟩] (f5 _ _ (by intro e he;simp only[List.mem_cons,List.not_mem_nil,or_false] at he;obtain⟨z1,z2,z5,cD⟩:=hk;rcases he with rfl | rfl | rfl | rfl<;>exact⟨_,rfl,fun h=>by simp_all⟩)))) F c (.agg #[.nilFunc,.nilFunc]) none<|Pl 3<|aL #[.nilFunc,.nilFunc] fun cE cF bP bQ bR=>aI bQ #[.nilFunc,.nilFunc] fun cG cI bS=>al 1<|sq<|ay 2<|c1<|au 1<|?_
 have aB:=ud bR bS bP
 refine aI (ub (aH B (aH v aB)) H) mZ fun cJ bT bW=>al 1<|bJ<|dZ bT (vI 4)<|?_
 exact dA (by unfold aG bj;(try simp only[bt,fO,fQ,fP,fR,fS,reduceIte,k1,k2,k5,g])<;>rfl) (bV (ud (aH Q v) (uz aB bW) P))
theorem ml(hcode:B8 c)(hsl:aR m w (.slice A b.length cp) b)(hb:b.length≤1048576) :
    Calls Tryz.prog 96 #[vI 1,vB c,.slice A b.length cp] w (dL (aG bj 1 c b) w):=by
 obtain⟨hcode1,hcode2⟩:=hcode
 have hln:(b.length:Int)≤1048576:=by omega
 refine en 72 Tryz.func96 rfl<|sg<|aL mZ fun a5 c2 P H t=>al 1<|sq<|ay 6<|c0<|bU<|au 2<|aL mZ fun a c3 y p z=>aI p (mC c) fun c4 I f=>aS 1<|?_
 have B:=ud z f y
 have Q:=aH t B
 refine aF<|e3 (dt (aR.old hsl Q) (by omega)) fun d c5 r D i=>Pl 1<|aL #[.pointer none,.pointer none] fun a6 c6 E a7 s=>aI a7 #[vP d 0,vP a 0] fun c7 aC j=>ng<|L0<|zq fun c8 c9 J aD k=>?_
 have R:=ub k aC
 refine L0<|cH R<|Pl 1<|L0<|cH R<|Pl 2<|L0<|gM aD 1 fun ca aJ l=>?_
 have K:=nb (ai a7) j.size J
 have S:=b7 l K R
 refine L0<|cH S<|Pl 1<|L0<|cH S<|Pl 2<|L0<|gM aJ 2 fun cc aM n=>?_
 have T:=b7 n K S
 refine L0<|cH T<|Pl 1<|L0<|cH T<|Pl 2<|L0<|gM aM 5 fun cd aO o=>?_
 have U:=b7 o K T
 refine L0<|cH U<|Pl 1<|L0<|cH U<|Pl 2<|L0<|gM aO 15 fun aP F u=>al 2<|Du (fun x=>[(6,vP a5 0),(8,vP a 0),(9,vP a6 0)]) (fun(x:aA × Array Value × b6) w'=>ap [d,a] aP w'∧ag w' d x.1∧w'.heap[a]? = some (.cells x.2.1 45 (0,0))∧aE (.hi w.heap.size) w' x.2.1.toList x.2.2∧(aG bj 1 c b=cC x.2.2 x.1)) ?_ fun L=>?_
 rintro⟨C,cs,M⟩ V ⟨aQ,aT,aU,aX,aY⟩
 refine ip [(6,vP a5 0),(8,vP a 0),(9,vP a6 0)] ?_
 have a8:ag V d C:=aT
 have aZ:V.heap[a]? = some (.cells cs 45 (0,0)):=aU
 have N:aE (.hi w.heap.size) V cs.toList M:=aX
 have W:=aE.size N
 have a9:aG bj 1 c b=cC M C:=aY
 refine au 1<|?_
 have X:=us u aQ
 have ac:=nb (ag.lt D) lr E
 have ad:=ap.blk X (aa K (aa (Ne.symm ac) (aa (Ne.symm (nb (ai p) (le f.size i.size) E)) az))) U
 refine ax ad 0<|aF<|m2 (ee a8) fun ce ae O=>nt<|sq<|au 1<|?_
 refine ax (b7 O (Ne.symm ac) ad) 0<|aF<|mq (ci ae)<|?_
 have cf:=ag.len ae
 refine Pl 1<|dl 2<|?_
 have Y:=ud i (ud s (us j (ud k (ui l (ui n (ui o (u1 X O im)))) J)) E) r
 have af:=ud Q Y (le t.size y)
 refine cb ((C.endC.e != 0)) (fun Z=>?_) (fun Z=>?_)
 have a0:=aN Z
 refine au 2<|?_
 refine aI (ub (ud B Y y) H) mZ fun cg b0 b1=>al 1<|bJ<|dZ b0 (vI C.endC.e)<|?_
 rw[a9]
 exact cQ a0 (ud af b1 P)
 have a0:=aV Z
 refine bU<|sg<|?_
 refine L0<|cH (hz:=(by rw[W];exact bo)) (b7 O (nb (ai p) f.size r) aZ)<|?_
 refine aI (hz:=(by rw[W];exact bo)) (hv:=N.size) (h1:=N.one) (ub (ud B Y y) H) (cs) fun ch b2 ah=>al 1<|rt<|jq 22 W b2 (vI 0)<|?_
 rw[a9]
 exact de a0 (aE.upd N (us O ah) (ak (ag.safe a8 _ (by decide)) (ak (aW (ub (ud B (ud i (ud s (us j (ud k (ui l (ui n (ui o X))) J)) E) r) y) H) (by decide)) aK))) (ud af ah P)
 refine au 2<|?_
 have G:=ud s (aH j (ud k (u1 l (u1 n (u1 o u im) im) im) J)) E
 have v:=aH i G
 rcases A9 c with hk|hk|hk|hk|hk
 have k1:(c==1)=true:=by rw[hk];rfl
 have k2:(c==2)=false:=by rw[hk];rfl
 have k5:(c==5)=false:=by rw[hk];rfl
 have g:(c==15)=false:=by rw[hk];rfl
 refine L0<|o8 (hf:=(by subst hk;kernel_rfl)) F c (.agg #[.nilFunc,.nilFunc]) (some (0,.agg #[.func (.func 140) #[.agg #[vP d 0,vP a 0]] #[],.func (.func 141) #[.agg #[vP d 0,vP a 0]] #[]]))<|Pl 3<|aL #[.nilFunc,.nilFunc] fun cj ck b3 b4 aj=>aI b4 #[.func (.func 140) #[.agg #[vP d 0,vP a 0]] #[],.func (.func 141) #[.agg #[vP d 0,vP a 0]] #[]] fun cl b5 am=>al 1<|sq<|ay 2<|c0<|bU<|au 2<|ax b5 1<|?_
 have a1:=ud aj am b3
 refine L0<|fy #[.agg #[vP d 0,vP a 0]] #[] (args:=#[.agg #[vP d 0,vP a 0]])<|m3 (nq (c:=c) ⟨hcode1,hcode2⟩ (ag.old D (aH G a1)) (ub (aH v a1) I) (Ne.symm (nb (ai p) f.size r))) fun cm b8 b9 ba=>?_
 obtain⟨cn,bb,bc⟩:=b9
 refine ab b8 fun bd be bf=>?_
 refine nt<|?_
 exact L (bd,_,(gO c (aA.mk b false 0)).2) ⟨(uz a1 ba),bf,bb.1,(aE.lo bc (le (le (le (le (le (le (le (le (le (le (le (le t.size z.size) f.size) i.size) s.size) j.size) k.size) l.size) n.size) o.size) u.size) aj.size) am.size)),by subst be;unfold aG bj ;(try simp only[bt,fO,fQ,fP,fR,fS,reduceIte,k1,k2,k5,g])<;>rfl⟩
 have k1:(c==1)=false:=by rw[hk];rfl
 have k2:(c==2)=true:=by rw[hk];rfl
 have k5:(c==5)=false:=by rw[hk];rfl
 have g:(c==15)=false:=by rw[hk];rfl
 refine L0<|o8 (hf:=(by subst hk;kernel_rfl)) F c (.agg #[.nilFunc,.nilFunc]) (some (1,.agg #[.func (.func 140) #[.agg #[vP d 0,vP a 0]] #[],.func (.func 141) #[.agg #[vP d 0,vP a 0]] #[]]))<|Pl 3<|aL #[.nilFunc,.nilFunc] fun co cq bg bh an=>aI bh #[.func (.func 140) #[.agg #[vP d 0,vP a 0]] #[],.func (.func 141) #[.agg #[vP d 0,vP a 0]] #[]] fun cr bi ao=>al 1<|sq<|ay 2<|c0<|bU<|au 2<|ax bi 1<|?_
 have a2:=ud an ao bg
 refine L0<|fy #[.agg #[vP d 0,vP a 0]] #[] (args:=#[.agg #[vP d 0,vP a 0]])<|m3 (nq (c:=c) ⟨hcode1,hcode2⟩ (ag.old D (aH G a2)) (ub (aH v a2) I) (Ne.symm (nb (ai p) f.size r))) fun ct bk bl bm=>?_
 obtain⟨cu,bn,bp⟩:=bl
 refine ab bk fun bq br bs=>?_
 refine nt<|?_
 exact L (bq,_,(gO c (aA.mk b false 0)).2) ⟨(uz a2 bm),bs,bn.1,(aE.lo bp (le (le (le (le (le (le (le (le (le (le (le (le t.size z.size) f.size) i.size) s.size) j.size) k.size) l.size) n.size) o.size) u.size) an.size) ao.size)),by subst br;unfold aG bj ;(try simp only[bt,fO,fQ,fP,fR,fS,reduceIte,k1,k2,k5,g])<;>rfl⟩
 have k1:(c==1)=false:=by rw[hk];rfl
 have k2:(c==2)=false:=by rw[hk];rfl
 have k5:(c==5)=true:=by rw[hk];rfl
 have g:(c==15)=false:=by rw[hk];rfl
 refine L0<|o8 (hf:=(by subst hk;kernel_rfl)) F c (.agg #[.nilFunc,.nilFunc]) (some (2,.agg #[.func (.func 142) #[.agg #[vP d 0,vP a 0]] #[],.func (.func 142) #[.agg #[vP d 0,vP a 0]] #[]]))<|Pl 3<|aL #[.nilFunc,.nilFunc] fun cv cw bu bv aq=>aI bv #[.func (.func 142) #[.agg #[vP d 0,vP a 0]] #[],.func (.func 142) #[.agg #[vP d 0,vP a 0]] #[]] fun cx bw ar=>al 1<|sq<|ay 2<|c0<|bU<|au 2<|ax bw 1<|?_
 have a3:=ud aq ar bu
 refine L0<|fy #[.agg #[vP d 0,vP a 0]] #[] (args:=#[.agg #[vP d 0,vP a 0]])<|m3 (nk (c:=c) ⟨hcode1,hcode2⟩ (ag.old D (aH G a3)) (ub (aH v a3) I) (Ne.symm (nb (ai p) f.size r))) fun cy bx bz bA=>?_
 obtain⟨cz,bB,bC⟩:=bz
 refine ab bx fun bD bE bF=>?_
 refine nt<|?_
 exact L (bD,_,(f7 c (aA.mk b false 0)).2) ⟨(uz a3 bA),bF,bB.1,(aE.lo bC (le (le (le (le (le (le (le (le (le (le (le (le t.size z.size) f.size) i.size) s.size) j.size) k.size) l.size) n.size) o.size) u.size) aq.size) ar.size)),by subst bE;unfold aG bj ;(try simp only[bt,fO,fQ,fP,fR,fS,reduceIte,k1,k2,k5,g])<;>rfl⟩
 have k1:(c==1)=false:=by rw[hk];rfl
 have k2:(c==2)=false:=by rw[hk];rfl
 have k5:(c==5)=false:=by rw[hk];rfl
 have g:(c==15)=true:=by rw[hk];rfl
 refine L0<|o8 (hf:=(by subst hk;kernel_rfl)) F c (.agg #[.nilFunc,.nilFunc]) (some (3,.agg #[.func (.func 143) #[.agg #[vP d 0,vP a 0]] #[],.func (.func 144) #[.agg #[vP d 0,vP a 0]] #[]]))<|Pl 3<|aL #[.nilFunc,.nilFunc] fun cA cB bG bH av=>aI bH #[.func (.func 143) #[.agg #[vP d 0,vP a 0]] #[],.func (.func 144) #[.agg #[vP d 0,vP a 0]] #[]] fun cD bI aw=>al 1<|sq<|ay 2<|c0<|bU<|au 2<|ax bI 1<|?_
 have a4:=ud av aw bG
 refine L0<|fy #[.agg #[vP d 0,vP a 0]] #[] (args:=#[.agg #[vP d 0,vP a 0]])<|m3 (xn (c:=c) ⟨hcode1,hcode2⟩ (ag.old D (aH G a4)) (ub (aH v a4) I) (Ne.symm (nb (ai p) f.size r))) fun cE bK bL bM=>?_
 obtain⟨cF,bN,bO⟩:=bL
 refine ab bK fun bP bQ bR=>?_
 refine nt<|?_
 exact L (bP,_,(fk 1968 c (aA.mk b false 0)).2) ⟨(uz a4 bM),bR,bN.1,(aE.lo bO (le (le (le (le (le (le (le (le (le (le (le (le t.size z.size) f.size) i.size) s.size) j.size) k.size) l.size) n.size) o.size) u.size) av.size) aw.size)),by subst bQ;unfold aG bj ;(try simp only[bt,fO,fQ,fP,fR,fS,reduceIte,k1,k2,k5,g])<;>rfl⟩
 have k1:(c==1)=false:=by simpa using hk.1
 have k2:(c==2)=false:=by simpa using hk.2.1
 have k5:(c==5)=false:=by simpa using hk.2.2.1
 have g:(c==15)=false:=by simpa using hk.2.2.2
 refine L0<|o8 (hf:=(Cs (q:=.u8) (x:=c) #[⟨vB 1,.agg #[.func (.func 140) #[.agg #[vP d 0,vP a 0]] #[],.func (.func 141) #[.agg #[vP d 0,vP a 0]] #[]],0⟩,⟨vB 2,.agg #[.func (.func 140) #[.agg #[vP d 0,vP a 0]] #[],.func (.func 141) #[.agg #[vP d 0,vP a 0]] #[]],1⟩,⟨vB 5,.agg #[.func (.func 142) #[.agg #[vP d 0,vP a 0]] #[],.func (.func 142) #[.agg #[vP d 0,vP a 0]] #[]],2⟩,⟨vB 15,.agg #[.func (.func 143) #[.agg #[vP d 0,vP a 0]] #[],.func (.func 144) #[.agg #[vP d 0,vP a 0]] #[]],3⟩] (f5 _ _ (by intro e he;simp only[List.mem_cons,List.not_mem_nil,or_false] at he;obtain⟨z1,z2,z5,cG⟩:=hk;rcases he with rfl | rfl | rfl | rfl<;>exact⟨_,rfl,fun h=>by simp_all⟩)))) F c (.agg #[.nilFunc,.nilFunc]) none<|Pl 3<|aL #[.nilFunc,.nilFunc] fun cI cJ bS bT bW=>aI bT #[.nilFunc,.nilFunc] fun cK cL bX=>al 1<|sq<|ay 2<|c1<|au 1<|?_
 have aB:=ud bW bX bS
 refine aI (ub (aH B (aH v aB)) H) mZ fun cM bY bZ=>al 1<|bJ<|dZ bY (vI 4)<|?_
 exact dA (by unfold aG bj;(try simp only[bt,fO,fQ,fP,fR,fS,reduceIte,k1,k2,k5,g])<;>rfl) (bV (ud (aH Q v) (uz aB bZ) P))
theorem md(hcode:B8 c)(hsl:aR m w (.slice A b.length cp) b)(hb:b.length≤1048576)(hd:¬ (dir=0∨dir=1)) :
    Calls Tryz.prog 96 #[vI dir,vB c,.slice A b.length cp] w (dL (aG bj dir c b) w):=by
 obtain⟨hcode1,hcode2⟩:=hcode
 have hln:(b.length:Int)≤1048576:=by omega
 have e0:(dir != 0)=true:=by simp;omega
 have e1:(dir != 1)=true:=by simp;omega
 refine en 72 Tryz.func96 rfl<|sg<|aL mZ fun g h a d e=>al 1<|sq<|au 3<|sy 16 e0<|Pl 3<|nl<|tn<|ct e1<|au 1<|aI d mZ fun i eo f=>al 1<|bJ<|dZ eo (vI 1)<|?_
 exact dA (by unfold aG bj;(try simp only[e0,e1,bt,fO,fQ,fP,fR,fS,reduceIte,hd])<;>rfl) (bV (ud e f a))
theorem ku(hc:B8 c)(h:aR m w v b)(hb:b.length≤1048576) :
    Calls Tryz.prog 96 #[.int .i64 dir,.int .u8 c,v] w (dL (aG bj dir c b) w):=by
  obtain⟨A,cp,rfl,_,_⟩:=h.shape
  by_cases h0:dir=0
  · subst h0;exact mh hc h hb
  by_cases h1:dir=1
  · subst h1;exact ml hc h hb
  exact md hc h hb (by omega)
open Go.RowKit
def dx (c:aA) : aA:=(c.wordsC 1).need (c.wordV==0 || c.wordV==65535) 6
theorem Am{v:Int}(h:0≤v∧v<65536) : bits .and .u16 v 255=v%256:=by
  rw[u16_and v 255 h.1 h.2 (by decide) (by decide)]
  show((v.toNat &&& (2 ^ 8-1) : Nat) : Int)=_
  rw[Nat.and_two_pow_sub_one_eq_mod]
  omega
def ld (dir sub v:Int) : Bool:=if (sub==2 || (decide (11≤sub)&&decide (sub≤18)))&&dir==1 then true else if sub==1 then v==0 || v==65280 else if sub==3 then v%256==0 else v==0
theorem pP{c:aA}  (hc:ag w g c) :
    Calls Tryz.prog 212 #[vP g 0] w (mN g .u16 65536 c.wordV (dx c) w):=by
 have hr:=hc.wordV
 refine en 15 Tryz.func212 rfl<|au 1<|aS 1<|aF<|m3 (bC hc) fun k a b l=>al 1<|sq<|go<|Pl 4<|xG 3 [9] 12 9 (c.wordV==0) (c.wordV==65535) (fun K d e=>?_) ?_
 have m:=aO e
 exact Pl 3<|ce d _ rfl
 refine aF<|m2 (aU (((c.wordV==0)||(c.wordV==65535))) 6 a) fun n f h=>?_
 refine ab f fun x19 i j=>?_
 refine dl 2<|rt<|rr (vW c.wordV)<|?_
 subst i
 exact⟨rfl,j,(u1 b h im),hr⟩
theorem wz{v:Int}  : Calls Tryz.prog 231 #[vW v] w (bH (.bool (v==0 || v==65280)) w):=by
 refine en 9 Tryz.func231 rfl<|au 1<|aS 3<|xG 3 [5] 8 5 (v==0) (v==65280) (fun K a b=>?_) ?_
 have c:=aO b
 exact Pl 3<|ce a _ rfl
 exact al 1<|rt<|rr (.bool ((v==0)||(v==65280)))<|⟨rfl,(ap.refl [] _)⟩
theorem vO{v:Int}  (hv:0≤v∧v<65536) : Calls Tryz.prog 232 #[vW v] w (bH (.bool (v%256==0)) w):=by
 exact en 6 Tryz.func232 rfl<|au 1<|aS 1<|L0<|Oe (vW (bits .and .u16 v 255)) (vW (v%256)) (congrArg (Value.int .u16) (Am (by omega)))<|al 2<|rt<|rr (.bool ((v%256)==0))<|⟨rfl,(ap.refl [] _)⟩
theorem wA{v x:Int}{gb:Nat}  (hB:w.heap[gb]? = some (.cells #[vW v] 37 (0,0))) : Calls Tryz.prog 230 #[vW x,vP gb 0] w (bH (.bool (v==0)) w):=by
 exact en 6 Tryz.func230 rfl<|au 1<|ng<|ax hB 0<|al 2<|rt<|rr (.bool (v==0))<|⟨rfl,(ap.refl [] _)⟩
theorem C8{v:Int}  (hv:0≤v∧v<65536) : Calls Tryz.prog 211 #[vI dir,vW 1,vW v] w (bH (.bool (ld dir 1 v)) w):=by
 refine en 42 Tryz.func211 rfl<|sg<|L0<|cU #[vW v] fun l m n b c=>Pl 1<|aS 2<|ng<|L0<|zq fun o p d e f=>L0<|gM e 1 fun q g h=>L0<|gM g 3 fun r i j=>Pl 2<|dl 11<|sq<|ay 5<|c0<|bU<|au 2<|L0<|o8 i 1 (.nilFunc) (some (0,.func (.func 231) #[] #[]))<|al 5<|sq<|ay 2<|c0<|bU<|au 1<|?_
 have a:=ud f (u1 h j im) d
 refine ax (ub a b) 0<|L0<|fy #[] #[] (args:=#[vW v])<|m1 (wz) fun s k=>al 1<|rt<|rr (.bool (v==0 || v==65280))<|?_
 exact dA (by unfold ld;(try simp only[bt,reduceIte])<;>rfl) ⟨rfl,(aH c (aH a k))⟩
theorem BS{v:Int}  (hv:0≤v∧v<65536) : Calls Tryz.prog 211 #[vI dir,vW 3,vW v] w (bH (.bool (ld dir 3 v)) w):=by
 refine en 42 Tryz.func211 rfl<|sg<|L0<|cU #[vW v] fun l m n b c=>Pl 1<|aS 2<|ng<|L0<|zq fun o p d e f=>L0<|gM e 1 fun q g h=>L0<|gM g 3 fun r i j=>Pl 2<|dl 11<|sq<|ay 5<|c0<|bU<|au 2<|L0<|o8 i 3 (.nilFunc) (some (1,.func (.func 232) #[] #[]))<|al 5<|sq<|ay 2<|c0<|bU<|au 1<|?_
 have a:=ud f (u1 h j im) d
 refine ax (ub a b) 0<|L0<|fy #[] #[] (args:=#[vW v])<|m1 (vO hv) fun s k=>al 1<|rt<|rr (.bool (v%256==0))<|?_
 exact dA (by unfold ld;(try simp only[bt,reduceIte])<;>rfl) ⟨rfl,(aH c (aH a k))⟩
theorem AA{sub v:Int}  (hv:0≤v∧v<65536)(h1:sub≠1)(h3:sub≠3) : Calls Tryz.prog 211 #[vI dir,vW sub,vW v] w (bH (.bool (ld dir sub v)) w):=by
 have n1:(sub==1)=false:=by simpa using h1
 have n3:(sub==3)=false:=by simpa using h3
 refine en 42 Tryz.func211 rfl<|sg<|L0<|cU #[vW v] fun c D E k l=>Pl 1<|aS 2<|ng<|L0<|zq fun F G m n o=>L0<|gM n 1 fun H p r=>L0<|gM p 3 fun I s t=>Pl 2<|aS 3<|cu 7 [17] 24 (((sub==2)||((decide (11≤sub))&&(decide (sub≤18))))) (fun K d=>?_) ?_
 refine bl 17 ((sub==2)) (fun a=>?_) (fun a=>?_)
 have u:=aC a
 exact Pl 7<|ce d true (by rw[a];rfl)
 have u:=aO a
 refine Pl 3<|gy 3 [20] 23 20 (decide (11≤sub)) (decide (sub≤18)) (fun K y z=>?_) ?_
 have J:=of_decide_eq_true z
 exact Pl 3<|ce y _ rfl
 exact Pl 1<|ce d ((decide (11≤sub))&&(decide (sub≤18))) (by rw[a];rfl)
 refine al 1<|sq<|au 2<|gy 3 [26] 29 26 ((sub==2)||((decide (11≤sub))&&(decide (sub≤18)))) (dir==1) (fun K A L=>?_) ?_
 exact Pl 3<|ce A _ rfl
 refine nt<|?_
 have f:=ud o (u1 r t im) m
 have g:=aH l f
 refine cb ((((sub==2)||((decide (11≤sub))&&(decide (sub≤18))))&&(dir==1))) (fun b=>?_) (fun b=>?_)
 have B:=(bK b).1
 have i:=(bK b).2
 have M:=aC i
 exact ay 1<|bJ<|rr (.bool true)<|dA (by unfold ld;(try simp only[b,B,i,bt,n1,n3,reduceIte])<;>rfl) ⟨rfl,g⟩
 refine bU<|au 2<|L0<|o8 (hf:=(Cs (q:=.u16) (x:=sub) #[⟨vW 1,.func (.func 231) #[] #[],0⟩,⟨vW 3,.func (.func 232) #[] #[],1⟩] (f5 _ _ (by intro e he;simp only[List.mem_cons,List.not_mem_nil,or_false] at he;rcases he with rfl | rfl;exact⟨_,rfl,fun h=>h1 h.symm⟩;exact⟨_,rfl,fun h=>h3 h.symm⟩)))) s sub (.nilFunc) none<|al 5<|sq<|au 2<|nl<|tn<|c1<|go<|Pl 2<|aS 1<|?_
 have j:=ub f k
 refine ax j 0<|L0<|fy #[] #[vP c 0] (args:=#[vW v,vP c 0])<|m1 (wA j) fun N C=>al 1<|rt<|rr (.bool (v==0))<|?_
 exact dA (by unfold ld;(try simp only[b,bt,n1,n3,reduceIte])<;>rfl) ⟨rfl,(aH g C)⟩
theorem zg{sub v:Int}  (hv:0≤v∧v<65536) : Calls Tryz.prog 211 #[.int .i64 dir,.int .u16 sub,.int .u16 v] w (bH (.bool (ld dir sub v)) w):=by
  by_cases h1:sub=1
  · subst h1;exact C8 hv
  by_cases h3:sub=3
  · subst h3;exact BS hv
  exact AA hv h1 h3
open Go.RowKit
def gi (dir:Int)(C:aA) : aA:=(C.wordsC 1).need (gk C.wordV&&(dir==0 || C.wordV != 4)) 8
def mO (C:aA) : aA:=C.need (((C.l.length:Int)%2==0&&decide (2≤(C.l.length:Int)))&&decide ((C.l.length:Int)≤250)) 5
def eb (dir c:Int)(C:aA) : aA × b6 :=
  if C.wordV != 0 then (((gi dir C).wordsC 1).need ((((gi dir C).wordsR 1).length:Int)==1&&ld dir C.wordV (((gi dir C).wordsR 1).getD 0 0)) 6,{ b6.zero with code:=c,sub:=C.wordV,words:=(gi dir C).wordsR 1 })
  else ((mO (gi dir C)).wordsC (((gi dir C).l.length:Int)/2),{ b6.zero with code:=c,sub:=C.wordV,words:=(mO (gi dir C)).wordsR (((gi dir C).l.length:Int)/2) })
def fz (C:aA)(lo hi:Int) : aA:=(C.bytesC 1).need (decide (lo≤C.byteV)&&decide (C.byteV≤hi)) 5
def gT (C:aA) : aA:=((dx (fz C 6 70)).wordsC 1).wordsC 1
def cm (c:Int)(C:aA) : aA × b6 :=
  if c==7 then (C.bytesC 1,{ b6.zero with code:=c,value:=C.byteV })
  else if c==11 then ((dx C).wordsC 1,{ b6.zero with code:=c,status:=C.wordV,events:=(dx C).wordV })
  else if c==12 then ((gT C).bytesC (C.byteV-6),{ b6.zero with code:=c,status:=(fz C 6 70).wordV,events:=(dx (fz C 6 70)).wordV,messages:=((dx (fz C 6 70)).wordsC 1).wordV,data:=(gT C).bytesR (C.byteV-6) })
  else if c==17 then ((fz C 1 251).bytesC C.byteV,{ b6.zero with code:=c,data:=(fz C 1 251).bytesR C.byteV })
  else (C,{ b6.zero with code:=c })
theorem pl(hcode:B8 c)(hC:ag w g C)(hm:w.heap[gm]? = some (.cells #[vB c,vB 0,vW 0,vW 0,vW 0,vW 0,vW 0,vW 0,vW 0,vW 0,vW 0,vW 0,nS,nS,nS,nS,vB 0,vB 0,vB 0,vB 0,vB 0,nS] 45 (0,0)))(hne:g≠gm) :
    Calls Tryz.prog 150 #[vI dir,vP g 0,vP gm 0] w (bS g gm (eb dir c C).1 (eb dir c C).2 w):=by
 obtain⟨hcode1,hcode2⟩:=hcode
 have hlen:=hC.len
 refine en 84 Tryz.func150 rfl<|au 2<|aF<|m3 (bC hC) fun b0 Z o b1=>Pl 2<|?_
 have I:=b7 o (Ne.symm hne) hm
 refine L0<|cv I 8 (mG c 0 0 0 0 0 0 0 C.wordV 0 0 0 nS nS nS nS 0 0 0 0 0 nS) fun b2 eo s=>aS 4<|ax eo 8<|aF<|m1 (x5 (x:=C.wordV) (w:=_)) fun b3 j=>Pl 1<|cu 10 [18] 28 (((gk C.wordV)&&((dir==0)||(C.wordV != 4)))) (fun K J=>?_) ?_
 refine bl 18 ((gk C.wordV)) (fun t=>?_) (fun t=>?_)
 refine Pl 3<|xG 6 [21] 27 21 (dir==0) (C.wordV != 4) (fun K a0 a1=>?_) ?_
 have b4:=aO a1
 refine Pl 3<|?_
 exact L1<|ii (ub j eo) 8<|Pl 2<|ce a0 _ rfl
 exact Pl 1<|ce J ((dir==0)||(C.wordV != 4)) (by rw[t];rfl)
 exact Pl 10<|ce J false (by rw[t];rfl)
 have L:=aH s j
 refine aF<|m2 (aU (((gk C.wordV)&&((dir==0)||(C.wordV != 4)))) 8 (ag.upd Z L (aa hne az) (ak (aW I (by decide)) aK))) fun b5 a2 q=>?_
 refine ab a2 fun x30 u r=>?_
 refine nt<|sq<|au 3<|?_
 have y:=b7 (uz j q) (Ne.symm hne) eo
 refine ax y 8<|al 1<|?_
 have b:=ui o (us L q)
 refine cb ((C.wordV != 0)) (fun f=>?_) (fun f=>?_)
 have a3:=aN f
 refine au 2<|aF<|sY (dO (n:=1) r) fun M N b8 i ba bb O P=>Pl 2<|?_
 have z:=b7 P (Ne.symm hne) y
 refine L0<|cv z 12 (mG c 0 0 0 0 0 0 0 C.wordV 0 0 0 (.slice M ((x30.wordsR 1).length) N) nS nS nS 0 0 0 0 0 nS) fun bc a4 a5=>nt<|sq<|Rg 22 (fun w'=>w'.cell? ⟨gm,12,none⟩=some (.slice M ((x30.wordsR 1).length) N)∧w'.cell? ⟨gm,8,none⟩=some (vW C.wordV)) fun bd Q=>?_
 have d:=ub Q a4
 refine b9 ⟨(ae d rfl),(ae d rfl)⟩ fun a=>Rt 0 a<|Rt 1 a<|Rt 2 a<|Rt 3 a<|Rl 4 a (fun _ hs=>hs.1)<|Rt 5 a<|Rt 6 a<|Rt 7 a<|?_
 have k:=aH a5 Q
 have R:=ut b (us P k) (ac im (ac im aB))
 refine y2 47 ((((x30.wordsR 1).length:Int)==1)) (fun m=>?_) (fun m=>?_)
 have a6:=aC m
 refine Rt 8 a<|Rt 9 a<|Rt 10 a<|Rt 11 a<|Rl 12 a (fun _ hs=>hs.2)<|Rt 13 a<|Rt 14 a<|Rt 15 a<|Rl 16 a (fun _ hs=>hs.1)<|?_
 have S:=aj i k (fun x hx=>(aa (fun e=>(aD (ai hm) b.size i) (e▸hx)) az)) (fun _ _ h=>h)
 refine jc (eO.at_ (S).rd 0 (by omega)) fun a7 a8 a9 ad be=>R0 17 rfl<|pf ((x30.wordsR 1).length) 0 a9 (by omega)<|b9 ⟨(ae d rfl),(ae d rfl)⟩ fun bf=>R0 18 rfl<|m8 (p:=⟨a7,a8+0,none⟩) (v:=vW ((x30.wordsR 1).getD 0 0)) ad<|b9 ⟨(ae d rfl),(ae d rfl)⟩ fun bg=>R0 19 rfl<|Oc<|m1 (zg (dir:=dir) (sub:=C.wordV) (v:=((x30.wordsR 1).getD 0 0)) (by omega)) fun bh A=>?_
 have B:=ub A d
 refine b9 ⟨(ae B rfl),(ae B rfl)⟩ fun af=>Rt 20 af<|?_
 refine R0 21 rfl<|Oc<|m2 (aU ((ld dir C.wordV ((x30.wordsR 1).getD 0 0))) 6 (ag.upd O (aH k A) (aa hne az) (ak (aW z (by decide)) aK))) fun bi ah T=>?_
 refine ab ah fun bj am an=>?_
 have D:=b7 T (Ne.symm hne) B
 refine b9 ⟨(ae D rfl),(ae D rfl)⟩ fun bk=>re<|tn<|bJ<|rr (.tuple #[])<|?_
 subst am u
 have U:=uz A T
 have hs:eb dir c C=(((((C.wordsC 1).need ((gk C.wordV)&&((dir==0)||(C.wordV != 4))) 8).wordsC 1).need (ld dir C.wordV ((((C.wordsC 1).need ((gk C.wordV)&&((dir==0)||(C.wordV != 4))) 8).wordsR 1).getD 0 0)) 6),(b6.mk c 0 0 0 0 0 0 0 C.wordV 0 0 0 (((C.wordsC 1).need ((gk C.wordV)&&((dir==0)||(C.wordV != 4))) 8).wordsR 1) [] [] [] 0 0 0 0 0 [])):=by
   unfold eb gi mO
   (try simp only[f,m,bt,reduceIte])
   all_goals rfl
 rw[hs]
 exact⟨rfl,an,⟨_,⟨D,rfl⟩,⟨_,_,_,_,_,rfl,(aJ.hi (aj S U (fun x hx=>(aa (fun e=>(aD (ag.lt hC) b.size i) (e▸hx)) az)) (fun _ _ h=>h)) b.size),aP.nil ..,aP.nil ..,aP.nil ..,aP.nil ..,(ek (by omega))⟩⟩,(ap.mono (S':=[g,gm]) (u1 R U im) (AE (Or.inl (by simp)) (Or.inl (by simp))))⟩
 have a6:=aO m
 refine Ro 8 a<|Ro 9 a<|Ro 10 a<|Ro 11 a<|Ro 12 a<|Ro 13 a<|Ro 14 a<|Ro 15 a<|Ro 16 a<|Ro 17 a<|Ro 18 a<|Ro 19 a<|Rt 20 a<|?_
 refine R0 21 rfl<|Oc<|m2 (aU (false) 6 (ag.upd O k (aa hne az) (ak (aW z (by decide)) aK))) fun bm ao E=>?_
 have F:=b7 E (Ne.symm hne) d
 refine b9 ⟨(ae F rfl),(ae F rfl)⟩ fun bn=>re<|tn<|bJ<|rr (.tuple #[])<|?_
 subst u
 have hs:eb dir c C=(((((C.wordsC 1).need ((gk C.wordV)&&((dir==0)||(C.wordV != 4))) 8).wordsC 1).need false 6),(b6.mk c 0 0 0 0 0 0 0 C.wordV 0 0 0 (((C.wordsC 1).need ((gk C.wordV)&&((dir==0)||(C.wordV != 4))) 8).wordsR 1) [] [] [] 0 0 0 0 0 [])):=by
   unfold eb gi mO
   (try simp only[f,m,bt,reduceIte])
   all_goals rfl
 rw[hs]
 exact⟨rfl,ao,⟨_,⟨F,rfl⟩,⟨_,_,_,_,_,rfl,(aJ.hi (aj i (us k E) (fun x hx=>(aa (fun e=>(aD (ai hm) b.size i) (e▸hx)) (aa (fun e=>(aD (ag.lt hC) b.size i) (e▸hx)) az))) (fun _ _ h=>h)) b.size),aP.nil ..,aP.nil ..,aP.nil ..,aP.nil ..,(ek (by omega))⟩⟩,(ap.mono (S':=[g,gm]) (u1 R E im) (AE (Or.inl (by simp)) (Or.inl (by simp))))⟩
 have a3:=aV f
 refine bU<|au 1<|aF<|mq (dK r)<|?_
 have bo:=ag.len r
 refine Pl 1<|aS 2<|L0<|Oe (vI (Int.tmod (x30.l.length:Int) 2)) (vI ((x30.l.length:Int)%2)) (congrArg (Value.int .i64) (Int.tmod_eq_emod_of_nonneg (by omega)))<|Pl 2<|gy 3 [68] 71 68 (((x30.l.length:Int)%2)==0) (decide (2≤(x30.l.length:Int))) (fun K aq ar=>?_) ?_
 have bp:=aC ar
 exact Pl 3<|ce aq _ rfl
 refine Pl 1<|gy 3 [72] 75 72 ((((x30.l.length:Int)%2)==0)&&(decide (2≤(x30.l.length:Int)))) (decide ((x30.l.length:Int)≤250)) (fun K av V=>?_) ?_
 have aw:=(bK V).1
 have ay:=(bK V).2
 have bq:=aC aw
 have br:=of_decide_eq_true ay
 exact Pl 3<|ce av _ rfl
 refine aF<|m2 (aU ((((((x30.l.length:Int)%2)==0)&&(decide (2≤(x30.l.length:Int))))&&(decide ((x30.l.length:Int)≤250)))) 5 r) fun bs aE G=>?_
 refine ab aE fun aG aI aL=>?_
 refine nt<|go<|Pl 3<|L0<|Oe (vI (IntKind.i64.wrap (Int.tdiv (x30.l.length:Int) 2))) (vI ((x30.l.length:Int)/2)) (congrArg (Value.int .i64) (ta (by omega) (by omega)))<|aF<|sY (dO (n:=((x30.l.length:Int)/2)) aL) fun aM aQ bu W bv bw aR aT=>?_
 refine ab aR fun bx aX aY=>?_
 refine Pl 2<|?_
 have X:=u1 G aT im
 have Y:=b7 X (Ne.symm hne) y
 refine L0<|cv Y 12 (mG c 0 0 0 0 0 0 0 C.wordV 0 0 0 (.slice aM ((aG.wordsR ((x30.l.length:Int)/2)).length) aQ) nS nS nS 0 0 0 0 0 nS) fun bz aZ H=>nl<|rm (.tuple #[])<|?_
 subst aX aI u
 have hs:eb dir c C=(((((C.wordsC 1).need ((gk C.wordV)&&((dir==0)||(C.wordV != 4))) 8).need ((((((((C.wordsC 1).need ((gk C.wordV)&&((dir==0)||(C.wordV != 4))) 8).l.length:Nat) : Int)%2)==0)&&(decide (2≤((((C.wordsC 1).need ((gk C.wordV)&&((dir==0)||(C.wordV != 4))) 8).l.length:Nat) : Int))))&&(decide (((((C.wordsC 1).need ((gk C.wordV)&&((dir==0)||(C.wordV != 4))) 8).l.length:Nat) : Int)≤250))) 5).wordsC (((((C.wordsC 1).need ((gk C.wordV)&&((dir==0)||(C.wordV != 4))) 8).l.length:Nat) : Int)/2)),(b6.mk c 0 0 0 0 0 0 0 C.wordV 0 0 0 ((((C.wordsC 1).need ((gk C.wordV)&&((dir==0)||(C.wordV != 4))) 8).need ((((((((C.wordsC 1).need ((gk C.wordV)&&((dir==0)||(C.wordV != 4))) 8).l.length:Nat) : Int)%2)==0)&&(decide (2≤((((C.wordsC 1).need ((gk C.wordV)&&((dir==0)||(C.wordV != 4))) 8).l.length:Nat) : Int))))&&(decide (((((C.wordsC 1).need ((gk C.wordV)&&((dir==0)||(C.wordV != 4))) 8).l.length:Nat) : Int)≤250))) 5).wordsR (((((C.wordsC 1).need ((gk C.wordV)&&((dir==0)||(C.wordV != 4))) 8).l.length:Nat) : Int)/2)) [] [] [] 0 0 0 0 0 [])):=by
   unfold eb gi mO
   (try simp only[f,bt,reduceIte])
   all_goals rfl
 rw[hs]
 exact⟨rfl,(ag.upd aY H (aa hne az) (ak (aW Y (by decide)) aK)),⟨_,⟨aZ,rfl⟩,⟨_,_,_,_,_,rfl,(aJ.hi (aj W H (fun x hx=>(aa (fun e=>(aD (ai hm) (le (le (le (le o.size s.size) j.size) q.size) G.size) W) (e▸hx)) az)) (fun _ _ h=>h)) (le (le (le (le o.size s.size) j.size) q.size) G.size)),aP.nil ..,aP.nil ..,aP.nil ..,aP.nil ..,(ek (by omega))⟩⟩,(ap.mono (S':=[g,gm]) (ut b (us X H) (ac im (ac im aB))) (AE (Or.inl (by simp)) (Or.inl (by simp))))⟩
theorem gL(hcode:B8 c)(hC:ag w g C)(hm:w.heap[gm]? = some (.cells #[vB c,vB 0,vW 0,vW 0,vW 0,vW 0,vW 0,vW 0,vW 0,vW 0,vW 0,vW 0,nS,nS,nS,nS,vB 0,vB 0,vB 0,vB 0,vB 0,nS] 45 (0,0)))(hne:g≠gm) :
    Calls Tryz.prog 151 #[vP g 0,vP gm 0] w (bS g gm (cm c C).1 (cm c C).2 w):=by
 obtain⟨hcode1,hcode2⟩:=hcode
 have hlen:=hC.len
 refine en 84 Tryz.func151 rfl<|au 3<|ax hm 0<|nt<|bk<|ay 2<|cb ((c==7)) (fun a=>?_) (fun a=>?_)
 have S:=aC a
 refine go<|Pl 2<|aF<|m3 (bD hC) fun aM T l aN=>L0<|DW C.byteV<|Pl 2<|?_
 have m:=b7 l (Ne.symm hne) hm
 refine L0<|cv m 4 (mG c 0 0 0 C.byteV 0 0 0 0 0 0 0 nS nS nS nS 0 0 0 0 0 nS) fun aQ U o=>nl<|bn<|rm (.tuple #[])<|?_
 have hs:cm c C=((C.bytesC 1),(b6.mk c 0 0 0 C.byteV 0 0 0 0 0 0 0 [] [] [] [] 0 0 0 0 0 [])):=by
   unfold cm gT fz
   (try simp only[a,bt,reduceIte])
   all_goals rfl
 rw[hs]
 exact⟨rfl,(ag.upd T o (aa hne az) (ak (aW m (by decide)) aK)),⟨_,⟨U,rfl⟩,⟨_,_,_,_,_,rfl,aP.nil ..,aP.nil ..,aP.nil ..,aP.nil ..,aP.nil ..,(ek (by omega))⟩⟩,(us l o)⟩
 have S:=aO a
 refine ay 2<|cb ((c==11)) (fun b=>?_) (fun b=>?_)
 have V:=aC b
 refine au 2<|aF<|m3 (pP hC) fun aT W p aV=>Pl 2<|?_
 have r:=b7 p (Ne.symm hne) hm
 refine L0<|cv r 9 (mG c 0 0 0 0 0 0 0 0 C.wordV 0 0 nS nS nS nS 0 0 0 0 0 nS) fun aX X s=>nt<|go<|Pl 2<|?_
 refine aF<|m3 (bC (ag.upd W s (aa hne az) (ak (aW r (by decide)) aK))) fun aY Y t aZ=>Pl 2<|?_
 have u:=b7 t (Ne.symm hne) X
 refine L0<|cv u 10 (mG c 0 0 0 0 0 0 0 0 C.wordV ((dx C).wordV) 0 nS nS nS nS 0 0 0 0 0 nS) fun b0 Z v=>nl<|bn<|rm (.tuple #[])<|?_
 have hs:cm c C=(((dx C).wordsC 1),(b6.mk c 0 0 0 0 0 0 0 0 C.wordV ((dx C).wordV) 0 [] [] [] [] 0 0 0 0 0 [])):=by
   unfold cm gT fz
   (try simp only[a,b,bt,reduceIte])
   all_goals rfl
 rw[hs]
 exact⟨rfl,(ag.upd Y v (aa hne az) (ak (aW u (by decide)) aK)),⟨_,⟨Z,rfl⟩,⟨_,_,_,_,_,rfl,aP.nil ..,aP.nil ..,aP.nil ..,aP.nil ..,aP.nil ..,(ek (by omega))⟩⟩,(ui p (ui s (us t v)))⟩
 have V:=aO b
 refine ay 2<|cb ((c==12)) (fun d=>?_) (fun d=>?_)
 have a0:=aC d
 refine au 1<|aF<|m3 (bD hC) fun b1 a1 x b2=>bA C.byteV<|Pl 1<|aS 4<|gy 3 [38] 41 38 (decide (6≤C.byteV)) (decide (C.byteV≤70)) (fun K a2 a3=>?_) ?_
 have b3:=of_decide_eq_true a3
 exact Pl 3<|ce a2 _ rfl
 refine aF<|m2 (aU (((decide (6≤C.byteV))&&(decide (C.byteV≤70)))) 5 a1) fun b4 a4 y=>?_
 refine ab a4 fun x53 a5 a6=>?_
 refine aS 2<|aF<|m3 (pP a6) fun b5 a7 z b8=>Pl 2<|?_
 have A:=u1 x (u1 y z im) im
 have B:=b7 A (Ne.symm hne) hm
 refine L0<|cv B 9 (mG c 0 0 0 0 0 0 0 0 x53.wordV 0 0 nS nS nS nS 0 0 0 0 0 nS) fun b9 a8 f=>aS 3<|?_
 refine aF<|m3 (bC (ag.upd a7 f (aa hne az) (ak (aW B (by decide)) aK))) fun ba a9 D bb=>Pl 1<|aF<|m3 (bC a9) fun bc ac E bd=>?_
 refine ab ac fun y5 ad ae=>?_
 refine Pl 2<|?_
 have F:=u1 D E im
 have G:=b7 F (Ne.symm hne) a8
 refine L0<|cv G 10 (mG c 0 0 0 0 0 0 0 0 x53.wordV ((dx x53).wordV) 0 nS nS nS nS 0 0 0 0 0 nS) fun be af H=>Pl 2<|L0<|cv af 11 (mG c 0 0 0 0 0 0 0 0 x53.wordV ((dx x53).wordV) (((dx x53).wordsC 1).wordV) nS nS nS nS 0 0 0 0 0 nS) fun bf ah I=>nt<|go<|Pl 3<|bA (C.byteV-6)<|?_
 have J:=u1 H I im
 have L:=ag.upd ae J (aa hne az) (ak (aW G (by decide)) aK)
 refine aF<|um (bP (n:=(C.byteV-6)) L) fun ai aj bg al bh bi am M=>?_
 have bj:=Nat.le_trans (aA.bytesR_le y5 (C.byteV-6)) (ag.len L)
 refine Pl 2<|?_
 have h:=b7 M (Ne.symm hne) ah
 refine L0<|cv h 14 (mG c 0 0 0 0 0 0 0 0 x53.wordV ((dx x53).wordV) (((dx x53).wordsC 1).wordV) nS nS (.slice ai ((y5.bytesR (C.byteV-6)).length) aj) nS 0 0 0 0 0 nS) fun bl an i=>nl<|bn<|rm (.tuple #[])<|?_
 subst ad a5
 have hs:cm c C=(((((dx ((C.bytesC 1).need ((decide (6≤C.byteV))&&(decide (C.byteV≤70))) 5)).wordsC 1).wordsC 1).bytesC (C.byteV-6)),(b6.mk c 0 0 0 0 0 0 0 0 (((C.bytesC 1).need ((decide (6≤C.byteV))&&(decide (C.byteV≤70))) 5).wordV) ((dx ((C.bytesC 1).need ((decide (6≤C.byteV))&&(decide (C.byteV≤70))) 5)).wordV) (((dx ((C.bytesC 1).need ((decide (6≤C.byteV))&&(decide (C.byteV≤70))) 5)).wordsC 1).wordV) [] [] ((((dx ((C.bytesC 1).need ((decide (6≤C.byteV))&&(decide (C.byteV≤70))) 5)).wordsC 1).wordsC 1).bytesR (C.byteV-6)) [] 0 0 0 0 0 [])):=by
   unfold cm gT fz
   (try simp only[a,b,d,bt,reduceIte])
   all_goals rfl
 rw[hs]
 exact⟨rfl,(ag.upd am i (aa hne az) (ak (aW h (by decide)) aK)),⟨_,⟨an,rfl⟩,⟨_,_,_,_,_,rfl,aP.nil ..,aP.nil ..,(aP.hi_le (aR.upd' al i (ak (aW h (by decide)) aK)) (le (le (le (le (le (le (le x.size y.size) z.size) f.size) D.size) E.size) H.size) I.size) fun _ _ q=>q),aP.nil ..,aP.nil ..,(ek (by omega))⟩⟩,(ui A (ui f (ui F (ui J (us M i)))))⟩
 have a0:=aO d
 refine ay 2<|cb ((c==17)) (fun e=>?_) (fun e=>?_)
 have ao:=aC e
 refine au 1<|aF<|m3 (bD hC) fun bm aq N bo=>bA C.byteV<|Pl 1<|aS 4<|gy 3 [73] 76 73 (decide (1≤C.byteV)) (decide (C.byteV≤251)) (fun K ar av=>?_) ?_
 have bp:=of_decide_eq_true av
 exact Pl 3<|ce ar _ rfl
 refine aF<|m2 (aU (((decide (1≤C.byteV))&&(decide (C.byteV≤251)))) 5 aq) fun bq aw O=>?_
 refine ab aw fun P aD Q=>?_
 refine nt<|go<|Pl 3<|aF<|um (bP (n:=C.byteV) Q) fun aE aG br aH bs bu aI aJ=>?_
 have bv:=Nat.le_trans (aA.bytesR_le P C.byteV) (ag.len Q)
 refine Pl 2<|?_
 have R:=u1 N (u1 O aJ im) im
 have j:=b7 R (Ne.symm hne) hm
 refine L0<|cv j 14 (mG c 0 0 0 0 0 0 0 0 0 0 0 nS nS (.slice aE ((P.bytesR C.byteV).length) aG) nS 0 0 0 0 0 nS) fun bw aL k=>nl<|bn<|rm (.tuple #[])<|?_
 subst aD
 have hs:cm c C=((((C.bytesC 1).need ((decide (1≤C.byteV))&&(decide (C.byteV≤251))) 5).bytesC C.byteV),(b6.mk c 0 0 0 0 0 0 0 0 0 0 0 [] [] (((C.bytesC 1).need ((decide (1≤C.byteV))&&(decide (C.byteV≤251))) 5).bytesR C.byteV) [] 0 0 0 0 0 [])):=by
   unfold cm gT fz
   (try simp only[a,b,d,e,bt,reduceIte])
   all_goals rfl
 rw[hs]
 exact⟨rfl,(ag.upd aI k (aa hne az) (ak (aW j (by decide)) aK)),⟨_,⟨aL,rfl⟩,⟨_,_,_,_,_,rfl,aP.nil ..,aP.nil ..,(aP.hi_le (aR.upd' aH k (ak (aW j (by decide)) aK)) (le N.size O.size) fun _ _ q=>q),aP.nil ..,aP.nil ..,(ek (by omega))⟩⟩,(us R k)⟩
 have ao:=aO e
 refine sk<|bn<|rm (.tuple #[])<|?_
 have hs:cm c C=(C,(b6.mk c 0 0 0 0 0 0 0 0 0 0 0 [] [] [] [] 0 0 0 0 0 [])):=by
   unfold cm gT fz
   (try simp only[a,b,d,e,bt,reduceIte])
   all_goals rfl
 rw[hs]
 exact⟨rfl,hC,⟨_,⟨hm,rfl⟩,⟨_,_,_,_,_,rfl,aP.nil ..,aP.nil ..,aP.nil ..,aP.nil ..,aP.nil ..,(ek (by omega))⟩⟩,(ap.mono (S':=[g,gm]) (ap.refl [] _) aB)⟩
open Go.RowKit
def bv (dir c:Int)(C:aA) : Option (aA × b6) :=
  if c==8 then some (eb dir c C)
  else if c==7 || c==11 || c==12 || c==17 then (if dir==1 then some (cm c C) else some (C,{ b6.zero with code:=c }))
  else none
theorem nP(hcode:B8 c)(hsl:aR m w (.slice A b.length cp) b)(hb:b.length≤1048576) :
    Calls Tryz.prog 100 #[vI 0,vB c,.slice A b.length cp] w (dL (aG bv 0 c b) w):=by
 obtain⟨hcode1,hcode2⟩:=hcode
 have hln:(b.length:Int)≤1048576:=by omega
 refine en 47 Tryz.func100 rfl<|sg<|aL mZ fun H ah t q I=>al 1<|sq<|ay 6<|c0<|bU<|au 2<|aL mZ fun a aj k u R=>aI u (mC c) fun am l v=>aS 1<|?_
 have n:=ud R v k
 have y:=aH I n
 refine aF<|e3 (dt (aR.old hsl y) (by omega)) fun d S r o f=>al 1<|Cx (fun x=>[(6,vP H 0),(8,vP a 0),(9,vP d 0)]) (fun(x:aA × Array Value × b6) w'=>ap [d,a] S w'∧ag w' d x.1∧w'.heap[a]? = some (.cells x.2.1 45 (0,0))∧aE (.hi w.heap.size) w' x.2.1.toList x.2.2∧(aG bv 0 c b=cC x.2.2 x.1)) ?_ ?_
 rintro⟨C,cs,M⟩ z ⟨J,T,U,V,W⟩
 refine ip [(6,vP H 0),(8,vP a 0),(9,vP d 0)] ?_
 have K:ag z d C:=T
 have X:z.heap[a]? = some (.cells cs 45 (0,0)):=U
 have s:aE (.hi w.heap.size) z cs.toList M:=V
 have B:=aE.size s
 have L:aG bv 0 c b=cC M C:=W
 refine au 1<|aF<|m2 (ee K) fun an N D=>nt<|sq<|au 1<|aF<|mq (ci N)<|?_
 have ao:=ag.len N
 refine Pl 1<|dl 2<|?_
 have E:=ud f (u1 J D im) r
 have O:=ud y E (le I.size k)
 refine cb ((C.endC.e != 0)) (fun F=>?_) (fun F=>?_)
 have G:=aN F
 refine au 2<|?_
 refine aI (ub (ud n E k) q) mZ fun aq Y Z=>al 1<|bJ<|dZ Y (vI C.endC.e)<|?_
 rw[L]
 exact cQ G (ud O Z t)
 have G:=aV F
 refine bU<|sg<|?_
 refine L0<|cH (hz:=(by rw[B];exact bo)) (b7 D (nb (ai u) v.size r) X)<|?_
 refine aI (hz:=(by rw[B];exact bo)) (hv:=s.size) (h1:=s.one) (ub (ud n E k) q) (cs) fun ar a0 P=>al 1<|rt<|jq 22 B a0 (vI 0)<|?_
 rw[L]
 exact de G (aE.upd s (us D P) (ak (ag.safe K _ (by decide)) (ak (aW (ub (ud n (ud f J r) k) q) (by decide)) aK))) (ud O P t)
 refine ay 1<|bk<|ay 2<|?_
 have Q:=aH y f
 refine cb ((c==8)) (fun g=>?_) (fun g=>?_)
 have a1:=aC g
 refine go<|Pl 2<|?_
 refine aF<|m3 (pl (dir:=0) (c:=c) ⟨hcode1,hcode2⟩ o (ub f l) (Ne.symm (nb (ai u) v.size r))) fun av a2 a3 a4=>?_
 obtain⟨aw,a5,a6⟩:=a3
 refine ab a2 fun x80 a7 a8=>?_
 exact nl<|bn<|jn (x80,_,(eb 0 c (aA.mk b false 0)).2) ⟨a4,a8,a5.1,(aE.lo a6 Q.size),by subst a7;unfold aG bv ;(try simp only[g,bt,fO,fQ,fP,fR,fS,reduceIte])<;>rfl⟩
 have a1:=aO g
 refine sq<|ay 2<|cb ((c==7)) (fun h=>?_) (fun h=>?_)
 have a9:=aC h
 refine bU<|ct h<|ay 2<|c0<|sk<|bn<|?_
 exact jn ((aA.mk b false 0),_,(b6.mk c 0 0 0 0 0 0 0 0 0 0 0 [] [] [] [] 0 0 0 0 0 [])) ⟨(ap.mono (S':=[d,a]) (ap.refl [] _) aB),o,(ub f l),⟨_,_,_,_,_,rfl,aP.nil ..,aP.nil ..,aP.nil ..,aP.nil ..,aP.nil ..,(ek (by omega))⟩,by unfold aG bv ;(try simp only[g,h,bt,fO,fQ,fP,fR,fS,reduceIte])<;>rfl⟩
 have a9:=aO h
 refine ay 2<|cb ((c==11)) (fun i=>?_) (fun i=>?_)
 have aa:=aC i
 refine bU<|ct i<|ay 2<|c0<|sk<|bn<|?_
 exact jn ((aA.mk b false 0),_,(b6.mk c 0 0 0 0 0 0 0 0 0 0 0 [] [] [] [] 0 0 0 0 0 [])) ⟨(ap.mono (S':=[d,a]) (ap.refl [] _) aB),o,(ub f l),⟨_,_,_,_,_,rfl,aP.nil ..,aP.nil ..,aP.nil ..,aP.nil ..,aP.nil ..,(ek (by omega))⟩,by unfold aG bv ;(try simp only[g,h,i,bt,fO,fQ,fP,fR,fS,reduceIte])<;>rfl⟩
 have aa:=aO i
 refine ay 2<|cb ((c==12)) (fun j=>?_) (fun j=>?_)
 have ac:=aC j
 refine bU<|ct j<|ay 2<|c0<|sk<|bn<|?_
 exact jn ((aA.mk b false 0),_,(b6.mk c 0 0 0 0 0 0 0 0 0 0 0 [] [] [] [] 0 0 0 0 0 [])) ⟨(ap.mono (S':=[d,a]) (ap.refl [] _) aB),o,(ub f l),⟨_,_,_,_,_,rfl,aP.nil ..,aP.nil ..,aP.nil ..,aP.nil ..,aP.nil ..,(ek (by omega))⟩,by unfold aG bv ;(try simp only[g,h,i,j,bt,fO,fQ,fP,fR,fS,reduceIte])<;>rfl⟩
 have ac:=aO j
 refine go<|al 2<|cb ((c==17)) (fun p=>?_) (fun p=>?_)
 have ad:=aC p
 refine ay 2<|c0<|sk<|bn<|?_
 exact jn ((aA.mk b false 0),_,(b6.mk c 0 0 0 0 0 0 0 0 0 0 0 [] [] [] [] 0 0 0 0 0 [])) ⟨(ap.mono (S':=[d,a]) (ap.refl [] _) aB),o,(ub f l),⟨_,_,_,_,_,rfl,aP.nil ..,aP.nil ..,aP.nil ..,aP.nil ..,aP.nil ..,(ek (by omega))⟩,by unfold aG bv ;(try simp only[g,h,i,j,p,bt,fO,fQ,fP,fR,fS,reduceIte])<;>rfl⟩
 have ad:=aO p
 refine au 1<|?_
 refine aI (ub (aH n f) q) mZ fun ax ae af=>al 1<|rt<|br<|tr<|dZ ae (vI 4)<|?_
 exact dA (by unfold aG bv;(try simp only[g,h,i,j,p,bt,fO,fQ,fP,fR,fS,reduceIte])<;>rfl) (bV (ud Q af t))
theorem nD(hcode:B8 c)(hsl:aR m w (.slice A b.length cp) b)(hb:b.length≤1048576) :
    Calls Tryz.prog 100 #[vI 1,vB c,.slice A b.length cp] w (dL (aG bv 1 c b) w):=by
 obtain⟨hcode1,hcode2⟩:=hcode
 have hln:(b.length:Int)≤1048576:=by omega
 refine en 47 Tryz.func100 rfl<|sg<|aL mZ fun I bb y u J=>al 1<|sq<|ay 6<|c0<|bU<|au 2<|aL mZ fun n bc o i R=>aI i (mC c) fun bd p j=>aS 1<|?_
 have q:=ud R j o
 have z:=aH J q
 refine aF<|e3 (dt (aR.old hsl z) (by omega)) fun r S g s a=>al 1<|Cx (fun x=>[(6,vP I 0),(8,vP n 0),(9,vP r 0)]) (fun(x:aA × Array Value × b6) w'=>ap [r,n] S w'∧ag w' r x.1∧w'.heap[n]? = some (.cells x.2.1 45 (0,0))∧aE (.hi w.heap.size) w' x.2.1.toList x.2.2∧(aG bv 1 c b=cC x.2.2 x.1)) ?_ ?_
 rintro⟨C,cs,M⟩ B ⟨K,T,U,V,W⟩
 refine ip [(6,vP I 0),(8,vP n 0),(9,vP r 0)] ?_
 have L:ag B r C:=T
 have X:B.heap[n]? = some (.cells cs 45 (0,0)):=U
 have v:aE (.hi w.heap.size) B cs.toList M:=V
 have D:=aE.size v
 have N:aG bv 1 c b=cC M C:=W
 refine au 1<|aF<|m2 (ee L) fun be O E=>nt<|sq<|au 1<|aF<|mq (ci O)<|?_
 have bf:=ag.len O
 refine Pl 1<|dl 2<|?_
 have F:=ud a (u1 K E im) g
 have P:=ud z F (le J.size o)
 refine cb ((C.endC.e != 0)) (fun G=>?_) (fun G=>?_)
 have H:=aN G
 refine au 2<|?_
 refine aI (ub (ud q F o) u) mZ fun bg Y Z=>al 1<|bJ<|dZ Y (vI C.endC.e)<|?_
 rw[N]
 exact cQ H (ud P Z y)
 have H:=aV G
 refine bU<|sg<|?_
 refine L0<|cH (hz:=(by rw[D];exact bo)) (b7 E (nb (ai i) j.size g) X)<|?_
 refine aI (hz:=(by rw[D];exact bo)) (hv:=v.size) (h1:=v.one) (ub (ud q F o) u) (cs) fun bh a0 Q=>al 1<|rt<|jq 22 D a0 (vI 0)<|?_
 rw[N]
 exact de H (aE.upd v (us E Q) (ak (ag.safe L _ (by decide)) (ak (aW (ub (ud q (ud a K g) o) u) (by decide)) aK))) (ud P Q y)
 refine ay 1<|bk<|ay 2<|?_
 have l:=aH z a
 refine cb ((c==8)) (fun d=>?_) (fun d=>?_)
 have a1:=aC d
 refine go<|Pl 2<|?_
 refine aF<|m3 (pl (dir:=1) (c:=c) ⟨hcode1,hcode2⟩ s (ub a p) (Ne.symm (nb (ai i) j.size g))) fun bi a2 a3 a4=>?_
 obtain⟨bj,a5,a6⟩:=a3
 refine ab a2 fun x80 a7 a8=>?_
 exact nl<|bn<|jn (x80,_,(eb 1 c (aA.mk b false 0)).2) ⟨a4,a8,a5.1,(aE.lo a6 l.size),by subst a7;unfold aG bv ;(try simp only[d,bt,fO,fQ,fP,fR,fS,reduceIte])<;>rfl⟩
 have a1:=aO d
 refine sq<|ay 2<|cb ((c==7)) (fun f=>?_) (fun f=>?_)
 have a9:=aC f
 refine bU<|ct f<|ay 2<|c1<|go<|Pl 1<|?_
 refine aF<|m3 (gL (c:=c) ⟨hcode1,hcode2⟩ s (ub a p) (Ne.symm (nb (ai i) j.size g))) fun bl aa ac ad=>?_
 obtain⟨bm,ae,af⟩:=ac
 refine ab aa fun x93 ah aj=>?_
 exact nl<|bn<|jn (x93,_,(cm c (aA.mk b false 0)).2) ⟨ad,aj,ae.1,(aE.lo af l.size),by subst ah;unfold aG bv ;(try simp only[d,f,bt,fO,fQ,fP,fR,fS,reduceIte])<;>rfl⟩
 have a9:=aO f
 refine ay 2<|cb ((c==11)) (fun h=>?_) (fun h=>?_)
 have am:=aC h
 refine bU<|ct h<|ay 2<|c1<|go<|Pl 1<|?_
 refine aF<|m3 (gL (c:=c) ⟨hcode1,hcode2⟩ s (ub a p) (Ne.symm (nb (ai i) j.size g))) fun bp an ao aq=>?_
 obtain⟨bq,ar,av⟩:=ao
 refine ab an fun aw ax az=>?_
 exact nl<|bn<|jn (aw,_,(cm c (aA.mk b false 0)).2) ⟨aq,az,ar.1,(aE.lo av l.size),by subst ax;unfold aG bv ;(try simp only[d,f,h,bt,fO,fQ,fP,fR,fS,reduceIte])<;>rfl⟩
 have am:=aO h
 refine ay 2<|cb ((c==12)) (fun k=>?_) (fun k=>?_)
 have aB:=aC k
 refine bU<|ct k<|ay 2<|c1<|go<|Pl 1<|?_
 refine aF<|m3 (gL (c:=c) ⟨hcode1,hcode2⟩ s (ub a p) (Ne.symm (nb (ai i) j.size g))) fun bs aD aJ aM=>?_
 obtain⟨bu,aP,aQ⟩:=aJ
 refine ab aD fun aT aU aX=>?_
 exact nl<|bn<|jn (aT,_,(cm c (aA.mk b false 0)).2) ⟨aM,aX,aP.1,(aE.lo aQ l.size),by subst aU;unfold aG bv ;(try simp only[d,f,h,k,bt,fO,fQ,fP,fR,fS,reduceIte])<;>rfl⟩
 have aB:=aO k
 refine go<|al 2<|cb ((c==17)) (fun t=>?_) (fun t=>?_)
 have aY:=aC t
 refine ay 2<|c1<|go<|Pl 1<|?_
 refine aF<|m3 (gL (c:=c) ⟨hcode1,hcode2⟩ s (ub a p) (Ne.symm (nb (ai i) j.size g))) fun bw aZ b0 b1=>?_
 obtain⟨bx,b2,b3⟩:=b0
 refine ab aZ fun b4 b5 b8=>?_
 exact nl<|bn<|jn (b4,_,(cm c (aA.mk b false 0)).2) ⟨b1,b8,b2.1,(aE.lo b3 l.size),by subst b5;unfold aG bv ;(try simp only[d,f,h,k,t,bt,fO,fQ,fP,fR,fS,reduceIte])<;>rfl⟩
 have aY:=aO t
 refine au 1<|?_
 refine aI (ub (aH q a) u) mZ fun bz b9 ba=>al 1<|rt<|br<|tr<|dZ b9 (vI 4)<|?_
 exact dA (by unfold aG bv;(try simp only[d,f,h,k,t,bt,fO,fQ,fP,fR,fS,reduceIte])<;>rfl) (bV (ud l ba y))
theorem nv(hcode:B8 c)(hsl:aR m w (.slice A b.length cp) b)(hb:b.length≤1048576)(hd:¬ (dir=0∨dir=1)) :
    Calls Tryz.prog 100 #[vI dir,vB c,.slice A b.length cp] w (dL (aG bv dir c b) w):=by
 obtain⟨hcode1,hcode2⟩:=hcode
 have hln:(b.length:Int)≤1048576:=by omega
 have e0:(dir != 0)=true:=by simp;omega
 have e1:(dir != 1)=true:=by simp;omega
 refine en 47 Tryz.func100 rfl<|sg<|aL mZ fun g h a d e=>al 1<|sq<|au 3<|sy 13 e0<|Pl 3<|nl<|tn<|ct e1<|au 1<|aI d mZ fun i eo f=>al 1<|bJ<|dZ eo (vI 1)<|?_
 exact dA (by unfold aG bv;(try simp only[e0,e1,bt,fO,fQ,fP,fR,fS,reduceIte,hd])<;>rfl) (bV (ud e f a))
theorem lx(hc:B8 c)(h:aR m w v b)(hb:b.length≤1048576) :
    Calls Tryz.prog 100 #[.int .i64 dir,.int .u8 c,v] w (dL (aG bv dir c b) w):=by
  obtain⟨A,cp,rfl,_,_⟩:=h.shape
  by_cases h0:dir=0
  · subst h0;exact nP hc h hb
  by_cases h1:dir=1
  · subst h1;exact nD hc h hb
  exact nv hc h hb (by omega)
open Go.RowKit
def fI:Nat→aA→List Obj→aA × List Obj
  | 0,C,L=>(C,L)
  | n+1,C,L=>fI n (((C.bytesC 1).bytesC 1).bytesC (C.bytesC 1).byteV) (L++[⟨C.byteV,((C.bytesC 1).bytesC 1).bytesR (C.bytesC 1).byteV⟩])
def mp (C:aA) : aA:=(C.bytesC 1).need (bI C.byteV) 6
def pU (C:aA) : aA:=((mp C).bytesC 1).need ((mp C).byteV==0 || (mp C).byteV==255) 6
def oR (C:aA) : aA:=((pU C).bytesC 1).need ((mp C).byteV != 0 || (pU C).byteV==0) 6
def yI (kd:Int)(C:aA) : aA:=((oR C).bytesC 1).need (kd != 4 || (oR C).byteV==1) 5
def db (kd:Int)(C:aA) : aA × List Obj:=fI (oR C).byteV.toNat (yI kd C) []
theorem rY{me kd:Int}{C0:aA}  (hcode:B8 c)(hme:B8 me)(hkd:B8 kd)(hC:ag w g C0)(hm:w.heap[gm]? = some (.cells #[vB c,vB 0,vW 0,vW 0,vW 0,vW 0,vW 0,vW 0,vW 0,vW 0,vW 0,vW 0,nS,nS,nS,nS,vB me,vB kd,vB 0,vB 0,vB 0,nS] 45 (0,0)))(hne:g≠gm) :
    Calls Tryz.prog 161 #[vP g 0,vP gm 0] w (bS g gm (db kd C0).1 { b6.zero with code:=c,mei:=me,kind:=kd,level:=C0.byteV,more:=(mp C0).byteV,next:=(pU C0).byteV,objects:=(db kd C0).2 } w):=by
 obtain⟨hcode1,hcode2⟩:=hcode
 obtain⟨hme1,hme2⟩:=hme
 obtain⟨hkd1,hkd2⟩:=hkd
 refine en 92 Tryz.func161 rfl<|au 2<|aF<|m3 (bD hC) fun cT bK b cU=>Pl 2<|?_
 have ae:=b7 b (Ne.symm hne) hm
 refine L0<|cv ae 18 (mG c 0 0 0 0 0 0 0 0 0 0 0 nS nS nS nS me kd C0.byteV 0 0 nS) fun cV eo j=>aS 4<|ax eo 18<|aF<|m1 (tz (x:=C0.byteV) (w:=_)) fun cW d=>?_
 have af:=aH j d
 refine aF<|m2 (aU ((bI C0.byteV)) 6 (ag.upd bK af (aa hne az) (ak (aW ae (by decide)) aK))) fun cX bL l=>?_
 refine ab bL fun x25 bM bN=>?_
 refine aS 2<|aF<|m3 (bD bN) fun cY bO o cZ=>Pl 2<|?_
 have am:=u1 l o im
 have an:=b7 (uz d am) (Ne.symm hne) eo
 refine L0<|cv an 19 (mG c 0 0 0 0 0 0 0 0 0 0 0 nS nS nS nS me kd C0.byteV x25.byteV 0 nS) fun d0 T f=>aS 4<|ax T 19<|Pl 2<|xG 6 [29] 35 29 (x25.byteV==0) (x25.byteV==255) (fun K bQ bR=>?_) ?_
 have d1:=aO bR
 exact Pl 3<|L1<|ii T 19<|Pl 2<|ce bQ _ rfl
 refine aF<|m2 (aU (((x25.byteV==0)||(x25.byteV==255))) 6 (ag.upd bO f (aa hne az) (ak (aW an (by decide)) aK))) fun d2 bT p=>?_
 refine ab bT fun x44 bV bW=>?_
 refine aS 2<|aF<|m3 (bD bW) fun d3 bX r d4=>Pl 2<|?_
 have ao:=u1 p r im
 have ar:=b7 ao (Ne.symm hne) T
 refine L0<|cv ar 20 (mG c 0 0 0 0 0 0 0 0 0 0 0 nS nS nS nS me kd C0.byteV x25.byteV x44.byteV nS) fun d5 U h=>aS 4<|ax U 19<|Pl 2<|xG 6 [48] 54 48 (x25.byteV != 0) (x44.byteV==0) (fun K bY bZ=>?_) ?_
 have d6:=aV bZ
 exact Pl 3<|L1<|ii U 20<|Pl 2<|ce bY _ rfl
 refine aF<|m2 (aU (((x25.byteV != 0)||(x44.byteV==0))) 6 (ag.upd bX h (aa hne az) (ak (aW ar (by decide)) aK))) fun d7 c0 s=>?_
 refine ab c0 fun x62 c1 c2=>?_
 refine aS 1<|aF<|m3 (bD c2) fun d8 c3 t d9=>bA x62.byteV<|Pl 1<|aS 4<|?_
 have av:=u1 s t im
 have aw:=b7 av (Ne.symm hne) U
 refine ax aw 17<|Pl 2<|xG 3 [65] 68 65 (kd != 4) (x62.byteV==1) (fun K c4 c5=>?_) ?_
 have da:=aV c5
 exact Pl 3<|ce c4 _ rfl
 refine aF<|m2 (aU (((kd != 4)||(x62.byteV==1))) 5 c3) fun V c6 i=>?_
 refine ab c6 fun x76 c7 c8=>?_
 refine dl 2<|bk<|?_
 refine js (fun x=>[(0,vP g 0),(1,vP gm 0),(70,vI x62.byteV),(71,vI (x.1:Int))]) (fun(x:Nat × aA × List Obj × Option Addr × Nat) w'=>ap [g,gm] V w'∧ag w' g x.2.1∧w'.heap[gm]? = some (.cells #[vB c,vB 0,vW 0,vW 0,vW 0,vW 0,vW 0,vW 0,vW 0,vW 0,vW 0,vW 0,nS,nS,nS,nS,vB me,vB kd,vB C0.byteV,vB x25.byteV,vB x44.byteV,.slice x.2.2.2.1 x.2.2.1.length x.2.2.2.2] 45 (0,0))∧aJ V.heap.size 100 2 (cz (.hi w.heap.size)) w' (.slice x.2.2.2.1 x.2.2.1.length x.2.2.2.2) x.2.2.1∧(x.1≤x62.byteV.toNat)∧(fI (x62.byteV.toNat-x.1) x.2.1 x.2.2.1=fI x62.byteV.toNat x76 [])∧(x.2.2.1.length≤x.1)) (fun x=>x62.byteV.toNat-x.1) (0,x76,[],none,0) ⟨ap.refl _ _,c8,(b7 i (Ne.symm hne) aw),aJ.nil ..,(by(try dsimp only);omega),(by(try dsimp only);rw[Nat.sub_zero]),(by(try dsimp only);(try simp only[cl]);omega)⟩ ?_
 rintro⟨k,C,L,A,cp⟩ W ⟨v,c9,ca,cc,cd,cf,cg⟩
 refine ip [(0,vP g 0),(1,vP gm 0),(70,vI x62.byteV),(71,vI (k:Int))] ?_
 have z:ag W g C:=c9
 have E:W.heap[gm]? = some (.cells #[vB c,vB 0,vW 0,vW 0,vW 0,vW 0,vW 0,vW 0,vW 0,vW 0,vW 0,vW 0,nS,nS,nS,nS,vB me,vB kd,vB C0.byteV,vB x25.byteV,vB x44.byteV,.slice A L.length cp] 45 (0,0)):=ca
 have a:aJ V.heap.size 100 2 (cz (.hi w.heap.size)) W (.slice A L.length cp) L:=cc
 have dc:k≤x62.byteV.toNat:=cd
 have dd:fI (x62.byteV.toNat-k) C L=fI x62.byteV.toNat x76 []:=cf
 have de:L.length≤k:=cg
 have hobj:fI (x62.byteV.toNat-k) C L=fI x62.byteV.toNat x76 []:=by assumption
 refine ay 1<|sq<|?_
 refine cb ((decide ((k:Int)<x62.byteV))) (fun X=>?_) (fun X=>?_)
 have ch:=of_decide_eq_true X
 refine bU<|sq<|bk<|au 1<|aF<|m3 (bD z) fun df aC y dg=>al 1<|Rg 17 (fun w'=>True) fun dh u=>b9 trivial fun D=>Rt 0 D<|Rt 1 D<|Rt 2 D<|Rt 3 D<|Rt 5 D<|Rt 6 D<|Rt 7 D<|R2 4 8 rfl rfl ?_ ?_
 have Y:=aH y u
 have Z:=b7 Y (Ne.symm hne) E
 refine  ii Z 21<|b9 trivial fun di=>?_
 refine R0 8 rfl<|Oc<|m3 (bD (ag.old aC u)) fun dj aE G dk=>b9 trivial fun ci=>Rr 9 ci (vI ((C.bytesC 1).byteV)) (fun _ _=>cE (vI (IntKind.i64.wrap ((C.bytesC 1).byteV))) (by kernel_rfl) (congrArg (Value.int .i64) (i64_in (by omega))))<|R0 10 rfl<|Oc<|um (bP (n:=(C.bytesC 1).byteV) aE) fun cj ck dm cm dn dp cn a0=>?_
 have dq:=Nat.le_trans (aA.bytesR_le ((C.bytesC 1).bytesC 1) ((C.bytesC 1).byteV)) (ag.len aE)
 refine ab cn fun dr cq cr=>?_
 refine b9 trivial fun cs=>Rt 11 cs<|R0 12 rfl<|dv (m:=1) (e:=100) #[vB C.byteV,.slice cj ((((C.bytesC 1).bytesC 1).bytesR ((C.bytesC 1).byteV)).length) ck] fun ds dt dw ct H=>?_
 have cu:=sw (R:=cz (.hi w.heap.size)) (x:=(Obj.mk C.byteV (((C.bytesC 1).bytesC 1).bytesR ((C.bytesC 1).byteV)))) ct rfl ⟨_,rfl,(aP.hi_le (aR.upd' cm H aK) (le (le (le (le (le (le (le (le (le (le (le (le (le (le (le b.size j.size) d.size) l.size) o.size) f.size) p.size) r.size) h.size) s.size) t.size) i.size) v.size) y.size) u.size) G.size) fun _ _ q=>q),b8 (x:=C.byteV) (by omega)⟩
 refine b9 trivial fun dx=>?_
 have aG:=u1 G (aH a0 H) im
 have a1:=u1 Y aG im
 have aI:=aj a a1 (fun x hx=>(aa (fun e=>(aD (ag.lt hC) (le (le (le (le (le (le (le (le (le (le (le b.size j.size) d.size) l.size) o.size) f.size) p.size) r.size) h.size) s.size) t.size) i.size) a) (e▸hx)) az)) (cz.upd8 a1 (ak (ag.safe z _ (by decide)) aK))
 refine R0 13 rfl<|lI (xs:=L) (ys:=([(Obj.mk C.byteV (((C.bytesC 1).bytesC 1).bytesR ((C.bytesC 1).byteV)))])) (.agg #[vB 0,nS]) 2 32 aI cu (by simp) cz.ones (fun w' hv=>cz.upd8 hv (cR (du _ aI (by decide)) aK)) (by(try simp only[cl,aq]);omega) (le (le (le (le (le v.size y.size) u.size) G.size) a0.size) H.size) fun aL aN dy aQ aX=>b9 trivial fun aY=>Rt 14 aY<|Rt 15 aY<|?_
 have aZ:=ap.blk (ut (ap.mono (S':=(g :: (ob A++[]))) aG (ac im aB)) aX (ah il aB)) (aa (Ne.symm hne) (aM (aD (ai hm) (le (le (le (le (le (le (le (le (le (le (le b.size j.size) d.size) l.size) o.size) f.size) p.size) r.size) h.size) s.size) t.size) i.size) a) az)) Z
 refine R0 16 rfl<|cv aZ 21 (mG c 0 0 0 0 0 0 0 0 0 0 0 nS nS nS nS me kd C0.byteV x25.byteV x44.byteV (.slice aL ((L++[(Obj.mk C.byteV (((C.bytesC 1).bytesC 1).bytesR ((C.bytesC 1).byteV)))]).length) aN)) fun dz cw a2=>b9 trivial fun dA=>re<|bn<|tn<|go<|bA ((k:Int)+1)<|Pl 1<|nl<|?_
 subst cq
 have b0:=u1 (ap.mono (S':=(ob A++(gm :: []))) aX (ah il aB)) a2 im
 have b1:=u1 G a0 im
 have b2:=u1 Y b1 im
 exact fM ((k+1),(((C.bytesC 1).bytesC 1).bytesC ((C.bytesC 1).byteV)),(L++[(Obj.mk C.byteV (((C.bytesC 1).bytesC 1).bytesR ((C.bytesC 1).byteV)))]),aL,aN) ⟨(ut v (ut (ap.mono (S':=(g :: (ob A++(gm :: [])))) a1 (ac im aB)) b0 (ah il (ac im aB))) (ac im (ah (aT a lr) (ac im aB)))),(ag.upd cr (ut (ap.mono (S':=(ob A++(gm :: []))) H aB) b0 (ah il (ac im aB))) (aM (aD (ag.lt hC) (le (le (le (le (le (le (le (le (le (le (le b.size j.size) d.size) l.size) o.size) f.size) p.size) r.size) h.size) s.size) t.size) i.size) a) (aa hne az)) (cR (du _ (aj a b2 (fun x hx=>(aa (fun e=>(aD (ag.lt hC) (le (le (le (le (le (le (le (le (le (le (le b.size j.size) d.size) l.size) o.size) f.size) p.size) r.size) h.size) s.size) t.size) i.size) a) (e▸hx)) az)) (cz.upd8 b2 (ak (ag.safe z _ (by decide)) aK))) (by decide)) (ak (aW (b7 b1 (Ne.symm hne) Z) (by decide)) aK))),cw,(aj aQ a2 (fun x hx=>(aa (fun e=>(aD (ai hm) (le (le (le (le (le (le (le (le (le (le (le b.size j.size) d.size) l.size) o.size) f.size) p.size) r.size) h.size) s.size) t.size) i.size) aQ) (e▸hx)) az)) (cz.upd8 a2 (ak (aW aZ (by decide)) aK))),(by(try dsimp only);omega),(by(try dsimp only);rw[← hobj,show x62.byteV.toNat-k=(x62.byteV.toNat-(k+1))+1 from by omega];rfl),(by(try dsimp only);(try simp only[cl]);omega)⟩ (by omega)
 refine  Oc<|m3 (bD (ag.old aC u)) fun dB I B dC=>b9 trivial fun cx=>Rr 9 cx (vI ((C.bytesC 1).byteV)) (fun _ _=>cE (vI (IntKind.i64.wrap ((C.bytesC 1).byteV))) (by kernel_rfl) (congrArg (Value.int .i64) (i64_in (by omega))))<|R2 4 10 rfl rfl ?_ ?_
 have a3:=u1 y (uz u B) im
 have a4:=b7 a3 (Ne.symm hne) E
 refine  ii a4 21<|b9 trivial fun dD=>R0 10 rfl<|Oc<|um (bP (n:=(C.bytesC 1).byteV) I) fun cy cA dE cB dF dG cC J=>?_
 have dH:=Nat.le_trans (aA.bytesR_le ((C.bytesC 1).bytesC 1) ((C.bytesC 1).byteV)) (ag.len I)
 refine ab cC fun dI cD cF=>?_
 refine b9 trivial fun cG=>Rt 11 cG<|R0 12 rfl<|dv (m:=1) (e:=100) #[vB C.byteV,.slice cy ((((C.bytesC 1).bytesC 1).bytesR ((C.bytesC 1).byteV)).length) cA] fun dJ dK dL cH M=>?_
 have cI:=sw (R:=cz (.hi w.heap.size)) (x:=(Obj.mk C.byteV (((C.bytesC 1).bytesC 1).bytesR ((C.bytesC 1).byteV)))) cH rfl ⟨_,rfl,(aP.hi_le (aR.upd' cB M aK) (le (le (le (le (le (le (le (le (le (le (le (le (le (le (le b.size j.size) d.size) l.size) o.size) f.size) p.size) r.size) h.size) s.size) t.size) i.size) v.size) y.size) u.size) B.size) fun _ _ q=>q),b8 (x:=C.byteV) (by omega)⟩
 refine b9 trivial fun dM=>?_
 have b3:=aH J M
 have a5:=u1 a3 b3 im
 have b4:=aj a a5 (fun x hx=>(aa (fun e=>(aD (ag.lt hC) (le (le (le (le (le (le (le (le (le (le (le b.size j.size) d.size) l.size) o.size) f.size) p.size) r.size) h.size) s.size) t.size) i.size) a) (e▸hx)) az)) (cz.upd8 a5 (ak (ag.safe z _ (by decide)) aK))
 refine R0 13 rfl<|lI (xs:=L) (ys:=([(Obj.mk C.byteV (((C.bytesC 1).bytesC 1).bytesR ((C.bytesC 1).byteV)))])) (.agg #[vB 0,nS]) 2 32 b4 cI (by simp) cz.ones (fun w' hv=>cz.upd8 hv (cR (du _ b4 (by decide)) aK)) (by(try simp only[cl,aq]);omega) (le (le (le (le (le v.size y.size) u.size) B.size) J.size) M.size) fun b5 ba dN bb bc=>b9 trivial fun bd=>Rt 14 bd<|Rt 15 bd<|?_
 have be:=ap.blk (ut (ap.mono (S':=(g :: (ob A++[]))) b3 (ac im aB)) bc (ah il aB)) (aa (Ne.symm hne) (aM (aD (ai hm) (le (le (le (le (le (le (le (le (le (le (le b.size j.size) d.size) l.size) o.size) f.size) p.size) r.size) h.size) s.size) t.size) i.size) a) az)) a4
 refine R0 16 rfl<|cv be 21 (mG c 0 0 0 0 0 0 0 0 0 0 0 nS nS nS nS me kd C0.byteV x25.byteV x44.byteV (.slice b5 ((L++[(Obj.mk C.byteV (((C.bytesC 1).bytesC 1).bytesR ((C.bytesC 1).byteV)))]).length) ba)) fun dO cJ a6=>b9 trivial fun dP=>re<|bn<|tn<|go<|bA ((k:Int)+1)<|Pl 1<|nl<|?_
 subst cD
 have bf:=u1 (ap.mono (S':=(ob A++(gm :: []))) bc (ah il aB)) a6 im
 have bg:=u1 a3 J im
 exact fM ((k+1),(((C.bytesC 1).bytesC 1).bytesC ((C.bytesC 1).byteV)),(L++[(Obj.mk C.byteV (((C.bytesC 1).bytesC 1).bytesR ((C.bytesC 1).byteV)))]),b5,ba) ⟨(ut v (ut (ap.mono (S':=(g :: (ob A++(gm :: [])))) a5 (ac im aB)) bf (ah il (ac im aB))) (ac im (ah (aT a lr) (ac im aB)))),(ag.upd cF (ut (ap.mono (S':=(ob A++(gm :: []))) M aB) bf (ah il (ac im aB))) (aM (aD (ag.lt hC) (le (le (le (le (le (le (le (le (le (le (le b.size j.size) d.size) l.size) o.size) f.size) p.size) r.size) h.size) s.size) t.size) i.size) a) (aa hne az)) (cR (du _ (aj a bg (fun x hx=>(aa (fun e=>(aD (ag.lt hC) (le (le (le (le (le (le (le (le (le (le (le b.size j.size) d.size) l.size) o.size) f.size) p.size) r.size) h.size) s.size) t.size) i.size) a) (e▸hx)) az)) (cz.upd8 bg (ak (ag.safe z _ (by decide)) aK))) (by decide)) (ak (aW (b7 J (Ne.symm hne) a4) (by decide)) aK))),cJ,(aj bb a6 (fun x hx=>(aa (fun e=>(aD (ai hm) (le (le (le (le (le (le (le (le (le (le (le b.size j.size) d.size) l.size) o.size) f.size) p.size) r.size) h.size) s.size) t.size) i.size) bb) (e▸hx)) az)) (cz.upd8 a6 (ak (aW be (by decide)) aK))),(by(try dsimp only);omega),(by(try dsimp only);rw[← hobj,show x62.byteV.toNat-k=(x62.byteV.toNat-(k+1))+1 from by omega];rfl),(by(try dsimp only);(try simp only[cl]);omega)⟩ (by omega)
 refine  Oc<|um (bP (n:=(C.bytesC 1).byteV) I) fun bh bi dQ bj dR dS cK F=>?_
 have dT:=Nat.le_trans (aA.bytesR_le ((C.bytesC 1).bytesC 1) ((C.bytesC 1).byteV)) (ag.len I)
 refine ab cK fun dU bl bm=>?_
 refine b9 trivial fun cL=>Rt 11 cL<|R2 4 12 rfl rfl ?_ ?_
 have N:=u1 y (uz u (u1 B F im)) im
 have a7:=b7 N (Ne.symm hne) E
 refine  ii a7 21<|b9 trivial fun dV=>R0 12 rfl<|dv (m:=1) (e:=100) #[vB C.byteV,.slice bh ((((C.bytesC 1).bytesC 1).bytesR ((C.bytesC 1).byteV)).length) bi] fun dW dX dY cM O=>?_
 have cN:=sw (R:=cz (.hi w.heap.size)) (x:=(Obj.mk C.byteV (((C.bytesC 1).bytesC 1).bytesR ((C.bytesC 1).byteV)))) cM rfl ⟨_,rfl,(aP.hi_le (aR.upd' bj O aK) (le (le (le (le (le (le (le (le (le (le (le (le (le (le (le b.size j.size) d.size) l.size) o.size) f.size) p.size) r.size) h.size) s.size) t.size) i.size) v.size) y.size) u.size) B.size) fun _ _ q=>q),b8 (x:=C.byteV) (by omega)⟩
 refine b9 trivial fun dZ=>?_
 have a8:=aH N O
 have bo:=aj a a8 (fun x hx=>(aa (fun e=>(aD (ag.lt hC) (le (le (le (le (le (le (le (le (le (le (le b.size j.size) d.size) l.size) o.size) f.size) p.size) r.size) h.size) s.size) t.size) i.size) a) (e▸hx)) az)) (cz.upd8 a8 (ak (ag.safe z _ (by decide)) aK))
 refine R0 13 rfl<|lI (xs:=L) (ys:=([(Obj.mk C.byteV (((C.bytesC 1).bytesC 1).bytesR ((C.bytesC 1).byteV)))])) (.agg #[vB 0,nS]) 2 32 bo cN (by simp) cz.ones (fun w' hv=>cz.upd8 hv (cR (du _ bo (by decide)) aK)) (by(try simp only[cl,aq]);omega) (le (le (le (le (le v.size y.size) u.size) B.size) F.size) O.size) fun bp bq e0 br bs=>b9 trivial fun bt=>Rt 14 bt<|Rt 15 bt<|?_
 have bu:=ut (ap.mono (S':=(ob A++[])) O aB) bs (ah il aB)
 have bv:=ap.blk bu (aM (aD (ai hm) (le (le (le (le (le (le (le (le (le (le (le b.size j.size) d.size) l.size) o.size) f.size) p.size) r.size) h.size) s.size) t.size) i.size) a) az) a7
 refine R0 16 rfl<|cv bv 21 (mG c 0 0 0 0 0 0 0 0 0 0 0 nS nS nS nS me kd C0.byteV x25.byteV x44.byteV (.slice bp ((L++[(Obj.mk C.byteV (((C.bytesC 1).bytesC 1).bytesR ((C.bytesC 1).byteV)))]).length) bq)) fun e1 cO P=>b9 trivial fun e2=>re<|bn<|tn<|go<|bA ((k:Int)+1)<|Pl 1<|nl<|?_
 subst bl
 exact fM ((k+1),(((C.bytesC 1).bytesC 1).bytesC ((C.bytesC 1).byteV)),(L++[(Obj.mk C.byteV (((C.bytesC 1).bytesC 1).bytesR ((C.bytesC 1).byteV)))]),bp,bq) ⟨(ut v (ut (ap.mono (S':=(g :: (ob A++(gm :: [])))) a8 (ac im aB)) (u1 (ap.mono (S':=(ob A++(gm :: []))) bs (ah il aB)) P im) (ah il (ac im aB))) (ac im (ah (aT a lr) (ac im aB)))),(ag.upd bm (u1 (ap.mono (S':=(ob A++(gm :: []))) bu (ah il aB)) P im) (aM (aD (ag.lt hC) (le (le (le (le (le (le (le (le (le (le (le b.size j.size) d.size) l.size) o.size) f.size) p.size) r.size) h.size) s.size) t.size) i.size) a) (aa hne az)) (cR (du _ (aj a N (fun x hx=>(aa (fun e=>(aD (ag.lt hC) (le (le (le (le (le (le (le (le (le (le (le b.size j.size) d.size) l.size) o.size) f.size) p.size) r.size) h.size) s.size) t.size) i.size) a) (e▸hx)) az)) (cz.upd8 N (ak (ag.safe z _ (by decide)) aK))) (by decide)) (ak (aW a7 (by decide)) aK))),cO,(aj br P (fun x hx=>(aa (fun e=>(aD (ai hm) (le (le (le (le (le (le (le (le (le (le (le b.size j.size) d.size) l.size) o.size) f.size) p.size) r.size) h.size) s.size) t.size) i.size) br) (e▸hx)) az)) (cz.upd8 P (ak (aW bv (by decide)) aK))),(by(try dsimp only);omega),(by(try dsimp only);rw[← hobj,show x62.byteV.toNat-k=(x62.byteV.toNat-(k+1))+1 from by omega];rfl),(by(try dsimp only);(try simp only[cl]);omega)⟩ (by omega)
 refine  dv (m:=1) (e:=100) #[vB C.byteV,.slice bh ((((C.bytesC 1).bytesC 1).bytesR ((C.bytesC 1).byteV)).length) bi] fun e3 e4 e5 cP Q=>?_
 have cQ:=sw (R:=cz (.hi w.heap.size)) (x:=(Obj.mk C.byteV (((C.bytesC 1).bytesC 1).bytesR ((C.bytesC 1).byteV)))) cP rfl ⟨_,rfl,(aP.hi_le (aR.upd' bj Q aK) (le (le (le (le (le (le (le (le (le (le (le (le (le (le (le b.size j.size) d.size) l.size) o.size) f.size) p.size) r.size) h.size) s.size) t.size) i.size) v.size) y.size) u.size) B.size) fun _ _ q=>q),b8 (x:=C.byteV) (by omega)⟩
 refine b9 trivial fun e6=>?_
 have S:=u1 y (uz u (u1 B (aH F Q) im)) im
 have bw:=b7 S (Ne.symm hne) E
 refine R0 4 rfl<|ii bw 21<|b9 trivial fun e7=>?_
 have bz:=aj a S (fun x hx=>(aa (fun e=>(aD (ag.lt hC) (le (le (le (le (le (le (le (le (le (le (le b.size j.size) d.size) l.size) o.size) f.size) p.size) r.size) h.size) s.size) t.size) i.size) a) (e▸hx)) az)) (cz.upd8 S (ak (ag.safe z _ (by decide)) aK))
 refine R0 13 rfl<|lI (xs:=L) (ys:=([(Obj.mk C.byteV (((C.bytesC 1).bytesC 1).bytesR ((C.bytesC 1).byteV)))])) (.agg #[vB 0,nS]) 2 32 bz cQ (by simp) cz.ones (fun w' hv=>cz.upd8 hv (cR (du _ bz (by decide)) aK)) (by(try simp only[cl,aq]);omega) (le (le (le (le (le v.size y.size) u.size) B.size) F.size) Q.size) fun bB bC e8 bE bF=>b9 trivial fun bG=>Rt 14 bG<|Rt 15 bG<|?_
 have bH:=ap.blk bF (aM (aD (ai hm) (le (le (le (le (le (le (le (le (le (le (le b.size j.size) d.size) l.size) o.size) f.size) p.size) r.size) h.size) s.size) t.size) i.size) a) az) bw
 refine R0 16 rfl<|cv bH 21 (mG c 0 0 0 0 0 0 0 0 0 0 0 nS nS nS nS me kd C0.byteV x25.byteV x44.byteV (.slice bB ((L++[(Obj.mk C.byteV (((C.bytesC 1).bytesC 1).bytesR ((C.bytesC 1).byteV)))]).length) bC)) fun e9 cS a9=>b9 trivial fun ea=>re<|bn<|tn<|go<|bA ((k:Int)+1)<|Pl 1<|nl<|?_
 subst bl
 have bJ:=u1 (ap.mono (S':=(ob A++(gm :: []))) bF (ah il aB)) a9 im
 have ad:=u1 y (uz u (u1 B F im)) im
 exact fM ((k+1),(((C.bytesC 1).bytesC 1).bytesC ((C.bytesC 1).byteV)),(L++[(Obj.mk C.byteV (((C.bytesC 1).bytesC 1).bytesR ((C.bytesC 1).byteV)))]),bB,bC) ⟨(ut v (ut (ap.mono (S':=(g :: (ob A++(gm :: [])))) S (ac im aB)) bJ (ah il (ac im aB))) (ac im (ah (aT a lr) (ac im aB)))),(ag.upd bm (ut (ap.mono (S':=(ob A++(gm :: []))) Q aB) bJ (ah il (ac im aB))) (aM (aD (ag.lt hC) (le (le (le (le (le (le (le (le (le (le (le b.size j.size) d.size) l.size) o.size) f.size) p.size) r.size) h.size) s.size) t.size) i.size) a) (aa hne az)) (cR (du _ (aj a ad (fun x hx=>(aa (fun e=>(aD (ag.lt hC) (le (le (le (le (le (le (le (le (le (le (le b.size j.size) d.size) l.size) o.size) f.size) p.size) r.size) h.size) s.size) t.size) i.size) a) (e▸hx)) az)) (cz.upd8 ad (ak (ag.safe z _ (by decide)) aK))) (by decide)) (ak (aW (b7 ad (Ne.symm hne) E) (by decide)) aK))),cS,(aj bE a9 (fun x hx=>(aa (fun e=>(aD (ai hm) (le (le (le (le (le (le (le (le (le (le (le b.size j.size) d.size) l.size) o.size) f.size) p.size) r.size) h.size) s.size) t.size) i.size) bE) (e▸hx)) az)) (cz.upd8 a9 (ak (aW bH (by decide)) aK))),(by(try dsimp only);omega),(by(try dsimp only);rw[← hobj,show x62.byteV.toNat-k=(x62.byteV.toNat-(k+1))+1 from by omega];rfl),(by(try dsimp only);(try simp only[cl]);omega)⟩ (by omega)
 have ch:=of_decide_eq_false X
 refine xt<|tx<|tx<|bx<|rm (.tuple #[])<|?_
 subst c7 c1 bV bM
 have hf:db kd C0=(C,L):=by
   have h1:fI ((((((C0.bytesC 1).need (bI C0.byteV) 6).bytesC 1).need ((((C0.bytesC 1).need (bI C0.byteV) 6).byteV==0)||(((C0.bytesC 1).need (bI C0.byteV) 6).byteV==255)) 6).bytesC 1).need ((((C0.bytesC 1).need (bI C0.byteV) 6).byteV != 0)||(((((C0.bytesC 1).need (bI C0.byteV) 6).bytesC 1).need ((((C0.bytesC 1).need (bI C0.byteV) 6).byteV==0)||(((C0.bytesC 1).need (bI C0.byteV) 6).byteV==255)) 6).byteV==0)) 6).byteV.toNat ((((((((C0.bytesC 1).need (bI C0.byteV) 6).bytesC 1).need ((((C0.bytesC 1).need (bI C0.byteV) 6).byteV==0)||(((C0.bytesC 1).need (bI C0.byteV) 6).byteV==255)) 6).bytesC 1).need ((((C0.bytesC 1).need (bI C0.byteV) 6).byteV != 0)||(((((C0.bytesC 1).need (bI C0.byteV) 6).bytesC 1).need ((((C0.bytesC 1).need (bI C0.byteV) 6).byteV==0)||(((C0.bytesC 1).need (bI C0.byteV) 6).byteV==255)) 6).byteV==0)) 6).bytesC 1).need ((kd != 4)||(((((((C0.bytesC 1).need (bI C0.byteV) 6).bytesC 1).need ((((C0.bytesC 1).need (bI C0.byteV) 6).byteV==0)||(((C0.bytesC 1).need (bI C0.byteV) 6).byteV==255)) 6).bytesC 1).need ((((C0.bytesC 1).need (bI C0.byteV) 6).byteV != 0)||(((((C0.bytesC 1).need (bI C0.byteV) 6).bytesC 1).need ((((C0.bytesC 1).need (bI C0.byteV) 6).byteV==0)||(((C0.bytesC 1).need (bI C0.byteV) 6).byteV==255)) 6).byteV==0)) 6).byteV==1)) 5) []=(C,L):=by
     rw[← hobj,show((((((C0.bytesC 1).need (bI C0.byteV) 6).bytesC 1).need ((((C0.bytesC 1).need (bI C0.byteV) 6).byteV==0)||(((C0.bytesC 1).need (bI C0.byteV) 6).byteV==255)) 6).bytesC 1).need ((((C0.bytesC 1).need (bI C0.byteV) 6).byteV != 0)||(((((C0.bytesC 1).need (bI C0.byteV) 6).bytesC 1).need ((((C0.bytesC 1).need (bI C0.byteV) 6).byteV==0)||(((C0.bytesC 1).need (bI C0.byteV) 6).byteV==255)) 6).byteV==0)) 6).byteV.toNat-k=0 from by omega]
     rfl
   exact h1
 rw[hf]
 exact⟨rfl,z,⟨_,⟨E,rfl⟩,⟨_,_,_,_,_,rfl,aP.nil ..,aP.nil ..,aP.nil ..,aP.nil ..,(aJ.hi a (le (le (le (le (le (le (le (le (le (le (le b.size j.size) d.size) l.size) o.size) f.size) p.size) r.size) h.size) s.size) t.size) i.size)),⟨(b8 (x:=c) (by omega)),(b8 (x:=0) (by omega)),(co (x:=0) (by omega)),(co (x:=0) (by omega)),(co (x:=0) (by omega)),(co (x:=0) (by omega)),(co (x:=0) (by omega)),(co (x:=0) (by omega)),(co (x:=0) (by omega)),(co (x:=0) (by omega)),(co (x:=0) (by omega)),(co (x:=0) (by omega)),(b8 (x:=me) (by omega)),(b8 (x:=kd) (by omega)),(b8 (x:=C0.byteV) (by omega)),(b8 (x:=((C0.bytesC 1).need (bI C0.byteV) 6).byteV) (by omega)),(b8 (x:=((((C0.bytesC 1).need (bI C0.byteV) 6).bytesC 1).need ((((C0.bytesC 1).need (bI C0.byteV) 6).byteV==0)||(((C0.bytesC 1).need (bI C0.byteV) 6).byteV==255)) 6).byteV) (by omega))⟩⟩⟩,(ui b (ui af (ui am (ui f (ui ao (ui h (ui av (ui i v))))))))⟩
open Go.RowKit
def dV (C:aA) : aA:=(C.bytesC 1).need (C.byteV==13 || C.byteV==14) 8
def jd (C:aA) : aA:=(dV C).need (decide (((dV C).l.length:Int)≤251)) 5
def dG (C:aA) : aA:=((dV C).bytesC 1).need (decide (1≤(dV C).byteV)&&decide ((dV C).byteV≤4)) 6
def cc (dir c:Int)(C:aA) : Option (aA × b6) :=
  if c != 43 then none
  else if C.byteV==13 then some ((jd C).bytesC ((jd C).l.length:Int),{ b6.zero with code:=c,mei:=C.byteV,data:=(jd C).bytesR ((jd C).l.length:Int) })
  else if dir==1 then some ((db (dV C).byteV (dG C)).1,{ b6.zero with code:=c,mei:=C.byteV,kind:=(dV C).byteV,level:=(dG C).byteV,more:=(mp (dG C)).byteV,next:=(pU (dG C)).byteV,objects:=(db (dV C).byteV (dG C)).2 })
  else some ((dG C).bytesC 1,{ b6.zero with code:=c,mei:=C.byteV,kind:=(dV C).byteV,next:=(dG C).byteV })
theorem pI(hcode:B8 c)(hsl:aR m w (.slice A b.length cp) b)(hb:b.length≤1048576) :
    Calls Tryz.prog 104 #[vI 0,vB c,.slice A b.length cp] w (dL (aG cc 0 c b) w):=by
 obtain⟨hcode1,hcode2⟩:=hcode
 have hln:(b.length:Int)≤1048576:=by omega
 refine en 81 Tryz.func104 rfl<|sg<|aL mZ fun S bi y o p=>al 1<|sq<|bk<|ay 7<|c0<|ay 3<|cb ((c != 43)) (fun f=>?_) (fun f=>?_)
 have ac:=aN f
 refine au 1<|aI o mZ fun bj ad ae=>al 1<|rt<|br<|tr<|dZ ad (vI 4)<|?_
 exact dA (by unfold aG cc jd dG dV;(try simp only[f,bt,fO,fQ,fP,fR,fS,reduceIte])<;>rfl) (bV (ud p ae y))
 have ac:=aV f
 refine sk<|bn<|tn<|au 1<|?_
 refine aF<|e3 (dt (aR.old hsl p) (by omega)) fun g bl T z B=>Pl 1<|aS 2<|aF<|m3 (bD z) fun bm af h bp=>Pl 1<|aL mZ fun i bq j ah U=>aI ah (mG c 0 0 0 0 0 0 0 0 0 0 0 nS nS nS nS ((aA.mk b false 0).byteV) 0 0 0 0 nS) fun bs D V=>nt<|sq<|go<|Pl 2<|ax D 16<|Pl 2<|xG 4 [33] 37 33 (((aA.mk b false 0).byteV)==13) (((aA.mk b false 0).byteV)==14) (fun K ai aj=>?_) ?_
 have bu:=aO aj
 exact Pl 1<|L1<|ii D 16<|Pl 2<|ce ai _ rfl
 have E:=ud U V j
 refine aF<|m2 (aU (((((aA.mk b false 0).byteV)==13)||(((aA.mk b false 0).byteV)==14))) 8 (ag.old af E)) fun am an r=>?_
 refine ab an fun jt s t=>?_
 refine nt<|Cx (fun x=>[(6,vP S 0),(7,vI 0),(8,vP g 0),(9,vP i 0)]) (fun(x:aA × Array Value × b6) w'=>ap [g,i] am w'∧ag w' g x.1∧w'.heap[i]? = some (.cells x.2.1 45 (0,0))∧aE (.hi w.heap.size) w' x.2.1.toList x.2.2∧(aG cc 0 c b=cC x.2.2 x.1)) ?_ ?_
 rintro⟨C,cs,M⟩ F ⟨W,ao,aq,ar,av⟩
 refine ip [(6,vP S 0),(7,vI 0),(8,vP g 0),(9,vP i 0)] ?_
 have X:ag F g C:=ao
 have aw:F.heap[i]? = some (.cells cs 45 (0,0)):=aq
 have u:aE (.hi w.heap.size) F cs.toList M:=ar
 have G:=aE.size u
 have Y:aG cc 0 c b=cC M C:=av
 refine au 1<|aF<|m2 (ee X) fun bv Z H=>nt<|sq<|au 1<|aF<|mq (ci Z)<|?_
 have bw:=ag.len Z
 refine Pl 1<|dl 2<|?_
 have I:=ud B (u1 h (ue E (ui r (u1 W H im)) j) im) T
 have a0:=aH p I
 refine cb ((C.endC.e != 0)) (fun J=>?_) (fun J=>?_)
 have L:=aN J
 refine au 2<|?_
 refine aI (ub I o) mZ fun bx aB aD=>al 1<|bJ<|dZ aB (vI C.endC.e)<|?_
 subst s
 rw[Y]
 exact cQ L (ud a0 aD y)
 have L:=aV J
 refine bU<|sg<|?_
 refine L0<|cH (hz:=(by rw[G];exact bo)) (b7 H (Ne.symm (nb (ag.lt z) h.size j)) aw)<|?_
 refine aI (hz:=(by rw[G];exact bo)) (hv:=u.size) (h1:=u.one) (ub I o) (cs) fun bz aJ a1=>al 1<|rt<|jq 22 G aJ (vI 0)<|?_
 subst s
 rw[Y]
 exact de L (aE.upd u (us H a1) (ak (ag.safe X _ (by decide)) (ak (aW (ub (ud B (u1 h (ue E (ui r W) j) im) T) o) (by decide)) aK))) (ud a0 a1 y)
 refine au 1<|?_
 have a:=nb (ag.lt z) h.size j
 have N:=b7 r (Ne.symm a) D
 refine ax N 16<|al 1<|cb ((((aA.mk b false 0).byteV)==13)) (fun k=>?_) (fun k=>?_)
 have aM:=aC k
 refine au 2<|aF<|mq (dK t)<|?_
 have bA:=ag.len t
 refine Pl 1<|aF<|m2 (aU ((decide ((jt.l.length:Int)≤251))) 5 t) fun bB aQ a2=>?_
 refine ab aQ fun d aT v=>?_
 refine nt<|go<|Pl 2<|aF<|mq (dK v)<|?_
 have bC:=ag.len v
 refine aF<|um (bP (n:=(d.l.length:Int)) v) fun aX aY bE aZ bF bG b0 b1=>?_
 have bH:=Nat.le_trans (aA.bytesR_le d (d.l.length:Int)) (ag.len v)
 refine ab b0 fun b2 b3 b4=>?_
 refine Pl 1<|?_
 have a3:=u1 a2 b1 im
 have O:=b7 a3 (Ne.symm a) N
 refine L0<|cv O 14 (mG c 0 0 0 0 0 0 0 0 0 0 0 nS nS (.slice aX ((d.bytesR (d.l.length:Int)).length) aY) nS ((aA.mk b false 0).byteV) 0 0 0 0 nS) fun bI b5 P=>nl<|?_
 exact jn (b2,_,(b6.mk c 0 0 0 0 0 0 0 0 0 0 0 [] [] (d.bytesR (d.l.length:Int)) [] ((aA.mk b false 0).byteV) 0 0 0 0 [])) ⟨(us a3 P),(ag.upd b4 P (aa a az) (ak (aW O (by decide)) aK)),b5,⟨_,_,_,_,_,rfl,aP.nil ..,aP.nil ..,(aP.hi_le (aR.upd' aZ P (ak (aW O (by decide)) aK)) (le (le (le (le (le (le p.size B.size) h.size) U.size) V.size) r.size) a2.size) fun _ _ q=>q),aP.nil ..,aP.nil ..,(ek (by omega))⟩,by subst b3 aT s;unfold aG cc jd dG dV;(try simp only[f,k,bt,fO,fQ,fP,fR,fS,reduceIte])<;>rfl⟩
 have aM:=aO k
 refine au 1<|aF<|m3 (bD t) fun bK b8 a4 bL=>Pl 1<|?_
 have a5:=b7 a4 (Ne.symm a) N
 refine L0<|cv a5 17 (mG c 0 0 0 0 0 0 0 0 0 0 0 nS nS nS nS ((aA.mk b false 0).byteV) jt.byteV 0 0 0 nS) fun bM Q a6=>aS 2<|ax Q 17<|Pl 2<|gy 4 [59] 63 59 (decide (1≤jt.byteV)) (decide (jt.byteV≤4)) (fun K b9 ba=>?_) ?_
 have bN:=of_decide_eq_true ba
 exact Pl 1<|L1<|ii Q 17<|Pl 2<|ce b9 _ rfl
 refine aF<|m2 (aU (((decide (1≤jt.byteV))&&(decide (jt.byteV≤4)))) 6 (ag.upd b8 a6 (aa a az) (ak (aW a5 (by decide)) aK))) fun bO bb bc=>?_
 refine ab bb fun R bd be=>?_
 refine dl 2<|c0<|go<|Pl 1<|aF<|m3 (bD be) fun bQ bf bg bR=>Pl 1<|?_
 have a7:=u1 bc bg im
 have a8:=b7 a7 (Ne.symm a) Q
 refine L0<|cv a8 20 (mG c 0 0 0 0 0 0 0 0 0 0 0 nS nS nS nS ((aA.mk b false 0).byteV) jt.byteV 0 0 R.byteV nS) fun bS bh a9=>nl<|?_
 exact jn ((R.bytesC 1),_,(b6.mk c 0 0 0 0 0 0 0 0 0 0 0 [] [] [] [] ((aA.mk b false 0).byteV) jt.byteV 0 0 R.byteV [])) ⟨(ui a4 (ui a6 (us a7 a9))),(ag.upd bf a9 (aa a az) (ak (aW a8 (by decide)) aK)),bh,⟨_,_,_,_,_,rfl,aP.nil ..,aP.nil ..,aP.nil ..,aP.nil ..,aP.nil ..,(ek (by omega))⟩,by subst bd s;unfold aG cc jd dG dV;(try simp only[f,k,bt,fO,fQ,fP,fR,fS,reduceIte])<;>rfl⟩
theorem oL(hcode:B8 c)(hsl:aR m w (.slice A b.length cp) b)(hb:b.length≤1048576) :
    Calls Tryz.prog 104 #[vI 1,vB c,.slice A b.length cp] w (dL (aG cc 1 c b) w):=by
 obtain⟨hcode1,hcode2⟩:=hcode
 have hln:(b.length:Int)≤1048576:=by omega
 refine en 81 Tryz.func104 rfl<|sg<|aL mZ fun X bi B s h=>al 1<|sq<|bk<|ay 7<|c0<|ay 3<|cb ((c != 43)) (fun f=>?_) (fun f=>?_)
 have a8:=aN f
 refine au 1<|aI s mZ fun bj a9 ac=>al 1<|rt<|br<|tr<|dZ a9 (vI 4)<|?_
 exact dA (by unfold aG cc jd dG dV;(try simp only[f,bt,fO,fQ,fP,fR,fS,reduceIte])<;>rfl) (bV (ud h ac B))
 have a8:=aV f
 refine sk<|bn<|tn<|au 1<|?_
 refine aF<|e3 (dt (aR.old hsl h) (by omega)) fun i bl Y D t=>Pl 1<|aS 2<|aF<|m3 (bD D) fun bm ad g bp=>Pl 1<|aL mZ fun j bq k ae E=>aI ae (mG c 0 0 0 0 0 0 0 0 0 0 0 nS nS nS nS ((aA.mk b false 0).byteV) 0 0 0 0 nS) fun bs F G=>nt<|sq<|go<|Pl 2<|ax F 16<|Pl 2<|xG 4 [33] 37 33 (((aA.mk b false 0).byteV)==13) (((aA.mk b false 0).byteV)==14) (fun K af ah=>?_) ?_
 have bu:=aO ah
 exact Pl 1<|L1<|ii F 16<|Pl 2<|ce af _ rfl
 have H:=ud E G k
 refine aF<|m2 (aU (((((aA.mk b false 0).byteV)==13)||(((aA.mk b false 0).byteV)==14))) 8 (ag.old ad H)) fun ai aj o=>?_
 refine ab aj fun jt u v=>?_
 refine nt<|Cx (fun x=>[(6,vP X 0),(7,vI 0),(8,vP i 0),(9,vP j 0)]) (fun(x:aA × Array Value × b6) w'=>ap [i,j] ai w'∧ag w' i x.1∧w'.heap[j]? = some (.cells x.2.1 45 (0,0))∧aE (.hi w.heap.size) w' x.2.1.toList x.2.2∧(aG cc 1 c b=cC x.2.2 x.1)) ?_ ?_
 rintro⟨C,cs,M⟩ I ⟨Z,am,an,ao,aq⟩
 refine ip [(6,vP X 0),(7,vI 0),(8,vP i 0),(9,vP j 0)] ?_
 have a0:ag I i C:=am
 have ar:I.heap[j]? = some (.cells cs 45 (0,0)):=an
 have y:aE (.hi w.heap.size) I cs.toList M:=ao
 have J:=aE.size y
 have a1:aG cc 1 c b=cC M C:=aq
 refine au 1<|aF<|m2 (ee a0) fun bv a2 L=>nt<|sq<|au 1<|aF<|mq (ci a2)<|?_
 have bw:=ag.len a2
 refine Pl 1<|dl 2<|?_
 have N:=ud t (u1 g (ue H (ui o (u1 Z L im)) k) im) Y
 have a3:=aH h N
 refine cb ((C.endC.e != 0)) (fun O=>?_) (fun O=>?_)
 have P:=aN O
 refine au 2<|?_
 refine aI (ub N s) mZ fun bx av aw=>al 1<|bJ<|dZ av (vI C.endC.e)<|?_
 subst u
 rw[a1]
 exact cQ P (ud a3 aw B)
 have P:=aV O
 refine bU<|sg<|?_
 refine L0<|cH (hz:=(by rw[J];exact bo)) (b7 L (Ne.symm (nb (ag.lt D) g.size k)) ar)<|?_
 refine aI (hz:=(by rw[J];exact bo)) (hv:=y.size) (h1:=y.one) (ub N s) (cs) fun bz aB a4=>al 1<|rt<|jq 22 J aB (vI 0)<|?_
 subst u
 rw[a1]
 exact de P (aE.upd y (us L a4) (ak (ag.safe a0 _ (by decide)) (ak (aW (ub (ud t (u1 g (ue H (ui o Z) k) im) Y) s) (by decide)) aK))) (ud a3 a4 B)
 refine au 1<|?_
 have a:=nb (ag.lt D) g.size k
 have Q:=b7 o (Ne.symm a) F
 refine ax Q 16<|al 1<|cb ((((aA.mk b false 0).byteV)==13)) (fun p=>?_) (fun p=>?_)
 have aD:=aC p
 refine au 2<|aF<|mq (dK v)<|?_
 have bA:=ag.len v
 refine Pl 1<|aF<|m2 (aU ((decide ((jt.l.length:Int)≤251))) 5 v) fun bB aJ a5=>?_
 refine ab aJ fun d aM z=>?_
 refine nt<|go<|Pl 2<|aF<|mq (dK z)<|?_
 have bC:=ag.len z
 refine aF<|um (bP (n:=(d.l.length:Int)) z) fun aQ aT bE aX bF bG aY aZ=>?_
 have bH:=Nat.le_trans (aA.bytesR_le d (d.l.length:Int)) (ag.len z)
 refine ab aY fun b0 b1 b2=>?_
 refine Pl 1<|?_
 have a6:=u1 a5 aZ im
 have R:=b7 a6 (Ne.symm a) Q
 refine L0<|cv R 14 (mG c 0 0 0 0 0 0 0 0 0 0 0 nS nS (.slice aQ ((d.bytesR (d.l.length:Int)).length) aT) nS ((aA.mk b false 0).byteV) 0 0 0 0 nS) fun bI b3 S=>nl<|?_
 exact jn (b0,_,(b6.mk c 0 0 0 0 0 0 0 0 0 0 0 [] [] (d.bytesR (d.l.length:Int)) [] ((aA.mk b false 0).byteV) 0 0 0 0 [])) ⟨(us a6 S),(ag.upd b2 S (aa a az) (ak (aW R (by decide)) aK)),b3,⟨_,_,_,_,_,rfl,aP.nil ..,aP.nil ..,(aP.hi_le (aR.upd' aX S (ak (aW R (by decide)) aK)) (le (le (le (le (le (le h.size t.size) g.size) E.size) G.size) o.size) a5.size) fun _ _ q=>q),aP.nil ..,aP.nil ..,(ek (by omega))⟩,by subst b1 aM u;unfold aG cc jd dG dV;(try simp only[f,p,bt,fO,fQ,fP,fR,fS,reduceIte])<;>rfl⟩
 have aD:=aO p
 refine au 1<|aF<|m3 (bD v) fun bK b4 T bL=>Pl 1<|?_
 have a7:=b7 T (Ne.symm a) Q
 refine L0<|cv a7 17 (mG c 0 0 0 0 0 0 0 0 0 0 0 nS nS nS nS ((aA.mk b false 0).byteV) jt.byteV 0 0 0 nS) fun bM U V=>aS 2<|ax U 17<|Pl 2<|gy 4 [59] 63 59 (decide (1≤jt.byteV)) (decide (jt.byteV≤4)) (fun K b5 b9=>?_) ?_
 have bN:=of_decide_eq_true b9
 exact Pl 1<|L1<|ii U 17<|Pl 2<|ce b5 _ rfl
 refine aF<|m2 (aU (((decide (1≤jt.byteV))&&(decide (jt.byteV≤4)))) 6 (ag.upd b4 V (aa a az) (ak (aW a7 (by decide)) aK))) fun bO ba W=>?_
 refine ab ba fun r bb bc=>?_
 refine dl 2<|c1<|go<|Pl 1<|?_
 refine aF<|m3 (rY (c:=c) (me:=(aA.mk b false 0).byteV) (kd:=jt.byteV) ⟨hcode1,hcode2⟩ (b8 (by omega)) (b8 (by omega)) bc (b7 W (Ne.symm a) U) a) fun bQ bd be bf=>?_
 obtain⟨bR,bg,bh⟩:=be
 refine nl<|?_
 exact jn ((db jt.byteV r).1,_,{ b6.zero with code:=c,mei:=(aA.mk b false 0).byteV,kind:=jt.byteV,level:=r.byteV,more:=(mp r).byteV,next:=(pU r).byteV,objects:=(db jt.byteV r).2 }) ⟨(ui T (ui V (ui W bf))),bd,bg.1,(aE.lo bh (le (le (le (le (le (le (le (le h.size t.size) g.size) E.size) G.size) o.size) T.size) V.size) W.size)),by subst bb u;unfold aG cc jd dG dV;(try simp only[f,p,bt,fO,fQ,fP,fR,fS,reduceIte])<;>rfl⟩
theorem oE(hcode:B8 c)(hsl:aR m w (.slice A b.length cp) b)(hb:b.length≤1048576)(hd:¬ (dir=0∨dir=1)) :
    Calls Tryz.prog 104 #[vI dir,vB c,.slice A b.length cp] w (dL (aG cc dir c b) w):=by
 obtain⟨hcode1,hcode2⟩:=hcode
 have hln:(b.length:Int)≤1048576:=by omega
 have e0:(dir != 0)=true:=by simp;omega
 have e1:(dir != 1)=true:=by simp;omega
 refine en 81 Tryz.func104 rfl<|sg<|aL mZ fun g h a d e=>al 1<|sq<|bk<|au 3<|sy 14 e0<|Pl 4<|nl<|tn<|ct e1<|au 1<|aI d mZ fun i eo f=>al 1<|rt<|br<|tr<|dZ eo (vI 1)<|?_
 exact dA (by unfold aG cc jd dG dV;(try simp only[e0,e1,bt,fO,fQ,fP,fR,fS,reduceIte,hd])<;>rfl) (bV (ud e f a))
theorem mW(hc:B8 c)(h:aR m w v b)(hb:b.length≤1048576) :
    Calls Tryz.prog 104 #[.int .i64 dir,.int .u8 c,v] w (dL (aG cc dir c b) w):=by
  obtain⟨A,cp,rfl,_,_⟩:=h.shape
  by_cases h0:dir=0
  · subst h0;exact pI hc h hb
  by_cases h1:dir=1
  · subst h1;exact oL hc h hb
  exact oE hc h hb (by omega)
end Go.Proofs.YtdkhbcefkfgbdaaGreat
