/- Contracts of functions, part CAduWrites2. -/
import Derived.Test.YtdkhbcefkfgbdaaGreatCAduWrites1
import Derived.Laws.BytesArg
import Derived.Stop.BytesEq
import Derived.Laws.BitsAllLaws
set_option linter.unusedVariables false
set_option linter.unusedSimpArgs false
set_option maxRecDepth 100000
set_option maxHeartbeats 4000000
namespace Go.Proofs.YtdkhbcefkfgbdaaGreat
open Go.RowKit
theorem qs{ev:Operand→Value}{o:Oper}{x y:Operand}{t:TypeId}{a b:Int}{w:World}(ho:o.op = .binOp .neq 145 x y t)
    (hx:ev x = .agg #[.int .u8 a,.int .u8 b]) (hy:ev y = .agg #[.int .u8 0,.int .u8 0]) : (execOp ev o).run Tryz.prog w = .ok (.value (.bool ((a != 0)||(b != 0)))) w:=by
  unfold execOp
  rw[ho]
  simp only[hx,hy]
  cases a with
  | ofNat a =>
    cases a with
    | zero =>
      cases b with
      | ofNat b =>
        cases b with
        | zero=>kernel_rfl
        | succ b=>kernel_rfl
      | negSucc b=>kernel_rfl
    | succ a=>kernel_rfl
  | negSucc a=>kernel_rfl
def hG (a b:Int) : aU:={ aU.zero with code:=a,fail:=b }
def gR (a b:Int) : Bool:=(((a != 0)||(b != 0))&&dZ a)&&cX b
theorem np{a b:Int}{w:World}:Calls Tryz.prog 95 #[.agg #[vB a,vB b]] w (cl (.agg #[vB a,vB b,vW 0,vW 0,vW 0,vW 0,vW 0,vW 0,vW 0,vW 0,vW 0,vW 0,nS,nS,nS,nS,vB 0,vB 0,vB 0,vB 0,vB 0,nS]) w):=by
 refine en 8 Tryz.func95 rfl<|sg<|L0<|d6 #[vB a,vB b] fun k l m e f=>aK mZ fun n o g h c=>aM 1<|?_
 have d:=ub c e
 refine aD d 0<|Pl 1<|aD d 1<|Pl 1<|aG h (mG a b 0 0 0 0 0 0 0 0 0 0 nS nS nS nS 0 0 0 0 0 nS) fun p i j=>qG<|By i<|?_
 exact⟨rfl,(aI f (ud c j g))⟩
theorem uy{a b:Int}{w:World}:Calls Tryz.prog 93 #[.agg #[vB a,vB b]] w (cl (.bool (gR a b)) w):=by
 refine en 16 Tryz.func93 rfl<|sg<|L0<|d6 #[vB a,vB b] fun l m n d f=>Pl 1<|ng<|L0<|bN d<|Pl 1<|L0<|ik (.bool ((a != 0)||(b != 0))) (qs rfl (by kernel_rfl) (by kernel_rfl))<|Pl 1<|bl 6 (((a != 0)||(b != 0))) (fun c=>?_) (fun c=>?_)
 refine Pl 1<|L1<|dD d 0<|L1<|Oc<|m1 (mt (x:=a) (w:=_)) fun o g=>Pl 2<|?_
 have h:=aI f g
 refine bl 11 ((dZ a)) (fun e=>?_) (fun e=>?_)
 refine Pl 1<|?_
 refine L1<|dD (ub g d) 1<|L1<|Oc<|m1 (lJ (x:=b) (w:=_)) fun p k=>ai 2<|rt<|rr (.bool (cX b))<|?_
 exact cv (by unfold gR;(try simp only[c,e,bi])<;>rfl) ⟨rfl,(aI h k)⟩
 exact ai 5<|rt<|rr (.bool false)<|cv (by unfold gR;(try simp only[c,e,bi])<;>rfl) ⟨rfl,h⟩
 have i:=(bK c).1
 have j:=(bK c).2
 have q:=az i
 have r:=az j
 exact ai 10<|rt<|rr (.bool false)<|cv (by unfold gR;(try simp only[c,i,j,bi])<;>rfl) ⟨rfl,f⟩
def fl (b:List Int) : aU × Int :=
  if (b.length:Int)==0 then (aU.zero,2)
  else if decide (b.getD 0 0<128) then (aU.zero,4)
  else if !(dZ ((b.getD 0 0-128)%256)) then (aU.zero,4)
  else if (b.length:Int)==1 then (aU.zero,2)
  else if !(cX (b.getD 1 0)) then (aU.zero,6)
  else if decide (2<(b.length:Int)) then (aU.zero,3)
  else (hG ((b.getD 0 0-128)%256) (b.getD 1 0),0)
theorem sv{m:Md}{A:Option Addr}{cp:Nat}{b:List Int}{w:World}(hsl:aZ m w (.slice A b.length cp) b)(hb:b.length≤1048576) :
    Calls Tryz.prog 117 #[.slice A b.length cp] w (eL (fl b) w):=by
 have hln:(b.length:Int)≤1048576:=by omega
 refine en 49 Tryz.func117 rfl<|sg<|aK mZ fun ah aj g h q=>ai 1<|sq<|bk<|aE 4<|cb (((b.length:Int)==0)) (fun c=>?_) (fun c=>?_)
 have O:=ag c
 refine al 1<|aG h mZ fun ak P Q=>ai 1<|rt<|br<|tr<|bJ P (vI 2)<|?_
 exact cv (y:=(aU.zero,2)) (by unfold fl;(try simp only[c,bi,Bool.not_eq_true,reduceIte])<;>rfl) (cR (ud q Q g))
 have O:=au c
 refine al 1<|?_
 have B:=aZ.old hsl q
 refine ft (aZ.at_ B 0 (by omega)) fun C D E F am=>L0<|kY b.length 0 E (by omega)<|L0<|eu (p:=⟨C,D+0,none⟩) (v:=vB (b.getD 0 0)) F<|Pl 2<|bl 14 ((decide ((b.getD 0 0)<128))) (fun d=>?_) (fun d=>?_)
 have R:=of_decide_eq_true d
 refine ai 8<|c1<|al 1<|aG h mZ fun an S T=>ai 1<|rt<|br<|tr<|bJ S (vI 4)<|?_
 exact cv (y:=(aU.zero,4)) (by unfold fl;(try simp only[c,d,bi,Bool.not_eq_true,reduceIte])<;>rfl) (cR (ud q T g))
 have R:=of_decide_eq_false d
 refine Pl 1<|L1<|kY b.length 0 E (by omega)<|L1<|eu (p:=⟨C,D+0,none⟩) (v:=vB (b.getD 0 0)) F<|Pl 1<|L1<|Oc<|m1 (mt (x:=(((b.getD 0 0)-128)%256)) (w:=_)) fun ao i=>ai 3<|?_
 have t:=aI q i
 refine cb ((!(dZ (((b.getD 0 0)-128)%256)))) (fun e=>?_) (fun e=>?_)
 have k:(dZ (((b.getD 0 0)-128)%256))=false:=by simpa using e
 refine al 1<|?_
 refine aG (ub i h) mZ fun ap U V=>ai 1<|rt<|br<|tr<|bJ U (vI 4)<|?_
 exact cv (y:=(aU.zero,4)) (by unfold fl;(try simp only[c,d,e,k,bi,Bool.not_eq_true,reduceIte])<;>rfl) (cR (ud t V g))
 have k:(dZ (((b.getD 0 0)-128)%256))=true:=by simpa using e
 refine aE 4<|cb (((b.length:Int)==1)) (fun j=>?_) (fun j=>?_)
 have W:=ag j
 refine al 1<|?_
 refine aG (ub i h) mZ fun aq X Y=>ai 1<|rt<|br<|tr<|bJ X (vI 2)<|?_
 exact cv (y:=(aU.zero,2)) (by unfold fl;(try simp only[c,d,e,k,j,bi,Bool.not_eq_true,reduceIte])<;>rfl) (cR (ud t Y g))
 have W:=au j
 refine al 1<|?_
 have G:=aZ.old B i
 refine ft (aZ.at_ G 1 (by omega)) fun Z a0 a1 a2 ar=>L0<|kY b.length 1 a1 (by omega)<|L0<|eu (p:=⟨Z,a0+1,none⟩) (v:=vB (b.getD 1 0)) a2<|ay<|m1 (lJ (x:=(b.getD 1 0)) (w:=_)) fun av n=>ai 2<|?_
 have u:=aI t n
 refine cb ((!(cX (b.getD 1 0)))) (fun l=>?_) (fun l=>?_)
 have r:(cX (b.getD 1 0))=false:=by simpa using l
 refine al 1<|?_
 refine aG (ub (aI i n) h) mZ fun aw a3 a4=>ai 1<|rt<|br<|tr<|bJ a3 (vI 6)<|?_
 exact cv (y:=(aU.zero,6)) (by unfold fl;(try simp only[c,d,e,k,j,l,r,bi,Bool.not_eq_true,reduceIte])<;>rfl) (cR (ud u a4 g))
 have r:(cX (b.getD 1 0))=true:=by simpa using l
 refine aE 4<|cb ((decide (2<(b.length:Int)))) (fun o=>?_) (fun o=>?_)
 have a5:=of_decide_eq_true o
 refine al 1<|?_
 refine aG (ub (aI i n) h) mZ fun ax a6 a7=>ai 1<|rt<|br<|tr<|bJ a6 (vI 3)<|?_
 exact cv (y:=(aU.zero,3)) (by unfold fl;(try simp only[c,d,e,k,j,l,r,o,bi,Bool.not_eq_true,reduceIte])<;>rfl) (cR (ud u a7 g))
 have a5:=of_decide_eq_false o
 refine sk<|bn<|tn<|sq<|?_
 have H:=aZ.old G n
 refine ft (aZ.at_ H 0 (by omega)) fun a8 a9 I J az=>ft (aZ.at_ H 1 (by omega)) fun aa ab K L aA=>Rg 11 (fun w'=>w'.cell? ⟨a8,a9+0,none⟩=some (vB (b.getD 0 0))∧w'.cell? ⟨aa,ab+1,none⟩=some (vB (b.getD 1 0))) fun aB z=>bo ⟨(uc z J),(uc z L)⟩ fun f=>Rt 0 f<|lS 1 f b.length 0 0 rfl I (by omega)<|Rl 2 f (fun _ hs=>hs.1)<|Rt 3 f<|Rt 4 f<|lS 5 f b.length 1 1 rfl K (by omega)<|Rl 6 f (fun _ hs=>hs.2)<|Rt 7 f<|R0 8 rfl<|Oc<|m1 (np (a:=(((b.getD 0 0)-128)%256)) (b:=(b.getD 1 0)) (w:=_)) fun aC ac=>?_
 have s:=aI z ac
 refine bo ⟨(uc s J),(uc s L)⟩ fun aD=>?_
 refine R0 9 rfl<|gJ (ub (aI i (aI n s)) h) (mG (((b.getD 0 0)-128)%256) (b.getD 1 0) 0 0 0 0 0 0 0 0 0 0 nS nS nS nS 0 0 0 0 0 nS) fun aF ad ae=>?_
 have M:=ud u (uz s ae) g
 have N:=aZ.old hsl M
 exact bo ⟨(cB N I 0 (by omega)),(cB N K 1 (by omega))⟩ fun af=>Rt 10 af<|re<|tn<|rt<|bJ ad (vI 0)<|cv (y:=((aU.mk (((b.getD 0 0)-128)%256) (b.getD 1 0) 0 0 0 0 0 0 0 0 0 0 [] [] [] [] 0 0 0 0 0 []),0)) (by unfold fl;(try simp only[c,d,e,k,j,l,r,o,bi,Bool.not_eq_true,reduceIte])<;>rfl) ⟨_,rfl,⟨_,_,_,_,_,rfl,aS.nil ..,aS.nil ..,aS.nil ..,aS.nil ..,aS.nil ..,(cT (by omega))⟩,M⟩
theorem vQ{m:Md}{v:Value}{b:List Int}{w:World}(h:aZ m w v b)(hb:b.length≤1048576) : Calls Tryz.prog 117 #[v] w (eL (fl b) w):=by
  obtain⟨A,cp,rfl,_,_⟩:=h.shape
  exact sv h hb
open Go.RowKit
def cD (dir:Int)(M:aU) : List Int :=
  if M.code==5 then aO [M.addr,M.value]
  else if M.code==15&&dir==0 then ((aO [M.addr,M.count]++[((bS M.bits).length:Int)%256])++bS M.bits)
  else if dir==1&&M.code != 15 then [(M.data.length:Int)%256]++M.data
  else aO [M.addr,M.count]
theorem vR{m:Md}{cs:Array Value}{M:aU}{w:World}{dir:Int}(h:aJ m w cs.toList M)(hf:bB M) : Calls Tryz.prog 147 #[vI dir,.agg cs] w (jK (cD dir M) w):=by
 refine fo h fun Aw kw Ab kb Ad kd Ar kr Ao ko e hw hbt hd hr ho _ _ _ _ _ _ _ _ _ _ q0 q1 q2 q3 q4 q5 q6 q7 q8 q9 an ao aq ar aw ax az=>?_
 subst e
 have hf1:=hf.words
 have hf2:=hf.bits
 have hf3:=hf.data
 have hf4:=hf.recs
 have hf5:=hf.objects
 refine en 62 Tryz.func147 rfl<|sg<|L0<|d6 (mG M.code M.fail M.addr M.count M.value M.and_ M.or_ M.addr2 M.sub M.status M.events M.messages (.slice Aw M.words.length kw) (.slice Ab M.bits.length kb) (.slice Ad M.data.length kd) (.slice Ar M.recs.length kr) M.mei M.kind M.level M.more M.next (.slice Ao M.objects.length ko)) fun aE aG aK a b=>ai 1<|sq<|bk<|al 1<|aD a 0<|Pl 2<|nl<|tn<|cb ((M.code==5)) (fun c=>?_) (fun c=>?_)
 have H:=ag c
 refine al 1<|aD a 2<|Pl 1<|aD a 4<|L0<|cY (m:=2) (e:=37) #[vW M.addr,vW M.value] fun aL aN I J p=>?_
 have L:=eB I (xs:=[M.addr,M.value]) (by as_aux_lemma=>kernel_rfl) (am (by omega) (am (by omega) aR)) (by(try simp only[List.length_cons,List.length_nil]);omega) J
 refine ay<|dV (cS (xs:=[M.addr,M.value]) (L).rd (by(try simp only[List.length_cons,List.length_nil]);omega)) fun N O aP P aQ aS Q=>ai 1<|rt<|br<|tr<|rr (.slice N ((aO ([M.addr,M.value])).length) O)<|?_
 have hs:cD dir M=(aO ([M.addr,M.value])):=by
   unfold cD
   (try simp only[c,bi,reduceIte])
   all_goals first | rfl | (simp_all;done)
 rw[hs]
 exact⟨_,rfl,(b6.weaken P (le b.size p.size)),(aI b (aI p Q))⟩
 have H:=au c
 refine al 1<|aD a 0<|Pl 2<|cu 3 [20] 23 (((M.code==15)&&(dir==0))) (fun K q=>?_) ?_
 refine bl 20 ((M.code==15)) (fun f=>?_) (fun f=>?_)
 have R:=ag f
 exact Pl 3<|ce q (dir==0) (by rw[f];rfl)
 have R:=au f
 exact Pl 3<|ce q false (by rw[f];rfl)
 refine ai 1<|cb (((M.code==15)&&(dir==0))) (fun d=>?_) (fun d=>?_)
 have r:=(bC d).1
 have s:=(bC d).2
 have aV:=ag r
 have aW:=ag s
 refine al 1<|aD a 13<|?_
 refine ay<|dV (xb (l:=M.bits) (j6.old hbt b) (by omega)) fun aX aY b0 S b1 b2 j=>?_
 have b3:=wR M.bits
 refine Pl 1<|aM 1<|?_
 have t:=ub j a
 refine aD t 2<|Pl 1<|aD t 3<|L0<|cY (m:=2) (e:=37) #[vW M.addr,vW M.count] fun b4 b5 T U k=>?_
 have V:=eB T (xs:=[M.addr,M.count]) (by as_aux_lemma=>kernel_rfl) (am (by omega) (am (by omega) aR)) (by(try simp only[List.length_cons,List.length_nil]);omega) U
 refine ay<|dV (cS (xs:=[M.addr,M.count]) (V).rd (by(try simp only[List.length_cons,List.length_nil]);omega)) fun W b7 b8 u ba bb v=>Pl 3<|L0<|cY (m:=1) (e:=5) #[vB (((bS M.bits).length:Int)%256)] fun bc bd X Y n=>?_
 have Z:=cG X (xs:=[(((bS M.bits).length:Int)%256)]) (by as_aux_lemma=>kernel_rfl) (am (by omega) aR) (by(try simp only[List.length_cons,List.length_nil]);omega) Y
 refine L0<|bQ b9 (xs:=(aO ([M.addr,M.count]))) (ys:=([(((bS M.bits).length:Int)%256)])) (vB 0) 1 (av u n (fun x hx=>aF) (fun _ _ h=>h)) (Z).rd (by(try simp only[bT,aC]);omega) (le v.size n.size) fun be bf bg y a0=>Pl 1<|?_
 have z:=ut v (ut (aH.mono (S':=(ob W++[])) n aA) a0 (ap il aA)) (ap (aT u lr) aA)
 have A:=aI k z
 refine L0<|bQ b9 (xs:=((aO ([M.addr,M.count]))++[(((bS M.bits).length:Int)%256)])) (ys:=(bS M.bits)) (vB 0) 1 y ((av S A (fun x hx=>aF) (fun _ _ h=>h))).rd (by(try simp only[bT,aC]);omega) z.size fun a1 a2 bh a3 a4=>ai 1<|rt<|br<|tr<|rr (.slice a1 ((((aO ([M.addr,M.count]))++[(((bS M.bits).length:Int)%256)])++(bS M.bits)).length) a2)<|?_
 have hs:cD dir M=(((aO ([M.addr,M.count]))++[(((bS M.bits).length:Int)%256)])++(bS M.bits)):=by
   unfold cD
   (try simp only[c,d,r,s,bi,reduceIte])
   all_goals first | rfl | (simp_all;done)
 rw[hs]
 exact⟨_,rfl,(b6.weaken a3 (le (le b.size j.size) k.size)),(aI b (aI j (ut A a4 (ap (aT y k.size) aA))))⟩
 refine al 3<|cu 4 [43] 47 (((dir==1)&&(M.code != 15))) (fun K B=>?_) ?_
 refine bl 43 ((dir==1)) (fun g=>?_) (fun g=>?_)
 have a5:=ag g
 exact Pl 1<|L1<|dD a 0<|Pl 2<|ce B (M.code != 15) (by rw[g];rfl)
 have a5:=au g
 exact Pl 4<|ce B false (by rw[g];rfl)
 refine ai 1<|cb (((dir==1)&&(M.code != 15))) (fun i=>?_) (fun i=>?_)
 have C:=(bC i).1
 have D:=(bC i).2
 have bj:=ag C
 have bm:=aB D
 refine al 1<|aD a 14<|Pl 2<|L0<|cY (m:=1) (e:=5) #[vB ((M.data.length:Int)%256)] fun bo bp a6 a7 o=>?_
 have E:=cG a6 (xs:=[((M.data.length:Int)%256)]) (by as_aux_lemma=>kernel_rfl) (am (by omega) aR) (by(try simp only[List.length_cons,List.length_nil]);omega) a7
 refine Pl 1<|?_
 refine aD (ub o a) 14<|?_
 have F:=aI b o
 refine L0<|bQ b9 (xs:=([((M.data.length:Int)%256)])) (ys:=M.data) (vB 0) 1 E (aZ.old hd F) (by(try simp only[bT,aC]);omega) o.size fun a8 a9 bq aa ab=>ai 1<|rt<|br<|tr<|rr (.slice a8 (([((M.data.length:Int)%256)]++M.data).length) a9)<|?_
 have hs:cD dir M=([((M.data.length:Int)%256)]++M.data):=by
   unfold cD
   (try simp only[c,d,i,C,D,bi,reduceIte])
   all_goals first | rfl | (simp_all;done)
 rw[hs]
 exact⟨_,rfl,(b6.weaken aa b.size),(ut F ab (ap (aT E b.size) aA))⟩
 refine sk<|bn<|tn<|al 1<|aD a 2<|Pl 1<|aD a 3<|L0<|cY (m:=2) (e:=37) #[vW M.addr,vW M.count] fun bs bt ac ad G=>?_
 have ae:=eB ac (xs:=[M.addr,M.count]) (by as_aux_lemma=>kernel_rfl) (am (by omega) (am (by omega) aR)) (by(try simp only[List.length_cons,List.length_nil]);omega) ad
 refine ay<|dV (cS (xs:=[M.addr,M.count]) (ae).rd (by(try simp only[List.length_cons,List.length_nil]);omega)) fun af ah bu aj bv bw ak=>ai 1<|rt<|rr (.slice af ((aO ([M.addr,M.count])).length) ah)<|?_
 have hs:cD dir M=(aO ([M.addr,M.count])):=by
   unfold cD
   (try simp only[c,d,i,bi,reduceIte])
   all_goals first | rfl | (simp_all;done)
 rw[hs]
 exact⟨_,rfl,(b6.weaken aj (le b.size G.size)),(aI b (aI G ak))⟩
open Go.RowKit
def ec (x:Bool)(w:World)(e:Ending)(w':World) : Prop:=e = .returned (.bool x)∧aH [] w w'
theorem oW{α:Type} [DecidableEq α]{xs ys:List α}{d:α}(h:xs.length=ys.length){k:Nat}(hk:k<xs.length)(hp:xs.take k=ys.take k)(hx:xs.getD k d=ys.getD k d) : xs.take (k+1)=ys.take (k+1):=by
  rw[List.take_add_one,List.take_add_one,hp]
  simp only[List.getD_eq_getElem?_getD,List.getElem?_eq_getElem hk,List.getElem?_eq_getElem (h▸hk),Option.getD_some] at hx
  simp[List.getElem?_eq_getElem hk,List.getElem?_eq_getElem (h▸hk),hx]
theorem vF{α:Type} [DecidableEq α]{xs ys:List α}{d:α}(k:Nat)(hx:xs.getD k d≠ys.getD k d) : xs≠ys:=fun h=>hx (by rw[h])
theorem uj{m m':Md}{u v:Value}{xs ys:List Int}{w:World}(hx:ey m w u xs)(hy:ey m' w v ys) : Calls Tryz.prog 133 #[u,v] w (ec (decide (xs=ys)) w):=by
  have hhx:=hx
  have hhy:=hy
  obtain⟨A,c,rfl,hc1,hc2⟩:=hx.shape
  obtain⟨B,c',rfl,j8,jJ⟩:=hy.shape
  have hn:xs.length≤9223372036854775807:=by have:=hc2;unfold maxLen at this;omega
  by_cases hl:xs.length=ys.length
  case neg =>
    have hno:∀ W,aH [] w W→ec (decide (xs=ys)) w (.returned (.bool false)) W:=by
      intro W hW
      rw[decide_eq_false (fun h=>hl (by rw[h]))]
      exact⟨rfl,hW⟩
    have hli:((xs.length:Int)!=(ys.length:Int))=true:=by simp;omega
    clear hx hy hhx hhy hl
    go_enter Tryz.func133,Tryz.ntmps133
    go_wp2
    go_ret
    exact hno _ (aH.refl _ _)
  have hno:∀ W k,xs.getD k 0≠ys.getD k 0→aH [] w W→ec (decide (xs=ys)) w (.returned (.bool false)) W:=by
    intro W k hk hW
    rw[decide_eq_false (vF k hk)]
    exact⟨rfl,hW⟩
  have hyes:∀ W,xs.take xs.length=ys.take xs.length→aH [] w W→ec (decide (xs=ys)) w (.returned (.bool true)) W:=by
    intro W hk hW
    rw[List.take_length,hl,List.take_length] at hk
    rw[decide_eq_true hk]
    exact⟨rfl,hW⟩
  revert hno hyes
  generalize ec (decide (xs=ys)) w=P
  intro hno hyes
  have hli:((xs.length:Int)!=(ys.length:Int))=false:=by simp;omega
  have hL:=Lib.hid hl
  clear hx hy hl
  go_enter Tryz.func133,Tryz.ntmps133
  go_wp2
  go_loopw [13] (fun i wr=>∃ k:Nat,k≤xs.length∧i = .int .i64 (k:Int)∧xs.take k=ys.take k∧aH [] w wr) (fun i _=>xs.length-(intOf i).toNat)
  case atStart=>exact⟨0,by omega,rfl,by simp,aH.refl _ _⟩
  case round =>
    obtain⟨k,hk,rfl,hpre,hu⟩:=hrel
    by_cases hlt:k<xs.length
    · obtain⟨b,off,rfl,cw0,hr0⟩:=ey.at_ hhx k hlt
      obtain⟨b',off',rfl,cw1,hr1⟩:=ey.at_ hhy k (by have:=hL.out;omega)
      have hlt':k<ys.length:=by have:=hL.out;omega
      have hstep:=fun h=>oW (d:=0) hL.out hlt hpre h
      have hno':=fun W h=>hno W k h
      revert cw0 cw1 hstep hno' hr0 hr1
      generalize xs.getD k 0=x0
      generalize ys.getD k 0=y0
      intro cw0 hr0 cw1 hr1 hstep hno'
      have hc0:=hu.cell (by simp) cw0
      have hc1:=hu.cell (by simp) cw1
      have hstep:=Lib.hid hstep
      have hno':=Lib.hid hno'
      clear cw0 cw1 hhx hhy hpre hno hyes
      have hc0:wr.drew.cell? ⟨b,off+k,none⟩=some (.int .u16 x0):=hc0
      have hc1:wr.drew.cell? ⟨b',off'+k,none⟩=some (.int .u16 y0):=hc1
      go_wp2
      refine qQ (S:=fun w'=>w'.cell? ⟨b,off+k,none⟩=some (.int .u16 x0)∧w'.cell? ⟨b',off'+k,none⟩=some (.int .u16 y0)) (n:=9) #[false,false,false,false,false,false,false,false,false] (by kernel_rfl) rfl rfl ⟨hc0,hc1⟩ (fun hHeld=>?_)
      refine dK (i:=0) (N:=some 16) (v:=?_) (a':=?_) #[true,false,false,false,false,false,false,false,false] rfl rfl (by kernel_rfl) (fun _ _ _ h=>h) (Or.inl ⟨by rfl,?_⟩) hHeld ?_ ?_
      rotate_left
      · rintro w' ⟨hs0,hs1⟩
        go_simp
        with_reducible rfl
      rotate_left
      · simp only[Act.put,List.setIfInBounds_toArray,List.set_cons_zero,List.set_cons_succ]
        rfl
      refine dK (i:=1) (N:=some 17) (v:=?_) (a':=?_) #[true,true,false,false,false,false,false,false,false] rfl rfl (by kernel_rfl) (fun _ _ _ h=>h) (Or.inl ⟨by rfl,?_⟩) hHeld ?_ ?_
      rotate_left
      · rintro w' ⟨hs0,hs1⟩
        go_simp
        with_reducible rfl
      rotate_left
      · simp only[Act.put,List.setIfInBounds_toArray,List.set_cons_zero,List.set_cons_succ]
        rfl
      refine dK (i:=2) (N:=some 18) (v:=?_) (a':=?_) #[true,true,true,false,false,false,false,false,false] rfl rfl (by kernel_rfl) (fun _ _ _ h=>h) (Or.inl ⟨by rfl,?_⟩) hHeld ?_ ?_
      rotate_left
      · rintro w' ⟨hs0,hs1⟩
        go_simp
        with_reducible rfl
      rotate_left
      · simp only[Act.put,List.setIfInBounds_toArray,List.set_cons_zero,List.set_cons_succ]
        rfl
      refine dK (i:=3) (N:=some 19) (v:=?_) (a':=?_) #[true,true,true,true,false,false,false,false,false] rfl rfl (by kernel_rfl) (fun _ _ _ h=>h) (Or.inl ⟨by rfl,?_⟩) hHeld ?_ ?_
      rotate_left
      · rintro w' ⟨hs0,hs1⟩
        go_simp
        with_reducible rfl
      rotate_left
      · simp only[Act.put,List.setIfInBounds_toArray,List.set_cons_zero,List.set_cons_succ]
        rfl
      refine dK (i:=4) (N:=some 20) (v:=?_) (a':=?_) #[true,true,true,true,true,false,false,false,false] rfl rfl (by kernel_rfl) (fun _ _ _ h=>h) (Or.inl ⟨by rfl,?_⟩) hHeld ?_ ?_
      rotate_left
      · rintro w' ⟨hs0,hs1⟩
        go_simp
        with_reducible rfl
      rotate_left
      · simp only[Act.put,List.setIfInBounds_toArray,List.set_cons_zero,List.set_cons_succ]
        rfl
      refine dK (i:=5) (N:=some 21) (v:=?_) (a':=?_) #[true,true,true,true,true,true,false,false,false] rfl rfl (by kernel_rfl) (fun _ _ _ h=>h) (Or.inl ⟨by rfl,?_⟩) hHeld ?_ ?_
      rotate_left
      · rintro w' ⟨hs0,hs1⟩
        go_simp
        with_reducible rfl
      rotate_left
      · simp only[Act.put,List.setIfInBounds_toArray,List.set_cons_zero,List.set_cons_succ]
        rfl
      refine dK (i:=6) (N:=some 22) (v:=?_) (a':=?_) #[true,true,true,true,true,true,true,false,false] rfl rfl (by kernel_rfl) (fun _ _ _ h=>h) (Or.inl ⟨by rfl,?_⟩) hHeld ?_ ?_
      rotate_left
      · rintro w' ⟨hs0,hs1⟩
        go_simp
        with_reducible rfl
      rotate_left
      · simp only[Act.put,List.setIfInBounds_toArray,List.set_cons_zero,List.set_cons_succ]
        rfl
      refine dK (i:=7) (N:=some 23) (v:=?_) (a':=?_) #[true,true,true,true,true,true,true,true,false] rfl rfl (by kernel_rfl) (fun _ _ _ h=>h) (Or.inl ⟨by rfl,?_⟩) hHeld ?_ ?_
      rotate_left
      · rintro w' ⟨hs0,hs1⟩
        go_simp
        with_reducible rfl
      rotate_left
      · simp only[Act.put,List.setIfInBounds_toArray,List.set_cons_zero,List.set_cons_succ]
        rfl
      refine dK (i:=8) (N:=some 24) (v:=?_) (a':=?_) #[true,true,true,true,true,true,true,true,true] rfl rfl (by kernel_rfl) (fun _ _ _ h=>h) (Or.inl ⟨by rfl,?_⟩) hHeld ?_ ?_
      rotate_left
      · rintro w' ⟨hs0,hs1⟩
        go_simp
        with_reducible rfl
      rotate_left
      · simp only[Act.put,List.setIfInBounds_toArray,List.set_cons_zero,List.set_cons_succ]
        rfl
      refine tV (by kernel_rfl) ?_
      clear hc0 hc1 hHeld
      go_wp2
      · exact hno'.out _ (by simpa using (show(x0 != y0)=true by assumption)) (hu.drew)
      · go_roundw
        case rel=>exact⟨k+1,by omega,by go_num,hstep.out (by simpa using (show(x0 != y0)=false by assumption)),hu.drew⟩
        case measure=>simp[intOf];omega
    · have hj3:k=xs.length:=by omega
      have H3:=Lib.hid hj3
      rw[hj3] at hpre
      clear hj3 hhx hhy
      go_wp2
      exact hyes _ hpre hu
theorem B9{m m':Md}{u v:Value}{xs ys:List Bool}{w:World}(hx:j6 m w u xs)(hy:j6 m' w v ys) : Calls Tryz.prog 134 #[u,v] w (ec (decide (xs=ys)) w):=by
  have hhx:=hx
  have hhy:=hy
  obtain⟨A,c,rfl,hc1,hc2⟩:=hx.shape
  obtain⟨B,c',rfl,j8,jJ⟩:=hy.shape
  have hn:xs.length≤9223372036854775807:=by have:=hc2;unfold maxLen at this;omega
  by_cases hl:xs.length=ys.length
  case neg =>
    have hno:∀ W,aH [] w W→ec (decide (xs=ys)) w (.returned (.bool false)) W:=by
      intro W hW
      rw[decide_eq_false (fun h=>hl (by rw[h]))]
      exact⟨rfl,hW⟩
    have hli:((xs.length:Int)!=(ys.length:Int))=true:=by simp;omega
    clear hx hy hhx hhy hl
    go_enter Tryz.func134,Tryz.ntmps134
    go_wp2
    go_ret
    exact hno _ (aH.refl _ _)
  have hno:∀ W k,xs.getD k false≠ys.getD k false→aH [] w W→ec (decide (xs=ys)) w (.returned (.bool false)) W:=by
    intro W k hk hW
    rw[decide_eq_false (vF k hk)]
    exact⟨rfl,hW⟩
  have hyes:∀ W,xs.take xs.length=ys.take xs.length→aH [] w W→ec (decide (xs=ys)) w (.returned (.bool true)) W:=by
    intro W hk hW
    rw[List.take_length,hl,List.take_length] at hk
    rw[decide_eq_true hk]
    exact⟨rfl,hW⟩
  revert hno hyes
  generalize ec (decide (xs=ys)) w=P
  intro hno hyes
  have hli:((xs.length:Int)!=(ys.length:Int))=false:=by simp;omega
  have hL:=Lib.hid hl
  clear hx hy hl
  go_enter Tryz.func134,Tryz.ntmps134
  go_wp2
  go_loopw [13] (fun i wr=>∃ k:Nat,k≤xs.length∧i = .int .i64 (k:Int)∧xs.take k=ys.take k∧aH [] w wr) (fun i _=>xs.length-(intOf i).toNat)
  case atStart=>exact⟨0,by omega,rfl,by simp,aH.refl _ _⟩
  case round =>
    obtain⟨k,hk,rfl,hpre,hu⟩:=hrel
    by_cases hlt:k<xs.length
    · obtain⟨b,off,rfl,cw0⟩:=j6.at_ hhx k hlt
      obtain⟨b',off',rfl,cw1⟩:=j6.at_ hhy k (by have:=hL.out;omega)
      have hlt':k<ys.length:=by have:=hL.out;omega
      have hstep:=fun h=>oW (d:=false) hL.out hlt hpre h
      have hno':=fun W h=>hno W k h
      revert cw0 cw1 hstep hno'
      generalize xs.getD k false=x0
      generalize ys.getD k false=y0
      intro cw0 cw1 hstep hno'
      have hc0:=hu.cell (by simp) cw0
      have hc1:=hu.cell (by simp) cw1
      have hstep:=Lib.hid hstep
      have hno':=Lib.hid hno'
      clear cw0 cw1 hhx hhy hpre hno hyes
      have hc0:wr.drew.cell? ⟨b,off+k,none⟩=some (.bool x0):=hc0
      have hc1:wr.drew.cell? ⟨b',off'+k,none⟩=some (.bool y0):=hc1
      go_wp2
      refine qQ (S:=fun w'=>w'.cell? ⟨b,off+k,none⟩=some (.bool x0)∧w'.cell? ⟨b',off'+k,none⟩=some (.bool y0)) (n:=9) #[false,false,false,false,false,false,false,false,false] (by kernel_rfl) rfl rfl ⟨hc0,hc1⟩ (fun hHeld=>?_)
      refine dK (i:=0) (N:=some 16) (v:=?_) (a':=?_) #[true,false,false,false,false,false,false,false,false] rfl rfl (by kernel_rfl) (fun _ _ _ h=>h) (Or.inl ⟨by rfl,?_⟩) hHeld ?_ ?_
      rotate_left
      · rintro w' ⟨hs0,hs1⟩
        go_simp
        with_reducible rfl
      rotate_left
      · simp only[Act.put,List.setIfInBounds_toArray,List.set_cons_zero,List.set_cons_succ]
        rfl
      refine dK (i:=1) (N:=some 17) (v:=?_) (a':=?_) #[true,true,false,false,false,false,false,false,false] rfl rfl (by kernel_rfl) (fun _ _ _ h=>h) (Or.inl ⟨by rfl,?_⟩) hHeld ?_ ?_
      rotate_left
      · rintro w' ⟨hs0,hs1⟩
        go_simp
        with_reducible rfl
      rotate_left
      · simp only[Act.put,List.setIfInBounds_toArray,List.set_cons_zero,List.set_cons_succ]
        rfl
      refine dK (i:=2) (N:=some 18) (v:=?_) (a':=?_) #[true,true,true,false,false,false,false,false,false] rfl rfl (by kernel_rfl) (fun _ _ _ h=>h) (Or.inl ⟨by rfl,?_⟩) hHeld ?_ ?_
      rotate_left
      · rintro w' ⟨hs0,hs1⟩
        go_simp
        with_reducible rfl
      rotate_left
      · simp only[Act.put,List.setIfInBounds_toArray,List.set_cons_zero,List.set_cons_succ]
        rfl
      refine dK (i:=3) (N:=some 19) (v:=?_) (a':=?_) #[true,true,true,true,false,false,false,false,false] rfl rfl (by kernel_rfl) (fun _ _ _ h=>h) (Or.inl ⟨by rfl,?_⟩) hHeld ?_ ?_
      rotate_left
      · rintro w' ⟨hs0,hs1⟩
        go_simp
        with_reducible rfl
      rotate_left
      · simp only[Act.put,List.setIfInBounds_toArray,List.set_cons_zero,List.set_cons_succ]
        rfl
      refine dK (i:=4) (N:=some 20) (v:=?_) (a':=?_) #[true,true,true,true,true,false,false,false,false] rfl rfl (by kernel_rfl) (fun _ _ _ h=>h) (Or.inl ⟨by rfl,?_⟩) hHeld ?_ ?_
      rotate_left
      · rintro w' ⟨hs0,hs1⟩
        go_simp
        with_reducible rfl
      rotate_left
      · simp only[Act.put,List.setIfInBounds_toArray,List.set_cons_zero,List.set_cons_succ]
        rfl
      refine dK (i:=5) (N:=some 21) (v:=?_) (a':=?_) #[true,true,true,true,true,true,false,false,false] rfl rfl (by kernel_rfl) (fun _ _ _ h=>h) (Or.inl ⟨by rfl,?_⟩) hHeld ?_ ?_
      rotate_left
      · rintro w' ⟨hs0,hs1⟩
        go_simp
        with_reducible rfl
      rotate_left
      · simp only[Act.put,List.setIfInBounds_toArray,List.set_cons_zero,List.set_cons_succ]
        rfl
      refine dK (i:=6) (N:=some 22) (v:=?_) (a':=?_) #[true,true,true,true,true,true,true,false,false] rfl rfl (by kernel_rfl) (fun _ _ _ h=>h) (Or.inl ⟨by rfl,?_⟩) hHeld ?_ ?_
      rotate_left
      · rintro w' ⟨hs0,hs1⟩
        go_simp
        with_reducible rfl
      rotate_left
      · simp only[Act.put,List.setIfInBounds_toArray,List.set_cons_zero,List.set_cons_succ]
        rfl
      refine dK (i:=7) (N:=some 23) (v:=?_) (a':=?_) #[true,true,true,true,true,true,true,true,false] rfl rfl (by kernel_rfl) (fun _ _ _ h=>h) (Or.inl ⟨by rfl,?_⟩) hHeld ?_ ?_
      rotate_left
      · rintro w' ⟨hs0,hs1⟩
        go_simp
        with_reducible rfl
      rotate_left
      · simp only[Act.put,List.setIfInBounds_toArray,List.set_cons_zero,List.set_cons_succ]
        rfl
      refine dK (i:=8) (N:=some 24) (v:=?_) (a':=?_) #[true,true,true,true,true,true,true,true,true] rfl rfl (by kernel_rfl) (fun _ _ _ h=>h) (Or.inl ⟨by rfl,?_⟩) hHeld ?_ ?_
      rotate_left
      · rintro w' ⟨hs0,hs1⟩
        go_simp
        with_reducible rfl
      rotate_left
      · simp only[Act.put,List.setIfInBounds_toArray,List.set_cons_zero,List.set_cons_succ]
        rfl
      refine tV (by kernel_rfl) ?_
      clear hc0 hc1 hHeld
      go_wp2
      · exact hno'.out _ (by simpa using (show(x0 != y0)=true by assumption)) (hu.drew)
      · go_roundw
        case rel=>exact⟨k+1,by omega,by go_num,hstep.out (by simpa using (show(x0 != y0)=false by assumption)),hu.drew⟩
        case measure=>simp[intOf];omega
    · have hj3:k=xs.length:=by omega
      have H3:=Lib.hid hj3
      rw[hj3] at hpre
      clear hj3 hhx hhy
      go_wp2
      exact hyes _ hpre hu
open Go.RowKit
theorem aZ.cells{m:Md}{w:World}{A:Option Addr}{n c:Nat}{xs:List Int}(h:aZ m w (.slice A n c) xs) : (A=none∧xs=[])∨xs=[]∨∃ b off,A=some ⟨b,off,none⟩∧∀ i,i<xs.length→w.cell? ⟨b,off+i,none⟩=some (.int .u8 (xs.getD i 0)):=by
  by_cases h0:xs=[]
  · exact .inr (.inl h0)
  · have hl:0<xs.length:=List.length_pos_iff.2 h0
    obtain⟨b,off,rfl,_⟩:=aZ.at_ h 0 hl
    refine .inr (.inr ⟨b,off,rfl,fun i hi=>?_⟩)
    obtain⟨b',off',hA,hc,_⟩:=aZ.at_ h i hi
    injection hA with hA
    injection hA with h1 h2
    subst h1 h2
    exact hc
theorem uf{m:Md}{w:World}{v:Value}{xs:List Int}(h:aZ m w v xs) : (convert 27 9 v).run Tryz.prog w = .ok (.string (strOfNums xs)) w:=by
  have hh:=h
  obtain⟨A,c,rfl,h1,h2,h0,h3⟩:=hh
  rcases Nat.eq_zero_or_pos xs.length with hz|hz
  · obtain rfl:xs=[]:=List.eq_nil_of_length_eq_zero hz
    cases A with
    | none=>exact run_convert_bytes_nil w _ _ Tryz.underlying27 Tryz.underlying5 _ _ _ Tryz.underlying9
    | some a =>
      rw[run_convert_bytes_string w _ _ _ _ _ _ Tryz.underlying27 Tryz.underlying5 Tryz.underlying9]
      rw[run_bytesToString w a _ c [] (by simp[loadCells,loadCellsFrom,Sem.run_pure])]
      rfl
  · obtain⟨b,off,cells,t,fr,rfl,hb,ht,hx⟩:=h3 hz
    exact run_convert_bytes_arg w _ _ Tryz.underlying27 Tryz.underlying5 b off _ c xs rfl (fun i hi=>by
      obtain⟨b',off',hA,hc,_⟩:=aZ.at_ h i hi
      injection hA with hA
      injection hA with h1 h2
      subst h1 h2
      exact hc) _ Tryz.underlying9
theorem tH:∀ {xs ys:List Int},(∀ x,x∈xs→0≤x∧x<256)→(∀ x,x∈ys→0≤x∧x<256)→(xs.map fun n=>UInt8.ofNat n.toNat)=(ys.map fun n=>UInt8.ofNat n.toNat)→xs=ys
  | [],[],_,_,_=>rfl
  | [],_ :: _,_,_,h=>by simp at h
  | _ :: _,[],_,_,h=>by simp at h
  | x :: xs,y :: ys,hx,hy,h=>by
    simp only[List.map_cons,List.cons.injEq] at h
    have h1:=hx x (by simp)
    have h2:=hy y (by simp)
    have h3:x=y:=by
      have:=congrArg UInt8.toNat h.1
      simp at this
      omega
    rw[h3,tH (fun z hz=>hx z (by simp[hz])) (fun z hz=>hy z (by simp[hz])) h.2]
theorem ux{m m':Md}{w w' W:World}{u v:Value}{xs ys:List Int}(hx:aZ m w u xs)(hy:aZ m' w' v ys) : (binOp .eql 9 (.string (strOfNums xs)) (.string (strOfNums ys))).run Tryz.prog W = .ok (.bool (decide (xs=ys))) W:=by
  have e:((strOfNums xs).toList==(strOfNums ys).toList)=decide (xs=ys):=by
    by_cases h:xs=ys
    · subst h;simp
    · rw[decide_eq_false h,beq_eq_false_iff_ne]
      intro h2
      rw[ByteArray.toList_eq,ByteArray.toList_eq] at h2
      exact h (tH hx.rng hy.rng h2)
  rw[binOp_string_eql,e]
  rfl
theorem Bc{A B:dx}:decide (A=B)=(decide (A.file=B.file)&&(decide (A.record=B.record)&&(decide (A.count=B.count)&&decide (A.words=B.words)))):=by
  rw[Bool.eq_iff_iff]
  cases A;cases B
  simp
theorem AI{m m':Md}{ca cb:List Value}{A B:dx}{w:World}(ha:bI m w A ca)(hb:bI m' w B cb) : Calls Tryz.prog 136 #[.agg ca.toArray,.agg cb.toArray] w (ec (decide (A=B)) w):=by
  obtain⟨va,rfl,hwa,hra⟩:=ha
  obtain⟨vb,rfl,hwb,hrb⟩:=hb
  rw[Bc]
  generalize A.file=f1 at *
  generalize A.record=f2 at *
  generalize A.count=f3 at *
  generalize A.words=f4 at *
  generalize B.file=g1 at *
  generalize B.record=g2 at *
  generalize B.count=g3 at *
  generalize B.words=g4 at *
  clear hra hrb
  have hpost:∀ W,aH [] w W→ec (decide (f1=g1)&&(decide (f2=g2)&&(decide (f3=g3)&&decide (f4=g4)))) w (.returned (.bool (decide (f1=g1)&&(decide (f2=g2)&&(decide (f3=g3)&&decide (f4=g4)))))) W:=fun W h=>⟨rfl,h⟩
  revert hpost
  generalize ec (decide (f1=g1)&&(decide (f2=g2)&&(decide (f3=g3)&&decide (f4=g4)))) w=P
  intro hpost
  by_cases h1:f1=g1
  case neg =>
    have e:(decide (f1=g1)&&(decide (f2=g2)&&(decide (f3=g3)&&decide (f4=g4))))=false:=by simp[h1]
    rw[e] at hpost
    have e1:(f1==g1)=false:=by simpa using h1
    clear h1 e hwa hwb
    replace hpost:=Lib.hid hpost
    go_enter Tryz.func136,Tryz.ntmps136
    go_wp2
    exact hpost.out _ (((aH.refl [] w).alloc _).alloc _)
  subst h1
  by_cases h1:f2=g2
  case neg =>
    have e:(decide (f1=f1)&&(decide (f2=g2)&&(decide (f3=g3)&&decide (f4=g4))))=false:=by simp[h1]
    rw[e] at hpost
    have e1:(f2==g2)=false:=by simpa using h1
    clear h1 e hwa hwb
    replace hpost:=Lib.hid hpost
    go_enter Tryz.func136,Tryz.ntmps136
    go_wp2
    exact hpost.out _ (((aH.refl [] w).alloc _).alloc _)
  subst h1
  by_cases h1:f3=g3
  case neg =>
    have e:(decide (f1=f1)&&(decide (f2=f2)&&(decide (f3=g3)&&decide (f4=g4))))=false:=by simp[h1]
    rw[e] at hpost
    have e1:(f3==g3)=false:=by simpa using h1
    clear h1 e hwa hwb
    replace hpost:=Lib.hid hpost
    go_enter Tryz.func136,Tryz.ntmps136
    go_wp2
    exact hpost.out _ (((aH.refl [] w).alloc _).alloc _)
  subst h1
  have e:(decide (f1=f1)&&(decide (f2=f2)&&(decide (f3=f3)&&decide (f4=g4))))=decide (f4=g4):=by simp
  rw[e] at hpost
  clear e
  have hcall:=fun(W:World) (h:aH [] w W)=>uj (hwa.old h) (hwb.old h)
  replace hpost:=Lib.hid hpost
  go_enter Tryz.func136,Tryz.ntmps136
  go_wp2_with (go_at_call 133;refine(hcall _ (((aH.refl [] w).alloc _).alloc _)).mono ?_;rintro e w1 ⟨rfl,hu1⟩)
  exact hpost.out _ ((((aH.refl [] w).alloc _).alloc _).step hu1)
theorem Ak{A B:Obj}:decide (A=B)=(decide (A.id=B.id)&&decide (A.value=B.value)):=by
  rw[Bool.eq_iff_iff]
  cases A;cases B
  simp
theorem tt{m m':Md}{ca cb:List Value}{A B:Obj}{w:World}(ha:dw m w A ca)(hb:dw m' w B cb) : Calls Tryz.prog 138 #[.agg ca.toArray,.agg cb.toArray] w (ec (decide (A=B)) w):=by
  obtain⟨va,rfl,hwa,hra⟩:=ha
  obtain⟨vb,rfl,hwb,hrb⟩:=hb
  rw[Ak]
  generalize A.id=f1 at *
  generalize A.value=f4 at *
  generalize B.id=g1 at *
  generalize B.value=g4 at *
  clear hra hrb
  have hpost:∀ W,aH [] w W→ec (decide (f1=g1)&&decide (f4=g4)) w (.returned (.bool (decide (f1=g1)&&decide (f4=g4)))) W:=fun W h=>⟨rfl,h⟩
  revert hpost
  generalize ec (decide (f1=g1)&&decide (f4=g4)) w=P
  intro hpost
  by_cases h1:f1=g1
  case neg =>
    have e:(decide (f1=g1)&&decide (f4=g4))=false:=by simp[h1]
    rw[e] at hpost
    have e1:(f1==g1)=false:=by simpa using h1
    clear h1 e hwa hwb
    replace hpost:=Lib.hid hpost
    go_enter Tryz.func138,Tryz.ntmps138
    go_wp2
    exact hpost.out _ (((aH.refl [] w).alloc _).alloc _)
  subst h1
  have e:(decide (f1=f1)&&decide (f4=g4))=decide (f4=g4):=by simp
  rw[e] at hpost
  have hu0:aH [] w ((w.alloc (.cells #[.int .u8 f1,va] 100)).alloc (.cells #[.int .u8 f1,vb] 100)):=((aH.refl [] w).alloc _).alloc _
  have c1:=uf (hwa.old hu0)
  have c2:=uf (hwb.old hu0)
  have c3:=ux (hwa.old hu0) (hwb.old hu0) (W:=(w.alloc (.cells #[.int .u8 f1,va] 100)).alloc (.cells #[.int .u8 f1,vb] 100))
  replace hpost:=hpost _ hu0
  generalize strOfNums f4=s1 at *
  generalize strOfNums g4=s2 at *
  generalize decide (f4=g4)=D at *
  clear hu0 hwa hwb e
  rw[binOp_string_eql] at c3
  have c4:(s1.toList==s2.toList)=D:=by simpa [Sem.run_pure] using c3
  clear c3
  replace hpost:=Lib.hid hpost
  go_enter Tryz.func138,Tryz.ntmps138
  go_wp2
  exact hpost.out
open Go.RowKit
theorem aS.at_{α:Type}{m:Md}{e:TypeId}{sz:Nat}{R:World→α→List Value→Prop}{w:World}{A:Option Addr}{n c:Nat}{xs:List α}(h:aS m e sz R w (.slice A n c) xs)(d:α)(j:Nat)(hj:j<xs.length) :
    ∃ b off cs,A=some ⟨b,off,none⟩∧w.rangeAt b (off+j*sz) cs∧R w (xs.getD j d) cs∧cs.length=sz:=by
  obtain⟨A',c',hv,h1,h2,h0,h3⟩:=h
  injection hv with e1 e2 e3
  subst e1 e3
  obtain⟨b,off,cells,t,fr,rfl,hb,ht,hx⟩:=h3 (by omega)
  obtain⟨cs,h4,h5,h6⟩:=hx j (xs.getD j d) (by simp[List.getD_eq_getElem?_getD,List.getElem?_eq_getElem hj])
  exact⟨b,off,cs,rfl,fun i u hi=>by rw[bF hb];exact h6 i u hi,h5,h4⟩
theorem bI.upd0{m:Md}{w w':World}(hu:aH [] w w'){r:dx}{cs:List Value}(h:bI m w r cs) : bI m w' r cs:=bI.upd hu (dv.nil _ _ _) r cs h
theorem dw.upd0{m:Md}{w w':World}(hu:aH [] w w'){r:Obj}{cs:List Value}(h:dw m w r cs) : dw m w' r cs:=dw.upd hu (dv.nil _ _ _) r cs h
theorem gj{w w':World}{b o:Nat}{cs:List Value}(h:w.rangeAt b o cs){S:List Nat}(hu:aH S w w')(hb:b∉S) : w'.rangeAt b o cs:=fun j v hj=>hu.cell hb (h j v hj)
theorem rW:(Tryz.prog.info? 98).map (·.zero)=some (some (.agg #[.int .u16 0,.int .u16 0,.int .u16 0,.slice none 0 0])):=by kernel_rfl
theorem ij:(Tryz.prog.info? 98).map (·.size)=some 4:=by kernel_rfl
theorem rC:(Tryz.prog.info? 100).map (·.zero)=some (some (.agg #[.int .u8 0,.slice none 0 0])):=by kernel_rfl
theorem i5:(Tryz.prog.info? 100).map (·.size)=some 2:=by kernel_rfl
theorem bI.one{m:Md}{w:World}{r:dx}{cs:List Value}(h:bI m w r cs) : cs.toArray.all (·.oneCell')=true∧cs.length=4:=by
  obtain⟨v,rfl,h1,_⟩:=h
  obtain⟨A,c,rfl,_⟩:=h1
  exact⟨by simp[Value.oneCell'],rfl⟩
theorem dw.one{m:Md}{w:World}{r:Obj}{cs:List Value}(h:dw m w r cs) : cs.toArray.all (·.oneCell')=true∧cs.length=2:=by
  obtain⟨v,rfl,h1,_⟩:=h
  obtain⟨A,c,rfl,_⟩:=h1
  exact⟨by simp[Value.oneCell'],rfl⟩
theorem zF{m m':Md}{u v:Value}{xs ys:List dx}{w:World}(hx:nc m w u xs)(hy:nc m' w v ys) :
    Calls Tryz.prog 135 #[u,v,.func (.func 136) #[] #[]] w (ec (decide (xs=ys)) w):=by
  have hhx:=hx
  have hhy:=hy
  obtain⟨A,c,rfl,hc1,hc2⟩:=hx.shape
  obtain⟨B,c',rfl,j8,jJ⟩:=hy.shape
  have hn:xs.length≤9223372036854775807:=by have:=hc2;unfold maxLen at this;omega
  by_cases hl:xs.length=ys.length
  case neg =>
    have hno:∀ W,aH [] w W→ec (decide (xs=ys)) w (.returned (.bool false)) W:=by
      intro W hW
      rw[decide_eq_false (fun h=>hl (by rw[h]))]
      exact⟨rfl,hW⟩
    have hli:((xs.length:Int)!=(ys.length:Int))=true:=by simp;omega
    clear hx hy hhx hhy hl
    go_enter Tryz.func135,Tryz.ntmps135
    go_wp2
    go_ret
    exact hno _ (aH.refl _ _)
  have hno:∀ W k,xs.getD k ⟨0,0,0,[]⟩≠ys.getD k ⟨0,0,0,[]⟩→aH [] w W→ec (decide (xs=ys)) w (.returned (.bool false)) W:=by
    intro W k hk hW
    rw[decide_eq_false (vF k hk)]
    exact⟨rfl,hW⟩
  have hyes:∀ W,xs.take xs.length=ys.take xs.length→aH [] w W→ec (decide (xs=ys)) w (.returned (.bool true)) W:=by
    intro W hk hW
    rw[List.take_length,hl,List.take_length] at hk
    rw[decide_eq_true hk]
    exact⟨rfl,hW⟩
  revert hno hyes
  generalize ec (decide (xs=ys)) w=P
  intro hno hyes
  have hli:((xs.length:Int)!=(ys.length:Int))=false:=by simp;omega
  have hL:=Lib.hid hl
  clear hx hy hl
  go_enter Tryz.func135,Tryz.ntmps135
  go_wp2
  go_loopw [17] (fun i wr=>∃ k:Nat,k≤xs.length∧i = .int .i64 (k:Int)∧xs.take k=ys.take k∧aH [] w wr) (fun i _=>xs.length-(intOf i).toNat)
  case atStart=>exact⟨0,by omega,rfl,by simp,aH.refl _ _⟩
  case round =>
    obtain⟨k,hk,rfl,hpre,hu⟩:=hrel
    by_cases hlt:k<xs.length
    · obtain⟨b,off,ca,rfl,cw0,hr0,hl0⟩:=aS.at_ hhx ⟨0,0,0,[]⟩ k hlt
      obtain⟨b',off',cb,rfl,cw1,hr1,hl1⟩:=aS.at_ hhy ⟨0,0,0,[]⟩ k (by have:=hL.out;omega)
      have hlt':k<ys.length:=by have:=hL.out;omega
      have hstep:=fun h=>oW (d:=⟨0,0,0,[]⟩) hL.out hlt hpre h
      have hno':=fun W h=>hno W k h
      revert hstep hno' hr0 hr1
      generalize xs.getD k ⟨0,0,0,[]⟩=x0
      generalize ys.getD k ⟨0,0,0,[]⟩=y0
      intro hr0 hr1 hstep hno'
      have hc0:=Lib.hid (gj cw0 hu (by simp))
      have hc1:=Lib.hid (gj cw1 hu (by simp))
      replace hstep:=Lib.hid hstep
      replace hno':=Lib.hid hno'
      have ha:=Lib.hid hr0
      have hb:=Lib.hid hr1
      clear cw0 cw1 hhx hhy hpre hno hyes hr0 hr1
      have tok1_0:True:=trivial
      have tok1_1:True:=trivial
      have tok1_2:True:=trivial
      have tok1_3:True:=trivial
      have tok1_4:True:=trivial
      have tok1_5:True:=trivial
      have tok1_6:True:=trivial
      have tok1_7:True:=trivial
      have tok1_8:True:=trivial
      go_wp2_with (first | (have _t:=tok1_0;refine wpList_load_mid rfl 98 _ rfl b (off+k*4) rfl ca _ hc0.out Tryz.underlying98 rfl (by rw[hl0];exact ij) ?_;clear _t tok1_0) | (have _t:=tok1_1;refine ig rfl 98 rfl _ rW ?_;intro g1 w1 hg1 hB1 hu1;clear _t tok1_1) | (have _t:=tok1_2;refine i6 rfl 98 _ _ rfl g1 rfl ca.toArray rfl _ _ hB1 (by simp only[List.size_toArray,hl0];exact ij) (by simp only[List.size_toArray,hl0];rfl) (bI.one ha.out).1 ?_;intro w2 hB2 hu2;have U2:=hu1.fresh1 hu2 hg1;clear _t tok1_2) | (have _t:=tok1_3;refine wpList_load_mid rfl 98 _ rfl b' (off'+k*4) rfl cb _ (gj hc1.out U2 (by simp)) Tryz.underlying98 rfl (by rw[hl1];exact ij) ?_;clear _t tok1_3) | (have _t:=tok1_4;refine ig rfl 98 rfl _ rW ?_;intro g3 w3 hg3 hB3 hu3;clear _t tok1_4) | (have _t:=tok1_5;refine i6 rfl 98 _ _ rfl g3 rfl cb.toArray rfl _ _ hB3 (by simp only[List.size_toArray,hl1];exact ij) (by simp only[List.size_toArray,hl1];rfl) (bI.one hb.out).1 ?_;intro w4 hB4 hu4;have U4:=hu3.fresh1 hu4 hg3;have a:=U4.blk (by simp) hB2;have V4:=hu.step (U2.step U4);clear _t tok1_5) | (have _t:=tok1_6;refine wpList_load_row rfl 98 _ rfl g1 rfl _ _ _ _ a Tryz.underlying98 rfl (by simp only[List.size_toArray,hl0];exact ij) ?_;clear _t tok1_6) | (have _t:=tok1_7;refine wpList_load_row rfl 98 _ rfl g3 rfl _ _ _ _ hB4 Tryz.underlying98 rfl (by simp only[List.size_toArray,hl1];exact ij) ?_;clear _t tok1_7) | (have _t:=tok1_8;go_at_call 136;refine(AI (bI.upd0 V4 ha.out) (bI.upd0 V4 hb.out)).mono ?_;rintro e w5 ⟨rfl,hu5⟩;generalize hD:decide (x0=y0)=D;have HD:=Lib.hid hD;clear hD a hB4;clear _t tok1_8))
      · have hD0:(!D)=true:=by assumption
        exact hno'.out _ (by have:=HD.out;intro h;rw[← this,h] at hD0;simp at hD0) (V4.step hu5)
      · have hD0:(!D)=false:=by assumption
        have hxy:x0=y0:=by have:=HD.out;rw[← this] at hD0;simpa using hD0
        go_roundw
        case rel=>exact⟨k+1,by omega,by go_num,hstep.out hxy,V4.step hu5⟩
        case measure=>simp[intOf];omega
    · have hj3:k=xs.length:=by omega
      have H3:=Lib.hid hj3
      rw[hj3] at hpre
      clear hj3 hhx hhy
      go_wp2
      exact hyes _ hpre hu
theorem zO{m m':Md}{u v:Value}{xs ys:List Obj}{w:World}(hx:o0 m w u xs)(hy:o0 m' w v ys) :
    Calls Tryz.prog 137 #[u,v,.func (.func 138) #[] #[]] w (ec (decide (xs=ys)) w):=by
  have hhx:=hx
  have hhy:=hy
  obtain⟨A,c,rfl,hc1,hc2⟩:=hx.shape
  obtain⟨B,c',rfl,j8,jJ⟩:=hy.shape
  have hn:xs.length≤9223372036854775807:=by have:=hc2;unfold maxLen at this;omega
  by_cases hl:xs.length=ys.length
  case neg =>
    have hno:∀ W,aH [] w W→ec (decide (xs=ys)) w (.returned (.bool false)) W:=by
      intro W hW
      rw[decide_eq_false (fun h=>hl (by rw[h]))]
      exact⟨rfl,hW⟩
    have hli:((xs.length:Int)!=(ys.length:Int))=true:=by simp;omega
    clear hx hy hhx hhy hl
    go_enter Tryz.func137,Tryz.ntmps137
    go_wp2
    go_ret
    exact hno _ (aH.refl _ _)
  have hno:∀ W k,xs.getD k ⟨0,[]⟩≠ys.getD k ⟨0,[]⟩→aH [] w W→ec (decide (xs=ys)) w (.returned (.bool false)) W:=by
    intro W k hk hW
    rw[decide_eq_false (vF k hk)]
    exact⟨rfl,hW⟩
  have hyes:∀ W,xs.take xs.length=ys.take xs.length→aH [] w W→ec (decide (xs=ys)) w (.returned (.bool true)) W:=by
    intro W hk hW
    rw[List.take_length,hl,List.take_length] at hk
    rw[decide_eq_true hk]
    exact⟨rfl,hW⟩
  revert hno hyes
  generalize ec (decide (xs=ys)) w=P
  intro hno hyes
  have hli:((xs.length:Int)!=(ys.length:Int))=false:=by simp;omega
  have hL:=Lib.hid hl
  clear hx hy hl
  go_enter Tryz.func137,Tryz.ntmps137
  go_wp2
  go_loopw [17] (fun i wr=>∃ k:Nat,k≤xs.length∧i = .int .i64 (k:Int)∧xs.take k=ys.take k∧aH [] w wr) (fun i _=>xs.length-(intOf i).toNat)
  case atStart=>exact⟨0,by omega,rfl,by simp,aH.refl _ _⟩
  case round =>
    obtain⟨k,hk,rfl,hpre,hu⟩:=hrel
    by_cases hlt:k<xs.length
    · obtain⟨b,off,ca,rfl,cw0,hr0,hl0⟩:=aS.at_ hhx ⟨0,[]⟩ k hlt
      obtain⟨b',off',cb,rfl,cw1,hr1,hl1⟩:=aS.at_ hhy ⟨0,[]⟩ k (by have:=hL.out;omega)
      have hlt':k<ys.length:=by have:=hL.out;omega
      have hstep:=fun h=>oW (d:=⟨0,[]⟩) hL.out hlt hpre h
      have hno':=fun W h=>hno W k h
      revert hstep hno' hr0 hr1
      generalize xs.getD k ⟨0,[]⟩=x0
      generalize ys.getD k ⟨0,[]⟩=y0
      intro hr0 hr1 hstep hno'
      have hc0:=Lib.hid (gj cw0 hu (by simp))
      have hc1:=Lib.hid (gj cw1 hu (by simp))
      replace hstep:=Lib.hid hstep
      replace hno':=Lib.hid hno'
      have ha:=Lib.hid hr0
      have hb:=Lib.hid hr1
      clear cw0 cw1 hhx hhy hpre hno hyes hr0 hr1
      have tok2_0:True:=trivial
      have tok2_1:True:=trivial
      have tok2_2:True:=trivial
      have tok2_3:True:=trivial
      have tok2_4:True:=trivial
      have tok2_5:True:=trivial
      have tok2_6:True:=trivial
      have tok2_7:True:=trivial
      have tok2_8:True:=trivial
      go_wp2_with (first | (have _t:=tok2_0;refine wpList_load_mid rfl 100 _ rfl b (off+k*2) rfl ca _ hc0.out Tryz.underlying100 rfl (by rw[hl0];exact i5) ?_;clear _t tok2_0) | (have _t:=tok2_1;refine ig rfl 100 rfl _ rC ?_;intro g1 w1 hg1 hB1 hu1;clear _t tok2_1) | (have _t:=tok2_2;refine i6 rfl 100 _ _ rfl g1 rfl ca.toArray rfl _ _ hB1 (by simp only[List.size_toArray,hl0];exact i5) (by simp only[List.size_toArray,hl0];rfl) (dw.one ha.out).1 ?_;intro w2 hB2 hu2;have U2:=hu1.fresh1 hu2 hg1;clear _t tok2_2) | (have _t:=tok2_3;refine wpList_load_mid rfl 100 _ rfl b' (off'+k*2) rfl cb _ (gj hc1.out U2 (by simp)) Tryz.underlying100 rfl (by rw[hl1];exact i5) ?_;clear _t tok2_3) | (have _t:=tok2_4;refine ig rfl 100 rfl _ rC ?_;intro g3 w3 hg3 hB3 hu3;clear _t tok2_4) | (have _t:=tok2_5;refine i6 rfl 100 _ _ rfl g3 rfl cb.toArray rfl _ _ hB3 (by simp only[List.size_toArray,hl1];exact i5) (by simp only[List.size_toArray,hl1];rfl) (dw.one hb.out).1 ?_;intro w4 hB4 hu4;have U4:=hu3.fresh1 hu4 hg3;have a:=U4.blk (by simp) hB2;have V4:=hu.step (U2.step U4);clear _t tok2_5) | (have _t:=tok2_6;refine wpList_load_row rfl 100 _ rfl g1 rfl _ _ _ _ a Tryz.underlying100 rfl (by simp only[List.size_toArray,hl0];exact i5) ?_;clear _t tok2_6) | (have _t:=tok2_7;refine wpList_load_row rfl 100 _ rfl g3 rfl _ _ _ _ hB4 Tryz.underlying100 rfl (by simp only[List.size_toArray,hl1];exact i5) ?_;clear _t tok2_7) | (have _t:=tok2_8;go_at_call 138;refine(tt (dw.upd0 V4 ha.out) (dw.upd0 V4 hb.out)).mono ?_;rintro e w5 ⟨rfl,hu5⟩;generalize hD:decide (x0=y0)=D;have HD:=Lib.hid hD;clear hD a hB4;clear _t tok2_8))
      · have hD0:(!D)=true:=by assumption
        exact hno'.out _ (by have:=HD.out;intro h;rw[← this,h] at hD0;simp at hD0) (V4.step hu5)
      · have hD0:(!D)=false:=by assumption
        have hxy:x0=y0:=by have:=HD.out;rw[← this] at hD0;simpa using hD0
        go_roundw
        case rel=>exact⟨k+1,by omega,by go_num,hstep.out hxy,V4.step hu5⟩
        case measure=>simp[intOf];omega
    · have hj3:k=xs.length:=by omega
      have H3:=Lib.hid hj3
      rw[hj3] at hpre
      clear hj3 hhx hhy
      go_wp2
      exact hyes _ hpre hu
open Go.RowKit
def eA (M:aU) : List Int:=[M.code,M.fail,M.addr,M.count,M.value,M.and_,M.or_,M.addr2,M.sub,M.status,M.events,M.messages,M.mei*256+M.kind,M.level*256+M.more,M.next]
def iA (M:aU) : Array Value:=((eA M).map (Value.int .u16)).toArray
theorem sZ:(Tryz.prog.info? 158).map (·.zero)=some (some (.agg ((List.replicate 15 (Value.int .u16 0)).toArray))):=by kernel_rfl
theorem mQ:(Tryz.prog.info? 158).map (·.size)=some 15:=by kernel_rfl
theorem qH(a0 a1 a2 a3 a4 a5 a6 a7 a8 a9 a b c d e:Int)(w:World) : (Instr.build 158 #[(0,.int .u16 a0),(1,.int .u16 a1),(2,.int .u16 a2),(3,.int .u16 a3),(4,.int .u16 a4),(5,.int .u16 a5),(6,.int .u16 a6),(7,.int .u16 a7),(8,.int .u16 a8),(9,.int .u16 a9),(10,.int .u16 a),(11,.int .u16 b),(12,.int .u16 c),(13,.int .u16 d),(14,.int .u16 e)]).run Tryz.prog w
    = .ok (.agg #[.int .u16 a0,.int .u16 a1,.int .u16 a2,.int .u16 a3,.int .u16 a4,.int .u16 a5,.int .u16 a6,.int .u16 a7,.int .u16 a8,.int .u16 a9,.int .u16 a,.int .u16 b,.int .u16 c,.int .u16 d,.int .u16 e]) w:=by kernel_rfl
theorem xn{P:Program}{fn:Func}{p:Tmp}{ty:TypeId}(h:fn.results = #[.cell p ty]){R:Ending→World→Prop}{a:Act}{w:World}(hd0:a.defers=[])(g:Nat)(t:TypeId)(cs:Array Value)(fr:Nat × Nat)(d:TypeDesc)
    (hp:a.tmps.getD p undef = .pointer (some ⟨g,0,none⟩)) (hg:w.heap[g]? = some (.cells cs t fr))
    (hu:P.underlying ty=some d) (hd:(match d with | .struct _ | .array _ _=>true | _=>false)=true) (hi:(P.info? ty).map (·.size)=some cs.size)
    (hR:R (.returned (.agg cs)) w) : bodyPost P fn R .ret a w:=by
  have hp':a.tmps[p]?.getD undef = .pointer (some ⟨g,0,none⟩):=by simpa using hp
  exact bodyPost_ret (by simp[results,h,hp',asAddr,run_loadVar_row w g t ty cs fr d hg hu hd hi]) hd0 hR
theorem oy{m:Md}{cs:Array Value}{M:aU}{w:World}(h:aJ m w cs.toList M) : Calls Tryz.prog 132 #[.agg cs] w (cl (.agg (iA M)) w):=by
  obtain⟨vw,vb,vd,vr,vo,h0,_,_,_,_,_,hR⟩:=h
  obtain⟨c0,c1,c2,c3,c4,c5,c6,c7,c8,c9,f,i,l1,l2,l3,l4,a,c,b,d,e,l5⟩:=M
  obtain⟨r0,r1,r2,r3,r4,r5,r6,r7,r8,r9,o,p,j,k,l,n,q⟩:=hR
  simp only[B8,eN] at r0 r1 r2 r3 r4 r5 r6 r7 r8 r9 o p j k l n q
  have hpost:∀ W,aH [] w W→cl (.agg (iA ⟨c0,c1,c2,c3,c4,c5,c6,c7,c8,c9,f,i,l1,l2,l3,l4,a,c,b,d,e,l5⟩)) w (.returned (.agg #[.int .u16 c0,.int .u16 c1,.int .u16 c2,.int .u16 c3,.int .u16 c4,.int .u16 c5,.int .u16 c6,.int .u16 c7,.int .u16 c8,.int .u16 c9,.int .u16 f,.int .u16 i,.int .u16 (a*256+c),.int .u16 (b*256+d),.int .u16 e])) W:=fun W hW=>⟨rfl,hW⟩
  revert hpost
  generalize cl (.agg (iA ⟨c0,c1,c2,c3,c4,c5,c6,c7,c8,c9,f,i,l1,l2,l3,l4,a,c,b,d,e,l5⟩)) w=P
  intro hpost
  replace hpost:=Lib.hid hpost
  have w0:IntKind.u16.wrap c0=c0:=by show c0%65536=c0;omega
  have w1:IntKind.u16.wrap c1=c1:=by show c1%65536=c1;omega
  have r:IntKind.u16.wrap a=a:=by show a%65536=a;omega
  have s:IntKind.u16.wrap c=c:=by show c%65536=c;omega
  have t:IntKind.u16.wrap b=b:=by show b%65536=b;omega
  have u:IntKind.u16.wrap d=d:=by show d%65536=d;omega
  have v:IntKind.u16.wrap e=e:=by show e%65536=e;omega
  have x1:IntKind.u16.wrap (a*256)=a*256:=by show(a*256)%65536=a*256;omega
  have x2:IntKind.u16.wrap (b*256)=b*256:=by show(b*256)%65536=b*256;omega
  have o1:=pC j k
  have o2:=pC l n
  have hcs:cs = #[.int .u8 c0,.int .u8 c1,.int .u16 c2,.int .u16 c3,.int .u16 c4,.int .u16 c5,.int .u16 c6,.int .u16 c7,.int .u16 c8,.int .u16 c9,.int .u16 f,.int .u16 i,vw,vb,vd,vr,.int .u8 a,.int .u8 c,.int .u8 b,.int .u8 d,.int .u8 e,vo]:=by
    apply Array.toList_inj.1
    exact h0
  subst hcs
  have hbp:=qH
  clear h0 r0 r1 r2 r3 r4 r5 r6 r7 r8 r9 o p j k l n q
  go_enter Tryz.func132,Tryz.ntmps132
  have tok1_0:True:=trivial
  have tok1_1:True:=trivial
  have tok1_2:True:=trivial
  go_wp2_with (first | (have _t:=tok1_0;refine zP rfl 45 _ rfl (.agg #[.int .u8 c0,.int .u8 c1,.int .u16 c2,.int .u16 c3,.int .u16 c4,.int .u16 c5,.int .u16 c6,.int .u16 c7,.int .u16 c8,.int .u16 c9,.int .u16 f,.int .u16 i,vw,vb,vd,vr,.int .u8 a,.int .u8 c,.int .u8 b,.int .u8 d,.int .u8 e,vo]) rfl ?_;intro g w1 hg hB hu1;clear _t tok1_0) | (have _t:=tok1_1;refine ig rfl 158 rfl _ sZ ?_;intro gp w2 hgp hBp hu2;replace hB:=hu2.blk (by simp) hB;have k0:w2.cell? ⟨g,0,none⟩=some (.int .u8 c0):=(bF hB 0).trans rfl;have k1:w2.cell? ⟨g,1,none⟩=some (.int .u8 c1):=(bF hB 1).trans rfl;have k2:w2.cell? ⟨g,2,none⟩=some (.int .u16 c2):=(bF hB 2).trans rfl;have k3:w2.cell? ⟨g,3,none⟩=some (.int .u16 c3):=(bF hB 3).trans rfl;have k4:w2.cell? ⟨g,4,none⟩=some (.int .u16 c4):=(bF hB 4).trans rfl;have k5:w2.cell? ⟨g,5,none⟩=some (.int .u16 c5):=(bF hB 5).trans rfl;have k6:w2.cell? ⟨g,6,none⟩=some (.int .u16 c6):=(bF hB 6).trans rfl;have k7:w2.cell? ⟨g,7,none⟩=some (.int .u16 c7):=(bF hB 7).trans rfl;have k8:w2.cell? ⟨g,8,none⟩=some (.int .u16 c8):=(bF hB 8).trans rfl;have k9:w2.cell? ⟨g,9,none⟩=some (.int .u16 c9):=(bF hB 9).trans rfl;have x:w2.cell? ⟨g,10,none⟩=some (.int .u16 f):=(bF hB 10).trans rfl;have y:w2.cell? ⟨g,11,none⟩=some (.int .u16 i):=(bF hB 11).trans rfl;have z:w2.cell? ⟨g,16,none⟩=some (.int .u8 a):=(bF hB 16).trans rfl;have A:w2.cell? ⟨g,17,none⟩=some (.int .u8 c):=(bF hB 17).trans rfl;have B:w2.cell? ⟨g,18,none⟩=some (.int .u8 b):=(bF hB 18).trans rfl;have C:w2.cell? ⟨g,19,none⟩=some (.int .u8 d):=(bF hB 19).trans rfl;have D:w2.cell? ⟨g,20,none⟩=some (.int .u8 e):=(bF hB 20).trans rfl;clear hB;clear _t tok1_1) | (have _t:=tok1_2;refine i6 rfl 158 _ _ rfl gp rfl _ rfl _ _ hBp mQ rfl (by simp[Value.oneCell']) ?_;intro w3 hB3 hu3;clear _t tok1_2))
  refine xn rfl rfl gp _ _ _ _ rfl hB3 Tryz.underlying158 rfl mQ ?_
  exact hpost.out _ (hu1.step (hu2.fresh1 hu3 hgp))
open Go.RowKit
theorem jN:∀ (xs ys:List Int),xs.length=ys.length→((List.range xs.length).all fun i=>xs.getD i 0==ys.getD i 0)=(xs==ys)
  | [],[],_=>rfl
  | x :: xs,y :: ys,h=>by
    have ih:=jN xs ys (by simpa using h)
    rw[List.length_cons,List.range_succ_eq_map,List.all_cons,List.all_map]
    simp only[List.getD_cons_zero,Function.comp_def,List.getD_cons_succ,ih]
    simp[List.cons_beq_cons]
  | [],_ :: _,h=>by simp at h
  | _ :: _,[],h=>by simp at h
theorem ph{P:Program}(w:World)(t e:TypeId)(k:IntKind)(n:Nat)(ht:P.underlying t=some (.array n e))(he:P.underlying e=some (.int k))(hsz:∀ w,(sizeOf e).run P w = .ok 1 w)
    (xs ys:List Int) (hx:xs.length=n) (hy:ys.length=n) :
    (binOp .eql t (.agg (xs.map (Value.int k)).toArray) (.agg (ys.map (Value.int k)).toArray)).run P w = .ok (.bool (xs==ys)) w:=by
  rw[run_eql_struct]
  suffices h:(Op.equalIn 10000 t (.agg (xs.map (Value.int k)).toArray) (.agg (ys.map (Value.int k)).toArray)).run P w = .ok (xs==ys) w by
    rw[h]
    rfl
  rw[show(10000:Nat)=9998+2 from rfl]
  rw[← jN xs ys (hx.trans hy.symm),hx,List.range_eq_range',Op.equalIn]
  simp only[Sem.run_bind,run_underlying ht,Result.andThen_ok,hsz,Std.Legacy.Range.forIn_eq_forIn_range',Std.Legacy.Range.size,Nat.sub_zero,Nat.add_sub_cancel,Nat.div_one]
  have hl:∀ i∈List.range' 0 n 1,i<n:=fun i hi=>by simpa using (List.mem_range'_1.1 hi).2
  generalize List.range' 0 n 1=l at hl ⊢
  induction l with
  | nil=>simp
  | cons i l ih =>
    have hi:i<n:=hl i (by simp)
    have px:(part e (xs.map (Value.int k)).toArray (i*1)).run P w = .ok (Value.int k (xs.getD i 0)) w:=by
      simp[part,isAgg,run_underlying he,List.getD,List.getElem?_eq_getElem (show i<xs.length by omega)]
    have py:(part e (ys.map (Value.int k)).toArray (i*1)).run P w = .ok (Value.int k (ys.getD i 0)) w:=by
      simp[part,isAgg,run_underlying he,List.getD,List.getElem?_eq_getElem (show i<ys.length by omega)]
    have pe:(Op.equalIn (9998+1) e (Value.int k (xs.getD i 0)) (Value.int k (ys.getD i 0))).run P w = .ok (xs.getD i 0==ys.getD i 0) w:=run_equalIn_int w 9998 e k k _ _ he
    simp only[List.forIn_cons,Sem.run_bind,px,py,pe,Result.andThen_ok,List.all_cons]
    cases hb:(xs.getD i 0==ys.getD i 0)
    · simp
    · simp only[Bool.not_true,Bool.false_eq_true,if_false,Sem.run_pure,Result.andThen_ok,Bool.true_and]
      exact ih fun j hj=>hl j (by simp[hj])
theorem wF{A B:aU}(ha:fS A)(hb:fS B) : eA A=eA B↔A = { B with words:=A.words,bits:=A.bits,data:=A.data,recs:=A.recs,objects:=A.objects }:=by
  obtain⟨_,_,_,_,_,_,_,_,_,_,_,_,a1,a2,a3,a4,_⟩:=ha
  obtain⟨_,_,_,_,_,_,_,_,_,_,_,_,b1,b2,b3,b4,_⟩:=hb
  cases A;cases B
  simp only[B8] at a1 a2 a3 a4 b1 b2 b3 b4
  simp only[eA,List.cons.injEq,and_true,aU.mk.injEq,true_and]
  constructor
  · rintro⟨h1,h2,h3,h4,h5,h6,h7,h8,h9,a,b,c,e,f,d⟩
    refine⟨h1,h2,h3,h4,h5,h6,h7,h8,h9,a,b,c,?_,?_,?_,?_,d⟩<;>omega
  · rintro⟨h1,h2,h3,h4,h5,h6,h7,h8,h9,a,b,c,e,f,d,h,g⟩
    refine⟨h1,h2,h3,h4,h5,h6,h7,h8,h9,a,b,c,?_,?_,g⟩<;>omega
theorem Cp{A B:aU}(ha:fS A)(hb:fS B) : A=B↔eA A=eA B∧A.words=B.words∧A.bits=B.bits∧A.data=B.data∧A.recs=B.recs∧A.objects=B.objects:=by
  rw[wF ha hb]
  constructor
  · rintro rfl
    exact⟨rfl,rfl,rfl,rfl,rfl,rfl⟩
  · rintro⟨h1,h2,h3,h4,h5,h6⟩
    rw[h1,h2,h3,h4,h5,h6]
open Go.RowKit
theorem rL{ev:Operand→Value}{o:Oper}{x y:Operand}{t:TypeId}{A B:aU}{w:World}(ho:o.op = .binOp .eql 158 x y t)(hx:ev x = .agg (iA A))(hy:ev y = .agg (iA B)) :
    (execOp ev o).run Tryz.prog w = .ok (.value (.bool (eA A==eA B))) w:=by
  have hg:(eqGuard .eql 158 x y (.agg (iA A)) (.agg (iA B))).run Tryz.prog w = .ok () w:=run_eqGuard_agg w .eql _ x y _ _ (by kernel_rfl)
  have he:(binOp .eql 158 (.agg (iA A)) (.agg (iA B))).run Tryz.prog w = .ok (.bool (eA A==eA B)) w:=ph (P:=Tryz.prog) w 158 37 .u16 15 Tryz.underlying158 Tryz.underlying37 (fun w=>by kernel_rfl) (eA A) (eA B) rfl rfl
  unfold execOp
  simp only[ho,hx,hy,Sem.run_bind,hg,he,Sem.run_pure,Result.andThen]
theorem ib{A B:aU}(ha:fS A)(hb:fS B) : decide (A=B)=(eA A==eA B&&(decide (A.words=B.words)&&(decide (A.bits=B.bits)&&(decide (A.data=B.data)&&(decide (A.recs=B.recs)&&decide (A.objects=B.objects)))))):=by
  rw[Bool.eq_iff_iff]
  simp only[Bool.and_eq_true,decide_eq_true_eq,beq_iff_eq]
  exact Cp ha hb
theorem io{m m':Md}{pc qc:Array Value}{A B:aU}{w:World}(ha:aJ m w pc.toList A)(hb:aJ m' w qc.toList B) :
    Calls Tryz.prog 94 #[.agg pc,.agg qc] w (ec (decide (A=B)) w):=by
 have pM:=ha
 obtain⟨pvw,pvb,pvd,pvr,pvo,ph0,phw,phb,phd,phr,pho,pR⟩:=ha
 obtain rfl:pc=(eJ A pvw pvb pvd pvr pvo).toArray:=by apply Array.toList_inj.1;simpa using ph0
 clear ph0
 obtain⟨pw,pkw,rfl,_,_⟩:=phw.shape
 obtain⟨pb,pkb,rfl,_,_⟩:=phb.shape
 obtain⟨pd,pkd,rfl,_,_⟩:=phd.shape
 obtain⟨pr,pkr,rfl,_,_⟩:=phr.shape
 obtain⟨po,pko,rfl,_,_⟩:=pho.shape
 have qM:=hb
 obtain⟨qvw,qvb,qvd,qvr,qvo,qh0,qhw,qhb,qhd,qhr,qho,qR⟩:=hb
 obtain rfl:qc=(eJ B qvw qvb qvd qvr qvo).toArray:=by apply Array.toList_inj.1;simpa using qh0
 clear qh0
 obtain⟨qw,qkw,rfl,_,_⟩:=qhw.shape
 obtain⟨qb,qkb,rfl,_,_⟩:=qhb.shape
 obtain⟨qd,qkd,rfl,_,_⟩:=qhd.shape
 obtain⟨qr,qkr,rfl,_,_⟩:=qhr.shape
 obtain⟨qo,qko,rfl,_,_⟩:=qho.shape
 refine en 47 Tryz.func94 rfl<|sg<|L0<|d6 (mG A.code A.fail A.addr A.count A.value A.and_ A.or_ A.addr2 A.sub A.status A.events A.messages (.slice pw A.words.length pkw) (.slice pb A.bits.length pkb) (.slice pd A.data.length pkd) (.slice pr A.recs.length pkr) A.mei A.kind A.level A.more A.next (.slice po A.objects.length pko)) fun k ak al ab ac=>L0<|d6 (mG B.code B.fail B.addr B.count B.value B.and_ B.or_ B.addr2 B.sub B.status B.events B.messages (.slice qw B.words.length qkw) (.slice qb B.bits.length qkb) (.slice qd B.data.length qkd) (.slice qr B.recs.length qkr) B.mei B.kind B.level B.more B.next (.slice qo B.objects.length qko)) fun l am an ad X=>ai 1<|sq<|Rg 43 (fun w'=>w'.heap[k]? = some (.cells (mG A.code A.fail A.addr A.count A.value A.and_ A.or_ A.addr2 A.sub A.status A.events A.messages (.slice pw A.words.length pkw) (.slice pb A.bits.length pkb) (.slice pd A.data.length pkd) (.slice pr A.recs.length pkr) A.mei A.kind A.level A.more A.next (.slice po A.objects.length pko)) 45 (0,0))∧w'.heap[l]? = some (.cells (mG B.code B.fail B.addr B.count B.value B.and_ B.or_ B.addr2 B.sub B.status B.events B.messages (.slice qw B.words.length qkw) (.slice qb B.bits.length qkb) (.slice qd B.data.length qkd) (.slice qr B.recs.length qkr) B.mei B.kind B.level B.more B.next (.slice qo B.objects.length qko)) 45 (0,0))∧w'.cell? ⟨k,12,none⟩=some (.slice pw A.words.length pkw)∧w'.cell? ⟨l,12,none⟩=some (.slice qw B.words.length qkw)∧w'.cell? ⟨k,13,none⟩=some (.slice pb A.bits.length pkb)∧w'.cell? ⟨l,13,none⟩=some (.slice qb B.bits.length qkb)∧w'.cell? ⟨k,14,none⟩=some (.slice pd A.data.length pkd)∧aZ false w' (.slice pd A.data.length pkd) A.data∧w'.cell? ⟨l,14,none⟩=some (.slice qd B.data.length qkd)∧aZ false w' (.slice qd B.data.length qkd) B.data∧w'.cell? ⟨k,15,none⟩=some (.slice pr A.recs.length pkr)∧w'.cell? ⟨l,15,none⟩=some (.slice qr B.recs.length qkr)∧w'.cell? ⟨k,21,none⟩=some (.slice po A.objects.length pko)∧w'.cell? ⟨l,21,none⟩=some (.slice qo B.objects.length qko)) fun ao U=>?_
 have o:=ub (aI X U) ab
 have p:=ub U ad
 have Q:=aI (aI ac X) U
 have Y:=aZ.old phd Q
 have Z:=aZ.old qhd Q
 refine bo ⟨o,p,(ae o rfl),(ae p rfl),(ae o rfl),(ae p rfl),(ae o rfl),(aS.any Y (fun _ _ h=>h)),(ae p rfl),(aS.any Z (fun _ _ h=>h)),(ae o rfl),(ae p rfl),(ae o rfl),(ae p rfl)⟩ fun a0=>Rr 0 a0 (.agg (mG A.code A.fail A.addr A.count A.value A.and_ A.or_ A.addr2 A.sub A.status A.events A.messages (.slice pw A.words.length pkw) (.slice pb A.bits.length pkb) (.slice pd A.data.length pkd) (.slice pr A.recs.length pkr) A.mei A.kind A.level A.more A.next (.slice po A.objects.length pko))) (fun w' hs=>iw (g:=k) (off:=0) [vB A.code,vB A.fail,vW A.addr,vW A.count,vW A.value,vW A.and_,vW A.or_,vW A.addr2,vW A.sub,vW A.status,vW A.events,vW A.messages,.slice pw A.words.length pkw,.slice pb A.bits.length pkb,.slice pd A.data.length pkd,.slice pr A.recs.length pkr,vB A.mei,vB A.kind,vB A.level,vB A.more,vB A.next,.slice po A.objects.length pko] rfl (by kernel_rfl) hs.1 (by kernel_rfl) (by kernel_rfl) rfl)<|Rr 2 a0 (.agg (mG B.code B.fail B.addr B.count B.value B.and_ B.or_ B.addr2 B.sub B.status B.events B.messages (.slice qw B.words.length qkw) (.slice qb B.bits.length qkb) (.slice qd B.data.length qkd) (.slice qr B.recs.length qkr) B.mei B.kind B.level B.more B.next (.slice qo B.objects.length qko))) (fun w' hs=>iw (g:=l) (off:=0) [vB B.code,vB B.fail,vW B.addr,vW B.count,vW B.value,vW B.and_,vW B.or_,vW B.addr2,vW B.sub,vW B.status,vW B.events,vW B.messages,.slice qw B.words.length qkw,.slice qb B.bits.length qkb,.slice qd B.data.length qkd,.slice qr B.recs.length qkr,vB B.mei,vB B.kind,vB B.level,vB B.more,vB B.next,.slice qo B.objects.length qko] rfl (by kernel_rfl) hs.2.1 (by kernel_rfl) (by kernel_rfl) rfl)<|?_
 refine R0 1 rfl<|Oc<|m1 (oy (aJ.old pM Q)) fun ap I=>?_
 have q:=ub I o
 have r:=ub I p
 have a1:=aZ.old Y I
 have a2:=aZ.old Z I
 refine bo ⟨q,r,(ae q rfl),(ae r rfl),(ae q rfl),(ae r rfl),(ae q rfl),(aS.any a1 (fun _ _ h=>h)),(ae r rfl),(aS.any a2 (fun _ _ h=>h)),(ae q rfl),(ae r rfl),(ae q rfl),(ae r rfl)⟩ fun aq=>?_
 have a3:=aI Q I
 refine R0 3 rfl<|Oc<|m1 (oy (aJ.old qM a3)) fun ar J=>?_
 have s:=ub J q
 have t:=ub J r
 have a4:=aZ.old a1 J
 have a5:=aZ.old a2 J
 refine bo ⟨s,t,(ae s rfl),(ae t rfl),(ae s rfl),(ae t rfl),(ae s rfl),(aS.any a4 (fun _ _ h=>h)),(ae t rfl),(aS.any a5 (fun _ _ h=>h)),(ae s rfl),(ae t rfl),(ae s rfl),(ae t rfl)⟩ fun e=>Rr 4 e (.bool (eA A==eA B)) (fun _ _=>rL rfl (by kernel_rfl) (by kernel_rfl))<|Rt 5 e<|?_
 have R:=aI a3 J
 refine uu 10 ((eA A==eA B)) (fun u=>?_) (fun u=>?_)
 refine Rt 6 e<|Rl 7 e (fun _ hs=>hs.2.2.1)<|Rt 8 e<|Rl 9 e (fun _ hs=>hs.2.2.2.1)<|?_
 refine R0 10 rfl<|Oc<|m1 (uj (ey.old phw R) (ey.old qhw R)) fun au K=>?_
 have v:=ub K s
 have x:=ub K t
 have a6:=aZ.old a4 K
 have a7:=aZ.old a5 K
 refine bo ⟨v,x,(ae v rfl),(ae x rfl),(ae v rfl),(ae x rfl),(ae v rfl),(aS.any a6 (fun _ _ h=>h)),(ae x rfl),(aS.any a7 (fun _ _ h=>h)),(ae v rfl),(ae x rfl),(ae v rfl),(ae x rfl)⟩ fun f=>Rt 11 f<|Rt 12 f<|?_
 have S:=aI R K
 refine uu 17 ((decide (A.words=B.words))) (fun j=>?_) (fun j=>?_)
 have af:=of_decide_eq_true j
 refine Rt 13 f<|Rl 14 f (fun _ hs=>hs.2.2.2.2.1)<|Rt 15 f<|Rl 16 f (fun _ hs=>hs.2.2.2.2.2.1)<|?_
 refine R0 17 rfl<|Oc<|m1 (B9 (j6.old phb S) (j6.old qhb S)) fun av L=>?_
 have y:=ub L v
 have z:=ub L x
 have V:=aZ.old a6 L
 have W:=aZ.old a7 L
 refine bo ⟨y,z,(ae y rfl),(ae z rfl),(ae y rfl),(ae z rfl),(ae y rfl),(aS.any V (fun _ _ h=>h)),(ae z rfl),(aS.any W (fun _ _ h=>h)),(ae y rfl),(ae z rfl),(ae y rfl),(ae z rfl)⟩ fun d=>Rt 18 d<|Rt 19 d<|?_
 have M:=aI S L
 refine uu 24 ((decide (A.bits=B.bits))) (fun C=>?_) (fun C=>?_)
 have ag:=of_decide_eq_true C
 refine Rt 20 d<|Rl 21 d (fun _ hs=>hs.2.2.2.2.2.2.1)<|Rr 22 d (.string (strOfNums A.data)) (fun _ hs=>cV (A:=pd) (n:=A.data.length) (c:=pkd) rfl (by kernel_rfl) Tryz.underlying27 Tryz.underlying5 Tryz.underlying9 hs.2.2.2.2.2.2.2.1)<|Rt 23 d<|Rl 24 d (fun _ hs=>hs.2.2.2.2.2.2.2.2.1)<|Rr 25 d (.string (strOfNums B.data)) (fun _ hs=>cV (A:=qd) (n:=B.data.length) (c:=qkd) rfl (by kernel_rfl) Tryz.underlying27 Tryz.underlying5 Tryz.underlying9 hs.2.2.2.2.2.2.2.2.2.1)<|Rr 26 d (.bool (decide (A.data=B.data))) (fun _ _=>gx (a:=(strOfNums A.data)) (b:=(strOfNums B.data)) rfl (by kernel_rfl) (by kernel_rfl) (jU V W))<|Rt 27 d<|Rt 28 d<|uu 33 ((decide (A.data=B.data))) (fun F=>?_) (fun F=>?_)
 have ah:=of_decide_eq_true F
 refine Rt 29 d<|Rl 30 d (fun _ hs=>hs.2.2.2.2.2.2.2.2.2.2.1)<|Rt 31 d<|Rl 32 d (fun _ hs=>hs.2.2.2.2.2.2.2.2.2.2.2.1)<|?_
 refine R0 33 rfl<|Oc<|m1 (zF (nc.old phr M) (nc.old qhr M)) fun aw N=>?_
 have D:=ub N y
 have E:=ub N z
 have a8:=aZ.old V N
 have a9:=aZ.old W N
 refine bo ⟨D,E,(ae D rfl),(ae E rfl),(ae D rfl),(ae E rfl),(ae D rfl),(aS.any a8 (fun _ _ h=>h)),(ae E rfl),(aS.any a9 (fun _ _ h=>h)),(ae D rfl),(ae E rfl),(ae D rfl),(ae E rfl)⟩ fun i=>Rt 34 i<|Rt 35 i<|?_
 have T:=aI M N
 refine uu 40 ((decide (A.recs=B.recs))) (fun O=>?_) (fun O=>?_)
 have aj:=of_decide_eq_true O
 refine Rt 36 i<|Rl 37 i (fun _ hs=>hs.2.2.2.2.2.2.2.2.2.2.2.2.1)<|Rt 38 i<|Rl 39 i (fun _ hs=>hs.2.2.2.2.2.2.2.2.2.2.2.2.2)<|?_
 refine R0 40 rfl<|Oc<|m1 (zO (o0.old pho T) (o0.old qho T)) fun ax P=>?_
 have G:=ub P D
 have H:=ub P E
 refine bo ⟨G,H,(ae G rfl),(ae H rfl),(ae G rfl),(ae H rfl),(ae G rfl),(aS.any (aZ.old a8 P) (fun _ _ h=>h)),(ae H rfl),(aS.any (aZ.old a9 P) (fun _ _ h=>h)),(ae G rfl),(ae H rfl),(ae G rfl),(ae H rfl)⟩ fun aa=>Rt 41 aa<|Rt 42 aa<|re<|tn<|rt<|rr (.bool (decide (A.objects=B.objects)))<|?_
 have hs:decide (A=B)=(decide (A.objects=B.objects)):=by
   rw[ib pR qR]
   (try simp only[u,j,C,F,O,bi])
 rw[hs]
 exact⟨rfl,(aI T P)⟩
 have aj:=of_decide_eq_false O
 refine Ro 36 i<|Ro 37 i<|Ro 38 i<|Ro 39 i<|Ro 40 i<|Rt 41 i<|Rt 42 i<|re<|tn<|rt<|rr (.bool false)<|?_
 have hs:decide (A=B)=false:=by
   rw[ib pR qR]
   (try simp only[u,j,C,F,O,bi])
 rw[hs]
 exact⟨rfl,T⟩
 have ah:=of_decide_eq_false F
 refine Ro 29 d<|Ro 30 d<|Ro 31 d<|Ro 32 d<|Ro 33 d<|Rt 34 d<|Rt 35 d<|Ro 36 d<|Ro 37 d<|Ro 38 d<|Ro 39 d<|Ro 40 d<|Rt 41 d<|Rt 42 d<|re<|tn<|rt<|rr (.bool false)<|?_
 have hs:decide (A=B)=false:=by
   rw[ib pR qR]
   (try simp only[u,j,C,F,bi])
 rw[hs]
 exact⟨rfl,M⟩
 have ag:=of_decide_eq_false C
 refine Ro 20 d<|Ro 21 d<|Ro 22 d<|Ro 23 d<|Ro 24 d<|Ro 25 d<|Ro 26 d<|Rt 27 d<|Rt 28 d<|Ro 29 d<|Ro 30 d<|Ro 31 d<|Ro 32 d<|Ro 33 d<|Rt 34 d<|Rt 35 d<|Ro 36 d<|Ro 37 d<|Ro 38 d<|Ro 39 d<|Ro 40 d<|Rt 41 d<|Rt 42 d<|re<|tn<|rt<|rr (.bool false)<|?_
 have hs:decide (A=B)=false:=by
   rw[ib pR qR]
   (try simp only[u,j,C,bi])
 rw[hs]
 exact⟨rfl,M⟩
 have af:=of_decide_eq_false j
 refine Ro 13 f<|Ro 14 f<|Ro 15 f<|Ro 16 f<|Ro 17 f<|Rt 18 f<|Rt 19 f<|Ro 20 f<|Ro 21 f<|Ro 22 f<|Ro 23 f<|Ro 24 f<|Ro 25 f<|Ro 26 f<|Rt 27 f<|Rt 28 f<|Ro 29 f<|Ro 30 f<|Ro 31 f<|Ro 32 f<|Ro 33 f<|Rt 34 f<|Rt 35 f<|Ro 36 f<|Ro 37 f<|Ro 38 f<|Ro 39 f<|Ro 40 f<|Rt 41 f<|Rt 42 f<|re<|tn<|rt<|rr (.bool false)<|?_
 have hs:decide (A=B)=false:=by
   rw[ib pR qR]
   (try simp only[u,j,bi])
 rw[hs]
 exact⟨rfl,S⟩
 refine Ro 6 e<|Ro 7 e<|Ro 8 e<|Ro 9 e<|Ro 10 e<|Rt 11 e<|Rt 12 e<|Ro 13 e<|Ro 14 e<|Ro 15 e<|Ro 16 e<|Ro 17 e<|Rt 18 e<|Rt 19 e<|Ro 20 e<|Ro 21 e<|Ro 22 e<|Ro 23 e<|Ro 24 e<|Ro 25 e<|Ro 26 e<|Rt 27 e<|Rt 28 e<|Ro 29 e<|Ro 30 e<|Ro 31 e<|Ro 32 e<|Ro 33 e<|Rt 34 e<|Rt 35 e<|Ro 36 e<|Ro 37 e<|Ro 38 e<|Ro 39 e<|Ro 40 e<|Rt 41 e<|Rt 42 e<|re<|tn<|rt<|rr (.bool false)<|?_
 have hs:decide (A=B)=false:=by
   rw[ib pR qR]
   (try simp only[u,bi])
 rw[hs]
 exact⟨rfl,R⟩
open Go.RowKit
def ka (Q:World→Ending→World→Prop)(w:World)(e:Ending)(w':World) : Prop:=∃ F free,e = .returned (.func (.func F) #[] free)∧BZ Tryz.prog F=some (false,true)∧aH [] w w'∧Calls Tryz.prog F free w' (Q w')
theorem o6{g:Nat}{C:ah}{w:World}{a most:Int}(hC:ak w g C)(ha:0≤a∧a<65536) :
    Calls Tryz.prog 199 #[vP g 0,vW a,vI most] w (oM g .i64 65536 C.wordV (bP C a most) w):=by
 have hlen:=hC.len
 have hrr:=hC.wordV
 refine en 26 Tryz.func199 rfl<|al 1<|aM 1<|ay<|m3 (cg hC) fun l d e m=>bq C.wordV<|ai 1<|al 4<|cu 4 [14] 18 (((decide (1≤C.wordV))&&(decide (C.wordV≤most)))) (fun K c=>?_) ?_
 refine bl 14 ((decide (1≤C.wordV))) (fun b=>?_) (fun b=>?_)
 have f:=of_decide_eq_true b
 exact Pl 4<|ce c (decide (C.wordV≤most)) (by rw[b];rfl)
 have f:=of_decide_eq_false b
 exact Pl 4<|ce c false (by rw[b];rfl)
 refine ay<|m2 (bt (((decide (1≤C.wordV))&&(decide (C.wordV≤most)))) 5 d) fun o h i=>aM 3<|ay<|mq (jW (a:=a) (n:=C.wordV) (by omega))<|ay<|m2 (bt ((dY a C.wordV)) 7 h) fun p j k=>aM 2<|nl<|tn<|rt<|rr (vI C.wordV)<|?_
 exact cv (by unfold bP;(try simp only[bi,reduceIte])<;>rfl) ⟨rfl,j,(u1 e (u1 i k im) im),hrr⟩
theorem ly{g:Nat}{C:ah}{w:World}{n:Int}(hC:ak w g C)(hn:0≤n∧n<65536) :
    Calls Tryz.prog 205 #[vP g 0,vI n] w (fun e w'=>∃ v,e = .returned v∧lR w.heap.size w' v ((dc C n).wordsR n)∧ak w' g ((dc C n).wordsC n)∧aH [g] w w'):=by
 have hlen:=hC.len
 refine en 16 Tryz.func205 rfl<|al 1<|aM 2<|ay<|m3 (cc hC) fun l c a m=>bq C.byteV<|Pl 1<|bq (2*n)<|Pl 1<|ay<|m2 (bt ((C.byteV==(2*n))) 5 c) fun o d b=>?_
 refine aM 2<|ay<|pu (eO (n:=n) d) fun f h p i q r j k=>ai 1<|rt<|rr (.slice f ((((C.bytesC 1).need (C.byteV==(2*n)) 5).wordsR n).length) h)<|?_
 have hs:dc C n=((C.bytesC 1).need (C.byteV==(2*n)) 5):=by
   unfold dc
   (try simp only[bi,reduceIte])
   all_goals rfl
 rw[hs]
 exact⟨_,rfl,(b6.weaken i (le a.size b.size)),j,(u1 a (u1 b k im) im)⟩
theorem jG{most:Int}{g gm:Nat}{c:Int}{C:ah}{w:World}(hcode:B8 c)(hC:ak w g C)(hm:w.heap[gm]? = some (.cells (mC c) 45 (0,0)))(hne:g≠gm){bc:Nat}{bm:Nat}(hbc:w.heap[bc]? = some (.cells #[vP g 0] 164 (0,0)))(n_bc_g:bc≠g)(n_bc_gm:bc≠gm)(hbm:w.heap[bm]? = some (.cells #[vP gm 0] 166 (0,0)))(n_bm_g:bm≠g)(n_bm_gm:bm≠gm) :
    Calls Tryz.prog 198 #[vI most,vP bc 0,vP bm 0] w (sr g gm (bP (C.wordsC 1) C.wordV most) (mG c 0 C.wordV (C.wordsC 1).wordV 0 0 0 0 0 0 0 0 nS nS nS nS 0 0 0 0 0 nS) w):=by
 obtain⟨hcode1,hcode2⟩:=hcode
 have hlen:=hC.len
 refine en 20 Tryz.func198 rfl<|sq<|Rg 6 (fun w'=>w'.cell? ⟨bm,0,none⟩=some (vP gm 0)∧w'.cell? ⟨bc,0,none⟩=some (vP g 0)) fun I d=>?_
 have m:=ub d hbm
 have n:=ub d hbc
 refine bo ⟨(ae m rfl),(ae n rfl)⟩ fun o=>Rl 0 o (fun _ hs=>hs.1)<|Rl 1 o (fun _ hs=>hs.2)<|?_
 refine R0 2 rfl<|Oc<|m3 (cg (ak.old hC d)) fun J F i K=>?_
 have p:=be i n_bm_g m
 have q:=be i n_bc_g n
 refine bo ⟨(ae p rfl),(ae q rfl)⟩ fun r=>Rt 3 r<|Rt 4 r<|?_
 have s:=uz d i
 have t:=be s (Ne.symm hne) hm
 refine R0 5 rfl<|ci t 2 (mG c 0 C.wordV 0 0 0 0 0 0 0 0 0 nS nS nS nS 0 0 0 0 0 nS) fun L G j=>?_
 have u:=be j n_bm_gm p
 have v:=be j n_bc_gm q
 refine bo ⟨(ae u rfl),(ae v rfl)⟩ fun M=>re<|tn<|Rg 12 (fun w'=>w'.cell? ⟨bm,0,none⟩=some (vP gm 0)∧w'.cell? ⟨bc,0,none⟩=some (vP g 0)∧w'.cell? ⟨gm,2,none⟩=some (vW C.wordV)) fun N e=>?_
 have x:=ub e u
 have y:=ub e v
 have z:=ub e G
 refine bo ⟨(ae x rfl),(ae y rfl),(ae z rfl)⟩ fun b=>Rl 0 b (fun _ hs=>hs.1)<|Rl 1 b (fun _ hs=>hs.2.1)<|Rl 2 b (fun _ hs=>hs.1)<|Rt 3 b<|Rt 4 b<|Rl 5 b (fun _ hs=>hs.2.2)<|Rt 6 b<|?_
 have A:=aI j e
 refine R0 7 rfl<|Oc<|m3 (o6 (a:=C.wordV) (most:=most) (ak.upd F A (aa hne aF) (ax (b7 t (by decide)) aN)) (by omega)) fun O H f P=>?_
 have B:=be f n_bm_g x
 have D:=be f n_bc_g y
 have k:=be f (Ne.symm hne) z
 refine bo ⟨(ae B rfl),(ae D rfl),(ae k rfl)⟩ fun l=>Rr 8 l (vW ((C.wordsC 1).wordV)) (fun _ _=>bX (vW (IntKind.u16.wrap ((C.wordsC 1).wordV))) (by kernel_rfl) (congrArg (Value.int .u16) (ji (by omega))))<|Rt 9 l<|Rt 10 l<|R0 11 rfl<|ci k 3 (mG c 0 C.wordV ((C.wordsC 1).wordV) 0 0 0 0 0 0 0 0 nS nS nS nS 0 0 0 0 0 nS) fun Q E h=>?_
 refine bo ⟨(ae (be h n_bm_gm B) rfl),(ae (be h n_bc_gm D) rfl),(ae E rfl)⟩ fun R=>re<|rm (.tuple #[])<|?_
 exact⟨rfl,(ak.upd H h (aa hne aF) (ax (b7 k (by decide)) aN)),E,(ui s (ui A (us f h)))⟩
theorem Ef{g gm:Nat}{c:Int}{C:ah}{w:World}(hcode:B8 c)(hC:ak w g C)(hm:w.heap[gm]? = some (.cells (mC c) 45 (0,0)))(hne:g≠gm){bc:Nat}{bm:Nat}{bw:Nat}(hbc:w.heap[bc]? = some (.cells #[vP g 0] 164 (0,0)))(n_bc_g:bc≠g)(n_bc_gm:bc≠gm)(hbm:w.heap[bm]? = some (.cells #[vP gm 0] 166 (0,0)))(n_bm_g:bm≠g)(n_bm_gm:bm≠gm)(hbw:w.heap[bw]? = some (.cells #[.func (.func 198) #[] #[vP bc 0,vP bm 0]] 218 (0,0)))(n_bw_g:bw≠g)(n_bw_gm:bw≠gm) :
    Calls Tryz.prog 200 #[vP bw 0] w (cM g gm (co 125 c C).1 (co 125 c C).2 w):=by
 obtain⟨hcode1,hcode2⟩:=hcode
 have hlen:=hC.len
 refine en 3 Tryz.func200 rfl<|go<|aD hbw 0<|L0<|i3 #[] #[vP bc 0,vP bm 0] (args:=#[vI 125,vP bc 0,vP bm 0])<|m3 (jG (most:=125) ⟨hcode1,hcode2⟩ hC hm hne hbc n_bc_g n_bc_gm hbm n_bm_g n_bm_gm) fun e a b d=>?_
 have f:=(hC).wordV
 have h:=bR (cU (hC).rng 1)
 refine nl<|rm (.tuple #[])<|?_
 have hs:co 125 c C=((bP (C.wordsC 1) C.wordV 125),(aU.mk c 0 C.wordV ((C.wordsC 1).wordV) 0 0 0 0 0 0 0 0 [] [] [] [] 0 0 0 0 0 [])):=by
   unfold co
   (try simp only[bi,reduceIte])
   all_goals rfl
 rw[hs]
 exact⟨rfl,a,⟨_,⟨b,rfl⟩,⟨_,_,_,_,_,rfl,aS.nil ..,aS.nil ..,aS.nil ..,aS.nil ..,aS.nil ..,(cT (by omega))⟩⟩,d⟩
theorem Dr{g gm:Nat}{c:Int}{C:ah}{w:World}(hcode:B8 c)(hC:ak w g C)(hm:w.heap[gm]? = some (.cells (mC c) 45 (0,0)))(hne:g≠gm){bc:Nat}{bm:Nat}(hbc:w.heap[bc]? = some (.cells #[vP g 0] 164 (0,0)))(n_bc_g:bc≠g)(n_bc_gm:bc≠gm)(hbm:w.heap[bm]? = some (.cells #[vP gm 0] 166 (0,0)))(n_bm_g:bm≠g)(n_bm_gm:bm≠gm) :
    Calls Tryz.prog 201 #[vP bc 0,vP bm 0] w (cM g gm (cH c C).1 (cH c C).2 w):=by
 obtain⟨hcode1,hcode2⟩:=hcode
 have hlen:=hC.len
 refine en 26 Tryz.func201 rfl<|sg<|aD hbc 0<|ay<|m3 (cc hC) fun L B k M=>bq C.byteV<|Pl 1<|ng<|?_
 have l:=be k n_bc_g hbc
 refine aD l 0<|Pl 1<|L0<|Oe (vI (Int.tmod C.byteV 2)) (vI (C.byteV%2)) (congrArg (Value.int .i64) (Int.tmod_eq_emod_of_nonneg (by omega)))<|Pl 2<|cu 3 [10] 13 ((((C.byteV%2)==0)&&(decide (2≤C.byteV)))) (fun K m=>?_) ?_
 refine bl 10 (((C.byteV%2)==0)) (fun a=>?_) (fun a=>?_)
 have D:=ag a
 exact Pl 3<|ce m (decide (2≤C.byteV)) (by rw[a];rfl)
 have D:=au a
 exact Pl 3<|ce m false (by rw[a];rfl)
 refine Pl 1<|cu 3 [14] 17 (((((C.byteV%2)==0)&&(decide (2≤C.byteV)))&&(decide (C.byteV≤250)))) (fun K o=>?_) ?_
 refine bl 14 ((((C.byteV%2)==0)&&(decide (2≤C.byteV)))) (fun f=>?_) (fun f=>?_)
 exact Pl 3<|ce o (decide (C.byteV≤250)) (by rw[f];rfl)
 exact Pl 3<|ce o false (by rw[f];rfl)
 refine ay<|m2 (bt (((((C.byteV%2)==0)&&(decide (2≤C.byteV)))&&(decide (C.byteV≤250)))) 5 B) fun N E F=>nt<|Rg 8 (fun w'=>w'.cell? ⟨bm,0,none⟩=some (vP gm 0)∧w'.cell? ⟨bc,0,none⟩=some (vP g 0)) fun O p=>?_
 have q:=aI F p
 have i:=u1 k q im
 have r:=be i n_bm_g hbm
 have s:=be q n_bc_g l
 refine bo ⟨(ae r rfl),(ae s rfl)⟩ fun d=>Rl 0 d (fun _ hs=>hs.1)<|Rl 1 d (fun _ hs=>hs.2)<|Rt 2 d<|Rr 3 d (vI (C.byteV/2)) (fun _ _=>bX (vI (IntKind.i64.wrap (Int.tdiv C.byteV 2))) (by kernel_rfl) (congrArg (Value.int .i64) (gV (by omega) (by omega))))<|?_
 refine R0 4 rfl<|Oc<|pu (eO (n:=(C.byteV/2)) (ak.old E p)) fun G H P t Q R I j=>?_
 have u:=be j n_bm_g r
 have v:=be j n_bc_g s
 refine bo ⟨(ae u rfl),(ae v rfl)⟩ fun y=>Rt 5 y<|Rt 6 y<|?_
 have z:=u1 i j im
 have A:=be z (Ne.symm hne) hm
 refine R0 7 rfl<|ci A 12 (mG c 0 0 0 0 0 0 0 0 0 0 0 (.slice G ((((C.bytesC 1).need ((((C.byteV%2)==0)&&(decide (2≤C.byteV)))&&(decide (C.byteV≤250))) 5).wordsR (C.byteV/2)).length) H) nS nS nS 0 0 0 0 0 nS) fun S J b=>?_
 refine bo ⟨(ae (be b n_bm_gm u) rfl),(ae (be b n_bc_gm v) rfl)⟩ fun T=>re<|rm (.tuple #[])<|?_
 exact cv (by unfold cH lI jn;(try simp only[bi,reduceIte])<;>rfl) ⟨rfl,(ak.upd I b (aa hne aF) (ax (b7 A (by decide)) aN)),⟨_,⟨J,rfl⟩,⟨_,_,_,_,_,rfl,((av t b (fun x hx=>(aa (fun e=>(aL (aq hm) i.size t) (e▸hx)) aF)) (fun _ _ h=>h))).rd,aS.nil ..,aS.nil ..,aS.nil ..,aS.nil ..,(cT (by omega))⟩⟩,(us z b)⟩
theorem Em{g gm:Nat}{c:Int}{C:ah}{w:World}(hcode:B8 c)(hC:ak w g C)(hm:w.heap[gm]? = some (.cells (mC c) 45 (0,0)))(hne:g≠gm){bc:Nat}{bm:Nat}(hbc:w.heap[bc]? = some (.cells #[vP g 0] 164 (0,0)))(n_bc_g:bc≠g)(n_bc_gm:bc≠gm)(hbm:w.heap[bm]? = some (.cells #[vP gm 0] 166 (0,0)))(n_bm_g:bm≠g)(n_bm_gm:bm≠gm) :
    Calls Tryz.prog 203 #[vP bc 0,vP bm 0] w (cM g gm (ef c C).1 (ef c C).2 w):=by
 obtain⟨hcode1,hcode2⟩:=hcode
 have hlen:=hC.len
 refine en 12 Tryz.func203 rfl<|Rg 12 (fun w'=>w'.cell? ⟨bm,0,none⟩=some (vP gm 0)∧w'.cell? ⟨bc,0,none⟩=some (vP g 0)) fun A a=>?_
 have i:=ub a hbm
 have j:=ub a hbc
 refine bo ⟨(ae i rfl),(ae j rfl)⟩ fun b=>Rl 0 b (fun _ hs=>hs.1)<|Rl 1 b (fun _ hs=>hs.1)<|Rl 2 b (fun _ hs=>hs.2)<|Rl 4 b (fun _ hs=>hs.2)<|?_
 refine R0 3 rfl<|Oc<|m3 (cg (ak.old hC a)) fun B v d D=>?_
 have k:=be d n_bm_g i
 have l:=be d n_bc_g j
 refine bo ⟨(ae k rfl),(ae l rfl)⟩ fun E=>R0 5 rfl<|Oc<|m3 (cg v) fun F x e G=>?_
 have m:=be e n_bm_g k
 have n:=be e n_bc_g l
 refine bo ⟨(ae m rfl),(ae n rfl)⟩ fun o=>Rt 6 o<|Rt 7 o<|?_
 have p:=uz a (u1 d e im)
 have q:=be p (Ne.symm hne) hm
 refine R0 8 rfl<|ci q 2 (mG c 0 C.wordV 0 0 0 0 0 0 0 0 0 nS nS nS nS 0 0 0 0 0 nS) fun H y f=>?_
 have r:=be f n_bm_gm m
 have s:=be f n_bc_gm n
 refine bo ⟨(ae r rfl),(ae s rfl)⟩ fun t=>Rt 9 t<|Rt 10 t<|R0 11 rfl<|ci y 4 (mG c 0 C.wordV 0 ((C.wordsC 1).wordV) 0 0 0 0 0 0 0 nS nS nS nS 0 0 0 0 0 nS) fun I z h=>?_
 refine bo ⟨(ae (be h n_bm_gm r) rfl),(ae (be h n_bc_gm s) rfl)⟩ fun J=>re<|rm (.tuple #[])<|?_
 have hs:ef c C=(((C.wordsC 1).wordsC 1),(aU.mk c 0 C.wordV 0 ((C.wordsC 1).wordV) 0 0 0 0 0 0 0 [] [] [] [] 0 0 0 0 0 [])):=by
   unfold ef
   (try simp only[bi,reduceIte])
   all_goals rfl
 rw[hs]
 have u:=u1 f h im
 exact⟨rfl,(ak.upd x u (aa hne aF) (ax (b7 q (by decide)) aN)),⟨_,⟨z,rfl⟩,⟨_,_,_,_,_,rfl,aS.nil ..,aS.nil ..,aS.nil ..,aS.nil ..,aS.nil ..,(cT (by omega))⟩⟩,(us p u)⟩
theorem DL{ask:Bool}{g gm:Nat}{c:Int}{C:ah}{w:World}(hcode:B8 c)(hC:ak w g C)(hm:w.heap[gm]? = some (.cells (mC c) 45 (0,0)))(hne:g≠gm){bc:Nat}{bm:Nat}{bw:Nat}{ba:Nat}(hbc:w.heap[bc]? = some (.cells #[vP g 0] 164 (0,0)))(n_bc_g:bc≠g)(n_bc_gm:bc≠gm)(hbm:w.heap[bm]? = some (.cells #[vP gm 0] 166 (0,0)))(n_bm_g:bm≠g)(n_bm_gm:bm≠gm)(hbw:w.heap[bw]? = some (.cells #[.func (.func 198) #[] #[vP bc 0,vP bm 0]] 218 (0,0)))(n_bw_g:bw≠g)(n_bw_gm:bw≠gm)(hba:w.heap[ba]? = some (.cells #[.bool ask] 4 (0,0)))(n_ba_g:ba≠g)(n_ba_gm:ba≠gm)(hask:ask=true) :
    Calls Tryz.prog 204 #[vP bw 0,vP ba 0,vP bc 0,vP bm 0] w (cM g gm (dq c C).1 (dq c C).2 w):=by
 obtain⟨hcode1,hcode2⟩:=hcode
 have hlen:=hC.len
 refine en 17 Tryz.func204 rfl<|sg<|aD hbw 0<|L0<|i3 #[] #[vP bc 0,vP bm 0] (args:=#[vI 123,vP bc 0,vP bm 0])<|m3 (jG (most:=123) ⟨hcode1,hcode2⟩ hC hm hne hbc n_bc_g n_bc_gm hbm n_bm_g n_bm_gm) fun B u v k=>?_
 have D:=(hC).wordV
 have E:=bR (cU (hC).rng 1)
 refine ng<|?_
 refine aD (aH.blk k (aa n_ba_g (aa n_ba_gm aF)) hba) 0<|nt<|ct hask<|Rg 11 (fun w'=>w'.cell? ⟨bm,0,none⟩=some (vP gm 0)∧w'.cell? ⟨bc,0,none⟩=some (vP g 0)∧w'.cell? ⟨gm,3,none⟩=some (vW ((C.wordsC 1).wordV))) fun F i=>?_
 have d:=aI k i
 have l:=aH.blk d (aa n_bm_g (aa n_bm_gm aF)) hbm
 have m:=aH.blk d (aa n_bc_g (aa n_bc_gm aF)) hbc
 have o:=ub i v
 refine bo ⟨(ae l rfl),(ae m rfl),(ae o rfl)⟩ fun a=>Rl 0 a (fun _ hs=>hs.1)<|Rl 1 a (fun _ hs=>hs.2.1)<|Rl 2 a (fun _ hs=>hs.1)<|Rt 3 a<|Rt 4 a<|Rl 5 a (fun _ hs=>hs.2.2)<|Rr 6 a (vI ((C.wordsC 1).wordV)) (fun _ _=>bX (vI (IntKind.i64.wrap ((C.wordsC 1).wordV))) (by kernel_rfl) (congrArg (Value.int .i64) (i64_in (by omega))))<|?_
 refine R0 7 rfl<|Oc<|pu (ly (n:=(C.wordsC 1).wordV) (ak.old u i) (by omega)) fun y z G p H I A f=>?_
 have q:=be f n_bm_g l
 have r:=be f n_bc_g m
 have j:=be f (Ne.symm hne) o
 refine bo ⟨(ae q rfl),(ae r rfl),(ae j rfl)⟩ fun s=>Rt 8 s<|Rt 9 s<|R0 10 rfl<|ci j 12 (mG c 0 C.wordV ((C.wordsC 1).wordV) 0 0 0 0 0 0 0 0 (.slice y (((dc (bP (C.wordsC 1) C.wordV 123) ((C.wordsC 1).wordV)).wordsR ((C.wordsC 1).wordV)).length) z) nS nS nS 0 0 0 0 0 nS) fun J t b=>?_
 refine bo ⟨(ae (be b n_bm_gm q) rfl),(ae (be b n_bc_gm r) rfl),(ae t rfl)⟩ fun K=>re<|rm (.tuple #[])<|?_
 have hs:dq c C=(((dc (bP (C.wordsC 1) C.wordV 123) ((C.wordsC 1).wordV)).wordsC ((C.wordsC 1).wordV)),(aU.mk c 0 C.wordV ((C.wordsC 1).wordV) 0 0 0 0 0 0 0 0 ((dc (bP (C.wordsC 1) C.wordV 123) ((C.wordsC 1).wordV)).wordsR ((C.wordsC 1).wordV)) [] [] [] 0 0 0 0 0 [])):=by
   unfold dq jh
   (try simp only[hask,bi,reduceIte])
   all_goals rfl
 rw[hs]
 exact⟨rfl,(ak.upd A b (aa hne aF) (ax (b7 j (by decide)) aN)),⟨_,⟨t,rfl⟩,⟨_,_,_,_,_,rfl,((av p b (fun x hx=>(aa (fun e=>(aL (aq hm) d.size p) (e▸hx)) aF)) (fun _ _ h=>h))).rd,aS.nil ..,aS.nil ..,aS.nil ..,aS.nil ..,(cT (by omega))⟩⟩,(ut d (us f b) (ac im (ac im aA)))⟩
theorem DU{ask:Bool}{g gm:Nat}{c:Int}{C:ah}{w:World}(hcode:B8 c)(hC:ak w g C)(hm:w.heap[gm]? = some (.cells (mC c) 45 (0,0)))(hne:g≠gm){bc:Nat}{bm:Nat}{bw:Nat}{ba:Nat}(hbc:w.heap[bc]? = some (.cells #[vP g 0] 164 (0,0)))(n_bc_g:bc≠g)(n_bc_gm:bc≠gm)(hbm:w.heap[bm]? = some (.cells #[vP gm 0] 166 (0,0)))(n_bm_g:bm≠g)(n_bm_gm:bm≠gm)(hbw:w.heap[bw]? = some (.cells #[.func (.func 198) #[] #[vP bc 0,vP bm 0]] 218 (0,0)))(n_bw_g:bw≠g)(n_bw_gm:bw≠gm)(hba:w.heap[ba]? = some (.cells #[.bool ask] 4 (0,0)))(n_ba_g:ba≠g)(n_ba_gm:ba≠gm)(hask:ask=false) :
    Calls Tryz.prog 204 #[vP bw 0,vP ba 0,vP bc 0,vP bm 0] w (cM g gm (co 123 c C).1 (co 123 c C).2 w):=by
 obtain⟨hcode1,hcode2⟩:=hcode
 have hlen:=hC.len
 refine en 17 Tryz.func204 rfl<|sg<|aD hbw 0<|L0<|i3 #[] #[vP bc 0,vP bm 0] (args:=#[vI 123,vP bc 0,vP bm 0])<|m3 (jG (most:=123) ⟨hcode1,hcode2⟩ hC hm hne hbc n_bc_g n_bc_gm hbm n_bm_g n_bm_gm) fun e b d a=>?_
 have f:=(hC).wordV
 have h:=bR (cU (hC).rng 1)
 refine ng<|?_
 refine aD (aH.blk a (aa n_ba_g (aa n_ba_gm aF)) hba) 0<|nt<|cf hask<|sk<|rm (.tuple #[])<|?_
 have hs:co 123 c C=((bP (C.wordsC 1) C.wordV 123),(aU.mk c 0 C.wordV ((C.wordsC 1).wordV) 0 0 0 0 0 0 0 0 [] [] [] [] 0 0 0 0 0 [])):=by
   unfold co
   (try simp only[hask,bi,reduceIte])
   all_goals rfl
 rw[hs]
 exact⟨rfl,b,⟨_,⟨d,rfl⟩,⟨_,_,_,_,_,rfl,aS.nil ..,aS.nil ..,aS.nil ..,aS.nil ..,aS.nil ..,(cT (by omega))⟩⟩,a⟩
theorem Ec{g gm:Nat}{c:Int}{C:ah}{w:World}(hcode:B8 c)(hC:ak w g C)(hm:w.heap[gm]? = some (.cells (mC c) 45 (0,0)))(hne:g≠gm){bc:Nat}{bm:Nat}(hbc:w.heap[bc]? = some (.cells #[vP g 0] 164 (0,0)))(n_bc_g:bc≠g)(n_bc_gm:bc≠gm)(hbm:w.heap[bm]? = some (.cells #[vP gm 0] 166 (0,0)))(n_bm_g:bm≠g)(n_bm_gm:bm≠gm) :
    Calls Tryz.prog 206 #[vP bc 0,vP bm 0] w (cM g gm (da c C).1 (da c C).2 w):=by
 obtain⟨hcode1,hcode2⟩:=hcode
 have hlen:=hC.len
 refine en 17 Tryz.func206 rfl<|Rg 18 (fun w'=>w'.cell? ⟨bm,0,none⟩=some (vP gm 0)∧w'.cell? ⟨bc,0,none⟩=some (vP g 0)) fun K b=>?_
 have k:=ub b hbm
 have l:=ub b hbc
 refine bo ⟨(ae k rfl),(ae l rfl)⟩ fun a=>Rl 0 a (fun _ hs=>hs.1)<|Rl 1 a (fun _ hs=>hs.1)<|Rl 2 a (fun _ hs=>hs.1)<|Rl 3 a (fun _ hs=>hs.2)<|Rl 5 a (fun _ hs=>hs.2)<|Rl 7 a (fun _ hs=>hs.2)<|?_
 refine R0 4 rfl<|Oc<|m3 (cg (ak.old hC b)) fun L E d M=>?_
 have m:=be d n_bm_g k
 have n:=be d n_bc_g l
 refine bo ⟨(ae m rfl),(ae n rfl)⟩ fun N=>R0 6 rfl<|Oc<|m3 (cg E) fun O F e P=>?_
 have o:=be e n_bm_g m
 have p:=be e n_bc_g n
 refine bo ⟨(ae o rfl),(ae p rfl)⟩ fun Q=>R0 8 rfl<|Oc<|m3 (cg F) fun R G f S=>?_
 have q:=be f n_bm_g o
 have r:=be f n_bc_g p
 refine bo ⟨(ae q rfl),(ae r rfl)⟩ fun s=>Rt 9 s<|Rt 10 s<|?_
 have t:=uz b (u1 d (u1 e f im) im)
 have u:=be t (Ne.symm hne) hm
 refine R0 11 rfl<|ci u 2 (mG c 0 C.wordV 0 0 0 0 0 0 0 0 0 nS nS nS nS 0 0 0 0 0 nS) fun T H h=>?_
 have v:=be h n_bm_gm q
 have x:=be h n_bc_gm r
 refine bo ⟨(ae v rfl),(ae x rfl)⟩ fun y=>Rt 12 y<|Rt 13 y<|R0 14 rfl<|ci H 5 (mG c 0 C.wordV 0 0 ((C.wordsC 1).wordV) 0 0 0 0 0 0 nS nS nS nS 0 0 0 0 0 nS) fun U I i=>?_
 have z:=be i n_bm_gm v
 have A:=be i n_bc_gm x
 refine bo ⟨(ae z rfl),(ae A rfl)⟩ fun B=>Rt 15 B<|Rt 16 B<|R0 17 rfl<|ci I 6 (mG c 0 C.wordV 0 0 ((C.wordsC 1).wordV) (((C.wordsC 1).wordsC 1).wordV) 0 0 0 0 0 nS nS nS nS 0 0 0 0 0 nS) fun V J j=>?_
 refine bo ⟨(ae (be j n_bm_gm z) rfl),(ae (be j n_bc_gm A) rfl)⟩ fun W=>re<|rm (.tuple #[])<|?_
 have hs:da c C=((((C.wordsC 1).wordsC 1).wordsC 1),(aU.mk c 0 C.wordV 0 0 ((C.wordsC 1).wordV) (((C.wordsC 1).wordsC 1).wordV) 0 0 0 0 0 [] [] [] [] 0 0 0 0 0 [])):=by
   unfold da
   (try simp only[bi,reduceIte])
   all_goals rfl
 rw[hs]
 have D:=u1 h (u1 i j im) im
 exact⟨rfl,(ak.upd G D (aa hne aF) (ax (b7 u (by decide)) aN)),⟨_,⟨J,rfl⟩,⟨_,_,_,_,_,rfl,aS.nil ..,aS.nil ..,aS.nil ..,aS.nil ..,aS.nil ..,(cT (by omega))⟩⟩,(us t D)⟩
theorem Er{g gm:Nat}{c:Int}{C:ah}{w:World}(hcode:B8 c)(hC:ak w g C)(hm:w.heap[gm]? = some (.cells (mC c) 45 (0,0)))(hne:g≠gm){bc:Nat}{bm:Nat}{bw:Nat}(hbc:w.heap[bc]? = some (.cells #[vP g 0] 164 (0,0)))(n_bc_g:bc≠g)(n_bc_gm:bc≠gm)(hbm:w.heap[bm]? = some (.cells #[vP gm 0] 166 (0,0)))(n_bm_g:bm≠g)(n_bm_gm:bm≠gm)(hbw:w.heap[bw]? = some (.cells #[.func (.func 198) #[] #[vP bc 0,vP bm 0]] 218 (0,0)))(n_bw_g:bw≠g)(n_bw_gm:bw≠gm) :
    Calls Tryz.prog 207 #[vP bw 0,vP bc 0,vP bm 0] w (cM g gm (dn c C).1 (dn c C).2 w):=by
 obtain⟨hcode1,hcode2⟩:=hcode
 have hlen:=hC.len
 refine en 21 Tryz.func207 rfl<|sg<|aD hbw 0<|L0<|i3 #[] #[vP bc 0,vP bm 0] (args:=#[vI 125,vP bc 0,vP bm 0])<|m3 (jG (most:=125) ⟨hcode1,hcode2⟩ hC hm hne hbc n_bc_g n_bc_gm hbm n_bm_g n_bm_gm) fun X P Q q=>?_
 have Y:=(hC).wordV
 have Z:=bR (cU (hC).rng 1)
 refine nt<|sq<|Rg 6 (fun w'=>w'.cell? ⟨bm,0,none⟩=some (vP gm 0)∧w'.cell? ⟨bc,0,none⟩=some (vP g 0)) fun a0 k=>?_
 have o:=aI q k
 have r:=aH.blk o (aa n_bm_g (aa n_bm_gm aF)) hbm
 have s:=aH.blk o (aa n_bc_g (aa n_bc_gm aF)) hbc
 refine bo ⟨(ae r rfl),(ae s rfl)⟩ fun t=>Rl 0 t (fun _ hs=>hs.1)<|Rl 1 t (fun _ hs=>hs.2)<|?_
 refine R0 2 rfl<|Oc<|m3 (cg (ak.old P k)) fun a1 R d a2=>?_
 have u:=be d n_bm_g r
 have v:=be d n_bc_g s
 refine bo ⟨(ae u rfl),(ae v rfl)⟩ fun y=>Rt 3 y<|Rt 4 y<|?_
 have z:=be (uz k d) (Ne.symm hne) Q
 refine R0 5 rfl<|ci z 7 (mG c 0 C.wordV ((C.wordsC 1).wordV) 0 0 0 ((bP (C.wordsC 1) C.wordV 125).wordV) 0 0 0 0 nS nS nS nS 0 0 0 0 0 nS) fun a3 S l=>?_
 have A:=be l n_bm_gm u
 have B:=be l n_bc_gm v
 refine bo ⟨(ae A rfl),(ae B rfl)⟩ fun a4=>re<|tn<|Rg 12 (fun w'=>w'.cell? ⟨bm,0,none⟩=some (vP gm 0)∧w'.cell? ⟨bc,0,none⟩=some (vP g 0)∧w'.cell? ⟨gm,7,none⟩=some (vW ((bP (C.wordsC 1) C.wordV 125).wordV))) fun a5 f=>?_
 have D:=ub f A
 have E:=ub f B
 have F:=ub f S
 refine bo ⟨(ae D rfl),(ae E rfl),(ae F rfl)⟩ fun b=>Rl 0 b (fun _ hs=>hs.1)<|Rl 1 b (fun _ hs=>hs.2.1)<|Rl 2 b (fun _ hs=>hs.2.1)<|Rl 3 b (fun _ hs=>hs.1)<|Rt 4 b<|Rt 5 b<|Rl 6 b (fun _ hs=>hs.2.2)<|?_
 have G:=aI l f
 refine R0 7 rfl<|Oc<|m3 (o6 (a:=(bP (C.wordsC 1) C.wordV 125).wordV) (most:=121) (ak.upd R G (aa hne aF) (ax (b7 z (by decide)) aN)) (by omega)) fun a6 T i a7=>?_
 have H:=be i n_bm_g D
 have I:=be i n_bc_g E
 have J:=be i (Ne.symm hne) F
 refine bo ⟨(ae H rfl),(ae I rfl),(ae J rfl)⟩ fun a8=>R0 8 rfl<|Oc<|pu (ly (n:=((bP (C.wordsC 1) C.wordV 125).wordsC 1).wordV) T (by omega)) fun U V a9 K ab ad W m=>?_
 have L:=be m n_bm_g H
 have M:=be m n_bc_g I
 have p:=be m (Ne.symm hne) J
 refine bo ⟨(ae L rfl),(ae M rfl),(ae p rfl)⟩ fun N=>Rt 9 N<|Rt 10 N<|R0 11 rfl<|ci p 12 (mG c 0 C.wordV ((C.wordsC 1).wordV) 0 0 0 ((bP (C.wordsC 1) C.wordV 125).wordV) 0 0 0 0 (.slice U (((dc (bP ((bP (C.wordsC 1) C.wordV 125).wordsC 1) ((bP (C.wordsC 1) C.wordV 125).wordV) 121) (((bP (C.wordsC 1) C.wordV 125).wordsC 1).wordV)).wordsR (((bP (C.wordsC 1) C.wordV 125).wordsC 1).wordV)).length) V) nS nS nS 0 0 0 0 0 nS) fun af O j=>?_
 refine bo ⟨(ae (be j n_bm_gm L) rfl),(ae (be j n_bc_gm M) rfl),(ae O rfl)⟩ fun ag=>re<|rm (.tuple #[])<|?_
 have hs:dn c C=(((dc (bP ((bP (C.wordsC 1) C.wordV 125).wordsC 1) ((bP (C.wordsC 1) C.wordV 125).wordV) 121) (((bP (C.wordsC 1) C.wordV 125).wordsC 1).wordV)).wordsC (((bP (C.wordsC 1) C.wordV 125).wordsC 1).wordV)),(aU.mk c 0 C.wordV ((C.wordsC 1).wordV) 0 0 0 ((bP (C.wordsC 1) C.wordV 125).wordV) 0 0 0 0 ((dc (bP ((bP (C.wordsC 1) C.wordV 125).wordsC 1) ((bP (C.wordsC 1) C.wordV 125).wordV) 121) (((bP (C.wordsC 1) C.wordV 125).wordsC 1).wordV)).wordsR (((bP (C.wordsC 1) C.wordV 125).wordsC 1).wordV)) [] [] [] 0 0 0 0 0 [])):=by
   unfold dn iL qI gA
   (try simp only[bi,reduceIte])
   all_goals rfl
 rw[hs]
 exact⟨rfl,(ak.upd W j (aa hne aF) (ax (b7 p (by decide)) aN)),⟨_,⟨O,rfl⟩,⟨_,_,_,_,_,rfl,((av K j (fun x hx=>(aa (fun e=>(aL (aq hm) (le (le (le (le (le q.size k.size) d.size) l.size) f.size) i.size) K) (e▸hx)) aF)) (fun _ _ h=>h))).rd,aS.nil ..,aS.nil ..,aS.nil ..,aS.nil ..,(cT (by omega))⟩⟩,(ut o (ui d (ui G (ui i (us m j)))) (ac im (ac im aA)))⟩
theorem Ew{g gm:Nat}{c:Int}{C:ah}{w:World}(hcode:B8 c)(hC:ak w g C)(hm:w.heap[gm]? = some (.cells (mC c) 45 (0,0)))(hne:g≠gm){bc:Nat}{bm:Nat}(hbc:w.heap[bc]? = some (.cells #[vP g 0] 164 (0,0)))(n_bc_g:bc≠g)(n_bc_gm:bc≠gm)(hbm:w.heap[bm]? = some (.cells #[vP gm 0] 166 (0,0)))(n_bm_g:bm≠g)(n_bm_gm:bm≠gm) :
    Calls Tryz.prog 208 #[vP bc 0,vP bm 0] w (cM g gm (dp c C).1 (dp c C).2 w):=by
 obtain⟨hcode1,hcode2⟩:=hcode
 have hlen:=hC.len
 refine en 7 Tryz.func208 rfl<|Rg 6 (fun w'=>w'.cell? ⟨bm,0,none⟩=some (vP gm 0)∧w'.cell? ⟨bc,0,none⟩=some (vP g 0)) fun p a=>?_
 have e:=ub a hbm
 have f:=ub a hbc
 refine bo ⟨(ae e rfl),(ae f rfl)⟩ fun h=>Rl 0 h (fun _ hs=>hs.1)<|Rl 1 h (fun _ hs=>hs.2)<|?_
 refine R0 2 rfl<|Oc<|m3 (cg (ak.old hC a)) fun q n d r=>?_
 have i:=be d n_bm_g e
 have j:=be d n_bc_g f
 refine bo ⟨(ae i rfl),(ae j rfl)⟩ fun k=>Rt 3 k<|Rt 4 k<|?_
 have l:=uz a d
 have m:=be l (Ne.symm hne) hm
 refine R0 5 rfl<|ci m 2 (mG c 0 C.wordV 0 0 0 0 0 0 0 0 0 nS nS nS nS 0 0 0 0 0 nS) fun s o b=>?_
 refine bo ⟨(ae (be b n_bm_gm i) rfl),(ae (be b n_bc_gm j) rfl)⟩ fun t=>re<|rm (.tuple #[])<|?_
 have hs:dp c C=((C.wordsC 1),(aU.mk c 0 C.wordV 0 0 0 0 0 0 0 0 0 [] [] [] [] 0 0 0 0 0 [])):=by
   unfold dp
   (try simp only[bi,reduceIte])
   all_goals rfl
 rw[hs]
 exact⟨rfl,(ak.upd n b (aa hne aF) (ax (b7 m (by decide)) aN)),⟨_,⟨o,rfl⟩,⟨_,_,_,_,_,rfl,aS.nil ..,aS.nil ..,aS.nil ..,aS.nil ..,aS.nil ..,(cT (by omega))⟩⟩,(us l b)⟩
theorem En{g gm:Nat}{c:Int}{C:ah}{w:World}(hcode:B8 c)(hC:ak w g C)(hm:w.heap[gm]? = some (.cells (mC c) 45 (0,0)))(hne:g≠gm){bc:Nat}{bm:Nat}(hbc:w.heap[bc]? = some (.cells #[vP g 0] 164 (0,0)))(n_bc_g:bc≠g)(n_bc_gm:bc≠gm)(hbm:w.heap[bm]? = some (.cells #[vP gm 0] 166 (0,0)))(n_bm_g:bm≠g)(n_bm_gm:bm≠gm) :
    Calls Tryz.prog 209 #[vP bc 0,vP bm 0] w (cM g gm (lZ c C).1 (lZ c C).2 w):=by
 obtain⟨hcode1,hcode2⟩:=hcode
 have hlen:=hC.len
 refine en 36 Tryz.func209 rfl<|sg<|aD hbc 0<|ay<|m3 (cg hC) fun R G k S=>bq C.wordV<|Pl 1<|ng<|?_
 have l:=be k n_bc_g hbc
 refine aD l 0<|Pl 1<|L0<|Oe (vI (Int.tmod C.wordV 2)) (vI (C.wordV%2)) (congrArg (Value.int .i64) (Int.tmod_eq_emod_of_nonneg (by omega)))<|Pl 2<|cu 3 [11] 14 ((((C.wordV%2)==0)&&(decide (2≤C.wordV)))) (fun K m=>?_) ?_
 refine bl 11 (((C.wordV%2)==0)) (fun a=>?_) (fun a=>?_)
 have H:=ag a
 exact Pl 3<|ce m (decide (2≤C.wordV)) (by rw[a];rfl)
 have H:=au a
 exact Pl 3<|ce m false (by rw[a];rfl)
 refine Pl 1<|cu 3 [15] 18 (((((C.wordV%2)==0)&&(decide (2≤C.wordV)))&&(decide (C.wordV≤64)))) (fun K o=>?_) ?_
 refine bl 15 ((((C.wordV%2)==0)&&(decide (2≤C.wordV)))) (fun d=>?_) (fun d=>?_)
 exact Pl 3<|ce o (decide (C.wordV≤64)) (by rw[d];rfl)
 exact Pl 3<|ce o false (by rw[d];rfl)
 refine ay<|m2 (bt (((((C.wordV%2)==0)&&(decide (2≤C.wordV)))&&(decide (C.wordV≤64)))) 5 G) fun T I p=>ng<|?_
 have q:=be p n_bc_g l
 refine aD q 0<|ay<|m3 (cg I) fun U J r V=>bq (((C.wordsC 1).need ((((C.wordV%2)==0)&&(decide (2≤C.wordV)))&&(decide (C.wordV≤64))) 5).wordV)<|Pl 1<|ng<|?_
 have s:=be r n_bc_g q
 refine aD s 0<|Pl 1<|bq (2*(((C.wordsC 1).need ((((C.wordV%2)==0)&&(decide (2≤C.wordV)))&&(decide (C.wordV≤64))) 5).wordV))<|bq (2+(2*(((C.wordsC 1).need ((((C.wordV%2)==0)&&(decide (2≤C.wordV)))&&(decide (C.wordV≤64))) 5).wordV)))<|Pl 2<|ay<|m2 (bt (((2+(2*(((C.wordsC 1).need ((((C.wordV%2)==0)&&(decide (2≤C.wordV)))&&(decide (C.wordV≤64))) 5).wordV)))==C.wordV)) 5 J) fun W L M=>nt<|Rg 7 (fun w'=>w'.cell? ⟨bm,0,none⟩=some (vP gm 0)∧w'.cell? ⟨bc,0,none⟩=some (vP g 0)) fun X t=>?_
 have u:=aI M t
 have f:=u1 k (u1 p (u1 r u im) im) im
 have v:=be f n_bm_g hbm
 have y:=be u n_bc_g s
 refine bo ⟨(ae v rfl),(ae y rfl)⟩ fun i=>Rl 0 i (fun _ hs=>hs.1)<|Rl 1 i (fun _ hs=>hs.2)<|Rt 2 i<|?_
 refine R0 3 rfl<|Oc<|pu (eO (n:=((C.wordsC 1).need ((((C.wordV%2)==0)&&(decide (2≤C.wordV)))&&(decide (C.wordV≤64))) 5).wordV) (ak.old L t)) fun N O Y z Z a0 P j=>?_
 have A:=be j n_bm_g v
 have B:=be j n_bc_g y
 refine bo ⟨(ae A rfl),(ae B rfl)⟩ fun D=>Rt 4 D<|Rt 5 D<|?_
 have E:=u1 f j im
 have F:=be E (Ne.symm hne) hm
 refine R0 6 rfl<|ci F 12 (mG c 0 0 0 0 0 0 0 0 0 0 0 (.slice N ((((((C.wordsC 1).need ((((C.wordV%2)==0)&&(decide (2≤C.wordV)))&&(decide (C.wordV≤64))) 5).wordsC 1).need ((2+(2*(((C.wordsC 1).need ((((C.wordV%2)==0)&&(decide (2≤C.wordV)))&&(decide (C.wordV≤64))) 5).wordV)))==C.wordV) 5).wordsR (((C.wordsC 1).need ((((C.wordV%2)==0)&&(decide (2≤C.wordV)))&&(decide (C.wordV≤64))) 5).wordV)).length) O) nS nS nS 0 0 0 0 0 nS) fun a1 Q b=>?_
 refine bo ⟨(ae (be b n_bm_gm A) rfl),(ae (be b n_bc_gm B) rfl)⟩ fun a2=>re<|rm (.tuple #[])<|?_
 exact cv (by unfold lZ Ay tI jn;(try simp only[bi,reduceIte])<;>rfl) ⟨rfl,(ak.upd P b (aa hne aF) (ax (b7 F (by decide)) aN)),⟨_,⟨Q,rfl⟩,⟨_,_,_,_,_,rfl,((av z b (fun x hx=>(aa (fun e=>(aL (aq hm) f.size z) (e▸hx)) aF)) (fun _ _ h=>h))).rd,aS.nil ..,aS.nil ..,aS.nil ..,aS.nil ..,(cT (by omega))⟩⟩,(us E b)⟩
open Go.RowKit
theorem vD{g gm:Nat}{C:ah}{w:World}(hC:ak w g C)(hm:w.heap[gm]? = some (.cells (mC 3) 45 (0,0)))(hne:g≠gm) : Calls Tryz.prog 148 #[vI 0,vP gm 0,vP g 0] w (ka (fun W=>cM g gm (co 125 3 C).1 (co 125 3 C).2 W) w):=by
 refine en 67 Tryz.func148 rfl<|sg<|L0<|d6 #[vP gm 0] fun n D f o a=>L0<|d6 #[vP g 0] fun p E h q b=>Pl 1<|aM 1<|aK #[.nilFunc] fun r F d s t=>L0<|ci s 0 #[.func (.func 198) #[] #[vP p 0,vP n 0]] fun G u v=>nl<|tn<|al 2<|aK #[.bool false] fun H I x y z=>L0<|ci y 0 #[.bool true] fun J A B=>nt<|sq<|sg<|?_
 have i:=ud z B x
 have j:=ud t (aI v i) d
 have k:=aI b j
 have l:=ub k o
 refine aD l 0<|Pl 2<|?_
 have e:=aI a k
 have m:=ub e hm
 refine aD m 0<|ai 1<|bk<|sg<|aD A 0<|ai 9<|c1<|aE 2<|rt<|br<|tr<|rr (.func (.func 200) #[] #[vP r 0])<|?_
 exact⟨_,_,rfl,by kernel_rfl,e,Ef (c:=3) ⟨by decide,by decide⟩ (ak.old hC e) m hne (ub j q) (Ne.symm (nb (ak.lt hC) a.size h)) (Ne.symm (nb (aq hm) a.size h)) l (Ne.symm (nb (ak.lt hC) lr f)) (Ne.symm (nb (aq hm) lr f)) (ub i u) (Ne.symm (nb (ak.lt hC) (le a.size b.size) d)) (Ne.symm (nb (aq hm) (le a.size b.size) d))⟩
theorem v6{g gm:Nat}{C:ah}{w:World}(hC:ak w g C)(hm:w.heap[gm]? = some (.cells (mC 4) 45 (0,0)))(hne:g≠gm) : Calls Tryz.prog 148 #[vI 0,vP gm 0,vP g 0] w (ka (fun W=>cM g gm (co 125 4 C).1 (co 125 4 C).2 W) w):=by
 refine en 67 Tryz.func148 rfl<|sg<|L0<|d6 #[vP gm 0] fun n D f o a=>L0<|d6 #[vP g 0] fun p E h q b=>Pl 1<|aM 1<|aK #[.nilFunc] fun r F d s t=>L0<|ci s 0 #[.func (.func 198) #[] #[vP p 0,vP n 0]] fun G u v=>nl<|tn<|al 2<|aK #[.bool false] fun H I x y z=>L0<|ci y 0 #[.bool true] fun J A B=>nt<|sq<|sg<|?_
 have i:=ud z B x
 have j:=ud t (aI v i) d
 have k:=aI b j
 have l:=ub k o
 refine aD l 0<|Pl 2<|?_
 have e:=aI a k
 have m:=ub e hm
 refine aD m 0<|ai 1<|bk<|sg<|aD A 0<|ai 9<|c1<|aE 2<|rt<|br<|tr<|rr (.func (.func 200) #[] #[vP r 0])<|?_
 exact⟨_,_,rfl,by kernel_rfl,e,Ef (c:=4) ⟨by decide,by decide⟩ (ak.old hC e) m hne (ub j q) (Ne.symm (nb (ak.lt hC) a.size h)) (Ne.symm (nb (aq hm) a.size h)) l (Ne.symm (nb (ak.lt hC) lr f)) (Ne.symm (nb (aq hm) lr f)) (ub i u) (Ne.symm (nb (ak.lt hC) (le a.size b.size) d)) (Ne.symm (nb (aq hm) (le a.size b.size) d))⟩
theorem uS{g gm:Nat}{C:ah}{w:World}(hC:ak w g C)(hm:w.heap[gm]? = some (.cells (mC 3) 45 (0,0)))(hne:g≠gm) : Calls Tryz.prog 148 #[vI 1,vP gm 0,vP g 0] w (ka (fun W=>cM g gm (cH 3 C).1 (cH 3 C).2 W) w):=by
 refine en 67 Tryz.func148 rfl<|sg<|L0<|d6 #[vP gm 0] fun d z e m a=>L0<|d6 #[vP g 0] fun f A h n o=>Pl 1<|aM 1<|aK #[.nilFunc] fun B D p q r=>L0<|ci q 0 #[.func (.func 198) #[] #[vP f 0,vP d 0]] fun E F s=>nl<|tn<|al 2<|aK #[.bool false] fun G H t u v=>L0<|ci u 0 #[.bool false] fun I x y=>nt<|sq<|sg<|?_
 have i:=ud r (aI s (ud v y t)) p
 have j:=aI o i
 have k:=ub j m
 refine aD k 0<|Pl 2<|?_
 have b:=aI a j
 have l:=ub b hm
 refine aD l 0<|ai 1<|bk<|sg<|aD x 0<|ai 9<|c0<|sq<|sq<|go<|ai 3<|c1<|bj<|c1<|aE 2<|rt<|br<|tr<|rr (.func (.func 201) #[] #[vP f 0,vP d 0])<|?_
 exact⟨_,_,rfl,by kernel_rfl,b,Dr (c:=3) ⟨by decide,by decide⟩ (ak.old hC b) l hne (ub i n) (Ne.symm (nb (ak.lt hC) a.size h)) (Ne.symm (nb (aq hm) a.size h)) k (Ne.symm (nb (ak.lt hC) lr e)) (Ne.symm (nb (aq hm) lr e))⟩
theorem ve{g gm:Nat}{C:ah}{w:World}(hC:ak w g C)(hm:w.heap[gm]? = some (.cells (mC 4) 45 (0,0)))(hne:g≠gm) : Calls Tryz.prog 148 #[vI 1,vP gm 0,vP g 0] w (ka (fun W=>cM g gm (cH 4 C).1 (cH 4 C).2 W) w):=by
 refine en 67 Tryz.func148 rfl<|sg<|L0<|d6 #[vP gm 0] fun d z e m a=>L0<|d6 #[vP g 0] fun f A h n o=>Pl 1<|aM 1<|aK #[.nilFunc] fun B D p q r=>L0<|ci q 0 #[.func (.func 198) #[] #[vP f 0,vP d 0]] fun E F s=>nl<|tn<|al 2<|aK #[.bool false] fun G H t u v=>L0<|ci u 0 #[.bool false] fun I x y=>nt<|sq<|sg<|?_
 have i:=ud r (aI s (ud v y t)) p
 have j:=aI o i
 have k:=ub j m
 refine aD k 0<|Pl 2<|?_
 have b:=aI a j
 have l:=ub b hm
 refine aD l 0<|ai 1<|bk<|sg<|aD x 0<|ai 9<|c0<|sq<|sq<|go<|ai 3<|c0<|aE 3<|c1<|bj<|c1<|aE 2<|rt<|br<|tr<|rr (.func (.func 201) #[] #[vP f 0,vP d 0])<|?_
 exact⟨_,_,rfl,by kernel_rfl,b,Dr (c:=4) ⟨by decide,by decide⟩ (ak.old hC b) l hne (ub i n) (Ne.symm (nb (ak.lt hC) a.size h)) (Ne.symm (nb (aq hm) a.size h)) k (Ne.symm (nb (ak.lt hC) lr e)) (Ne.symm (nb (aq hm) lr e))⟩
theorem wc{g gm:Nat}{C:ah}{w:World}(hC:ak w g C)(hm:w.heap[gm]? = some (.cells (mC 6) 45 (0,0)))(hne:g≠gm) : Calls Tryz.prog 148 #[vI 0,vP gm 0,vP g 0] w (ka (fun W=>cM g gm (ef 6 C).1 (ef 6 C).2 W) w):=by
 refine en 67 Tryz.func148 rfl<|sg<|L0<|d6 #[vP gm 0] fun d z e m a=>L0<|d6 #[vP g 0] fun f A h n o=>Pl 1<|aM 1<|aK #[.nilFunc] fun B D p q r=>L0<|ci q 0 #[.func (.func 198) #[] #[vP f 0,vP d 0]] fun E F s=>nl<|tn<|al 2<|aK #[.bool false] fun G H t u v=>L0<|ci u 0 #[.bool true] fun I x y=>nt<|sq<|sg<|?_
 have i:=ud r (aI s (ud v y t)) p
 have j:=aI o i
 have k:=ub j m
 refine aD k 0<|Pl 2<|?_
 have b:=aI a j
 have l:=ub b hm
 refine aD l 0<|ai 1<|bk<|sg<|aD x 0<|ai 9<|c0<|sq<|sq<|go<|ai 3<|c0<|aE 3<|c0<|go<|Pl 7<|nl<|tn<|c0<|aE 3<|c1<|aE 2<|rt<|br<|tr<|rr (.func (.func 203) #[] #[vP f 0,vP d 0])<|?_
 exact⟨_,_,rfl,by kernel_rfl,b,Em (c:=6) ⟨by decide,by decide⟩ (ak.old hC b) l hne (ub i n) (Ne.symm (nb (ak.lt hC) a.size h)) (Ne.symm (nb (aq hm) a.size h)) k (Ne.symm (nb (ak.lt hC) lr e)) (Ne.symm (nb (aq hm) lr e))⟩
theorem w8{g gm:Nat}{C:ah}{w:World}(hC:ak w g C)(hm:w.heap[gm]? = some (.cells (mC 6) 45 (0,0)))(hne:g≠gm) : Calls Tryz.prog 148 #[vI 1,vP gm 0,vP g 0] w (ka (fun W=>cM g gm (ef 6 C).1 (ef 6 C).2 W) w):=by
 refine en 67 Tryz.func148 rfl<|sg<|L0<|d6 #[vP gm 0] fun d z e m a=>L0<|d6 #[vP g 0] fun f A h n o=>Pl 1<|aM 1<|aK #[.nilFunc] fun B D p q r=>L0<|ci q 0 #[.func (.func 198) #[] #[vP f 0,vP d 0]] fun E F s=>nl<|tn<|al 2<|aK #[.bool false] fun G H t u v=>L0<|ci u 0 #[.bool false] fun I x y=>nt<|sq<|sg<|?_
 have i:=ud r (aI s (ud v y t)) p
 have j:=aI o i
 have k:=ub j m
 refine aD k 0<|Pl 2<|?_
 have b:=aI a j
 have l:=ub b hm
 refine aD l 0<|ai 1<|bk<|sg<|aD x 0<|ai 9<|c0<|sq<|sq<|go<|ai 3<|c0<|aE 3<|c0<|go<|Pl 7<|nl<|tn<|c0<|aE 3<|c1<|aE 2<|rt<|br<|tr<|rr (.func (.func 203) #[] #[vP f 0,vP d 0])<|?_
 exact⟨_,_,rfl,by kernel_rfl,b,Em (c:=6) ⟨by decide,by decide⟩ (ak.old hC b) l hne (ub i n) (Ne.symm (nb (ak.lt hC) a.size h)) (Ne.symm (nb (aq hm) a.size h)) k (Ne.symm (nb (ak.lt hC) lr e)) (Ne.symm (nb (aq hm) lr e))⟩
theorem tE{g gm:Nat}{C:ah}{w:World}(hC:ak w g C)(hm:w.heap[gm]? = some (.cells (mC 16) 45 (0,0)))(hne:g≠gm) : Calls Tryz.prog 148 #[vI 0,vP gm 0,vP g 0] w (ka (fun W=>cM g gm (dq 16 C).1 (dq 16 C).2 W) w):=by
 refine en 67 Tryz.func148 rfl<|sg<|L0<|d6 #[vP gm 0] fun j E k t a=>L0<|d6 #[vP g 0] fun l F m u b=>Pl 1<|aM 1<|aK #[.nilFunc] fun v G d x e=>L0<|ci x 0 #[.func (.func 198) #[] #[vP l 0,vP j 0]] fun H y f=>nl<|tn<|al 2<|aK #[.bool false] fun z I h A B=>L0<|ci A 0 #[.bool true] fun J n D=>nt<|sq<|sg<|?_
 have o:=ud B D h
 have p:=ud e (aI f o) d
 have q:=aI b p
 have r:=ub q t
 refine aD r 0<|Pl 2<|?_
 have i:=aI a q
 have s:=ub i hm
 refine aD s 0<|ai 1<|bk<|sg<|aD n 0<|ai 9<|c0<|sq<|sq<|go<|ai 3<|c0<|aE 3<|c0<|go<|Pl 7<|nl<|tn<|c0<|aE 3<|c0<|aE 3<|c1<|aE 2<|rt<|br<|tr<|rr (.func (.func 204) #[] #[vP v 0,vP z 0,vP l 0,vP j 0])<|?_
 exact⟨_,_,rfl,by kernel_rfl,i,DL (c:=16) ⟨by decide,by decide⟩ (ak.old hC i) s hne (ub p u) (Ne.symm (nb (ak.lt hC) a.size m)) (Ne.symm (nb (aq hm) a.size m)) r (Ne.symm (nb (ak.lt hC) lr k)) (Ne.symm (nb (aq hm) lr k)) (ub o y) (Ne.symm (nb (ak.lt hC) (le a.size b.size) d)) (Ne.symm (nb (aq hm) (le a.size b.size) d)) n (Ne.symm (nb (ak.lt hC) (le (le (le a.size b.size) e.size) f.size) h)) (Ne.symm (nb (aq hm) (le (le (le a.size b.size) e.size) f.size) h)) rfl⟩
theorem sH{g gm:Nat}{C:ah}{w:World}(hC:ak w g C)(hm:w.heap[gm]? = some (.cells (mC 16) 45 (0,0)))(hne:g≠gm) : Calls Tryz.prog 148 #[vI 1,vP gm 0,vP g 0] w (ka (fun W=>cM g gm (co 123 16 C).1 (co 123 16 C).2 W) w):=by
 refine en 67 Tryz.func148 rfl<|sg<|L0<|d6 #[vP gm 0] fun j E k t a=>L0<|d6 #[vP g 0] fun l F m u b=>Pl 1<|aM 1<|aK #[.nilFunc] fun v G d x e=>L0<|ci x 0 #[.func (.func 198) #[] #[vP l 0,vP j 0]] fun H y f=>nl<|tn<|al 2<|aK #[.bool false] fun z I h A B=>L0<|ci A 0 #[.bool false] fun J n D=>nt<|sq<|sg<|?_
 have o:=ud B D h
 have p:=ud e (aI f o) d
 have q:=aI b p
 have r:=ub q t
 refine aD r 0<|Pl 2<|?_
 have i:=aI a q
 have s:=ub i hm
 refine aD s 0<|ai 1<|bk<|sg<|aD n 0<|ai 9<|c0<|sq<|sq<|go<|ai 3<|c0<|aE 3<|c0<|go<|Pl 7<|nl<|tn<|c0<|aE 3<|c0<|aE 3<|c1<|aE 2<|rt<|br<|tr<|rr (.func (.func 204) #[] #[vP v 0,vP z 0,vP l 0,vP j 0])<|?_
 exact⟨_,_,rfl,by kernel_rfl,i,DU (c:=16) ⟨by decide,by decide⟩ (ak.old hC i) s hne (ub p u) (Ne.symm (nb (ak.lt hC) a.size m)) (Ne.symm (nb (aq hm) a.size m)) r (Ne.symm (nb (ak.lt hC) lr k)) (Ne.symm (nb (aq hm) lr k)) (ub o y) (Ne.symm (nb (ak.lt hC) (le a.size b.size) d)) (Ne.symm (nb (aq hm) (le a.size b.size) d)) n (Ne.symm (nb (ak.lt hC) (le (le (le a.size b.size) e.size) f.size) h)) (Ne.symm (nb (aq hm) (le (le (le a.size b.size) e.size) f.size) h)) rfl⟩
theorem tz{g gm:Nat}{C:ah}{w:World}(hC:ak w g C)(hm:w.heap[gm]? = some (.cells (mC 22) 45 (0,0)))(hne:g≠gm) : Calls Tryz.prog 148 #[vI 0,vP gm 0,vP g 0] w (ka (fun W=>cM g gm (da 22 C).1 (da 22 C).2 W) w):=by
 refine en 67 Tryz.func148 rfl<|sg<|L0<|d6 #[vP gm 0] fun d z e m a=>L0<|d6 #[vP g 0] fun f A h n o=>Pl 1<|aM 1<|aK #[.nilFunc] fun B D p q r=>L0<|ci q 0 #[.func (.func 198) #[] #[vP f 0,vP d 0]] fun E F s=>nl<|tn<|al 2<|aK #[.bool false] fun G H t u v=>L0<|ci u 0 #[.bool true] fun I x y=>nt<|sq<|sg<|?_
 have i:=ud r (aI s (ud v y t)) p
 have j:=aI o i
 have k:=ub j m
 refine aD k 0<|Pl 2<|?_
 have b:=aI a j
 have l:=ub b hm
 refine aD l 0<|ai 1<|bk<|sg<|aD x 0<|ai 9<|c0<|sq<|sq<|go<|ai 3<|c0<|aE 3<|c0<|go<|Pl 7<|nl<|tn<|c0<|aE 3<|c0<|aE 3<|c0<|aE 3<|c1<|aE 2<|rt<|br<|tr<|rr (.func (.func 206) #[] #[vP f 0,vP d 0])<|?_
 exact⟨_,_,rfl,by kernel_rfl,b,Ec (c:=22) ⟨by decide,by decide⟩ (ak.old hC b) l hne (ub i n) (Ne.symm (nb (ak.lt hC) a.size h)) (Ne.symm (nb (aq hm) a.size h)) k (Ne.symm (nb (ak.lt hC) lr e)) (Ne.symm (nb (aq hm) lr e))⟩
theorem ti{g gm:Nat}{C:ah}{w:World}(hC:ak w g C)(hm:w.heap[gm]? = some (.cells (mC 22) 45 (0,0)))(hne:g≠gm) : Calls Tryz.prog 148 #[vI 1,vP gm 0,vP g 0] w (ka (fun W=>cM g gm (da 22 C).1 (da 22 C).2 W) w):=by
 refine en 67 Tryz.func148 rfl<|sg<|L0<|d6 #[vP gm 0] fun d z e m a=>L0<|d6 #[vP g 0] fun f A h n o=>Pl 1<|aM 1<|aK #[.nilFunc] fun B D p q r=>L0<|ci q 0 #[.func (.func 198) #[] #[vP f 0,vP d 0]] fun E F s=>nl<|tn<|al 2<|aK #[.bool false] fun G H t u v=>L0<|ci u 0 #[.bool false] fun I x y=>nt<|sq<|sg<|?_
 have i:=ud r (aI s (ud v y t)) p
 have j:=aI o i
 have k:=ub j m
 refine aD k 0<|Pl 2<|?_
 have b:=aI a j
 have l:=ub b hm
 refine aD l 0<|ai 1<|bk<|sg<|aD x 0<|ai 9<|c0<|sq<|sq<|go<|ai 3<|c0<|aE 3<|c0<|go<|Pl 7<|nl<|tn<|c0<|aE 3<|c0<|aE 3<|c0<|aE 3<|c1<|aE 2<|rt<|br<|tr<|rr (.func (.func 206) #[] #[vP f 0,vP d 0])<|?_
 exact⟨_,_,rfl,by kernel_rfl,b,Ec (c:=22) ⟨by decide,by decide⟩ (ak.old hC b) l hne (ub i n) (Ne.symm (nb (ak.lt hC) a.size h)) (Ne.symm (nb (aq hm) a.size h)) k (Ne.symm (nb (ak.lt hC) lr e)) (Ne.symm (nb (aq hm) lr e))⟩
theorem sX{g gm:Nat}{C:ah}{w:World}(hC:ak w g C)(hm:w.heap[gm]? = some (.cells (mC 23) 45 (0,0)))(hne:g≠gm) : Calls Tryz.prog 148 #[vI 0,vP gm 0,vP g 0] w (ka (fun W=>cM g gm (dn 23 C).1 (dn 23 C).2 W) w):=by
 refine en 67 Tryz.func148 rfl<|sg<|L0<|d6 #[vP gm 0] fun f D h q a=>L0<|d6 #[vP g 0] fun i E j r b=>Pl 1<|aM 1<|aK #[.nilFunc] fun s F d t u=>L0<|ci t 0 #[.func (.func 198) #[] #[vP i 0,vP f 0]] fun G v x=>nl<|tn<|al 2<|aK #[.bool false] fun H I y z A=>L0<|ci z 0 #[.bool true] fun J k B=>nt<|sq<|sg<|?_
 have l:=ud A B y
 have m:=ud u (aI x l) d
 have n:=aI b m
 have o:=ub n q
 refine aD o 0<|Pl 2<|?_
 have e:=aI a n
 have p:=ub e hm
 refine aD p 0<|ai 1<|bk<|sg<|aD k 0<|ai 9<|c0<|sq<|sq<|go<|ai 3<|c0<|aE 3<|c0<|go<|Pl 3<|L1<|dD k 0<|ai 3<|c0<|aE 3<|c0<|al 3<|nl<|tn<|c0<|aE 3<|c0<|aE 3<|c1<|aE 2<|rt<|br<|tr<|rr (.func (.func 207) #[] #[vP s 0,vP i 0,vP f 0])<|?_
 exact⟨_,_,rfl,by kernel_rfl,e,Er (c:=23) ⟨by decide,by decide⟩ (ak.old hC e) p hne (ub m r) (Ne.symm (nb (ak.lt hC) a.size j)) (Ne.symm (nb (aq hm) a.size j)) o (Ne.symm (nb (ak.lt hC) lr h)) (Ne.symm (nb (aq hm) lr h)) (ub l v) (Ne.symm (nb (ak.lt hC) (le a.size b.size) d)) (Ne.symm (nb (aq hm) (le a.size b.size) d))⟩
theorem t7{g gm:Nat}{C:ah}{w:World}(hC:ak w g C)(hm:w.heap[gm]? = some (.cells (mC 23) 45 (0,0)))(hne:g≠gm) : Calls Tryz.prog 148 #[vI 1,vP gm 0,vP g 0] w (ka (fun W=>cM g gm (cH 23 C).1 (cH 23 C).2 W) w):=by
 refine en 67 Tryz.func148 rfl<|sg<|L0<|d6 #[vP gm 0] fun d z e n a=>L0<|d6 #[vP g 0] fun f A h o p=>Pl 1<|aM 1<|aK #[.nilFunc] fun B D q r s=>L0<|ci r 0 #[.func (.func 198) #[] #[vP f 0,vP d 0]] fun E F t=>nl<|tn<|al 2<|aK #[.bool false] fun G H u v x=>L0<|ci v 0 #[.bool false] fun I i y=>nt<|sq<|sg<|?_
 have j:=ud s (aI t (ud x y u)) q
 have k:=aI p j
 have l:=ub k n
 refine aD l 0<|Pl 2<|?_
 have b:=aI a k
 have m:=ub b hm
 refine aD m 0<|ai 1<|bk<|sg<|aD i 0<|ai 9<|c0<|sq<|sq<|go<|ai 3<|c0<|aE 3<|c0<|go<|Pl 3<|L1<|dD i 0<|ai 3<|c1<|aE 2<|rt<|br<|tr<|rr (.func (.func 201) #[] #[vP f 0,vP d 0])<|?_
 exact⟨_,_,rfl,by kernel_rfl,b,Dr (c:=23) ⟨by decide,by decide⟩ (ak.old hC b) m hne (ub j o) (Ne.symm (nb (ak.lt hC) a.size h)) (Ne.symm (nb (aq hm) a.size h)) l (Ne.symm (nb (ak.lt hC) lr e)) (Ne.symm (nb (aq hm) lr e))⟩
theorem ta{g gm:Nat}{C:ah}{w:World}(hC:ak w g C)(hm:w.heap[gm]? = some (.cells (mC 24) 45 (0,0)))(hne:g≠gm) : Calls Tryz.prog 148 #[vI 0,vP gm 0,vP g 0] w (ka (fun W=>cM g gm (dp 24 C).1 (dp 24 C).2 W) w):=by
 refine en 67 Tryz.func148 rfl<|sg<|L0<|d6 #[vP gm 0] fun d z e n a=>L0<|d6 #[vP g 0] fun f A h o p=>Pl 1<|aM 1<|aK #[.nilFunc] fun B D q r s=>L0<|ci r 0 #[.func (.func 198) #[] #[vP f 0,vP d 0]] fun E F t=>nl<|tn<|al 2<|aK #[.bool false] fun G H u v x=>L0<|ci v 0 #[.bool true] fun I i y=>nt<|sq<|sg<|?_
 have j:=ud s (aI t (ud x y u)) q
 have k:=aI p j
 have l:=ub k n
 refine aD l 0<|Pl 2<|?_
 have b:=aI a k
 have m:=ub b hm
 refine aD m 0<|ai 1<|bk<|sg<|aD i 0<|ai 9<|c0<|sq<|sq<|go<|ai 3<|c0<|aE 3<|c0<|go<|Pl 7<|nl<|tn<|c0<|aE 3<|c0<|aE 3<|c0<|aE 3<|c0<|aE 3<|c0<|al 3<|L1<|dD i 0<|ai 2<|c1<|aE 2<|rt<|br<|tr<|rr (.func (.func 208) #[] #[vP f 0,vP d 0])<|?_
 exact⟨_,_,rfl,by kernel_rfl,b,Ew (c:=24) ⟨by decide,by decide⟩ (ak.old hC b) m hne (ub j o) (Ne.symm (nb (ak.lt hC) a.size h)) (Ne.symm (nb (aq hm) a.size h)) l (Ne.symm (nb (ak.lt hC) lr e)) (Ne.symm (nb (aq hm) lr e))⟩
theorem tF{g gm:Nat}{C:ah}{w:World}(hC:ak w g C)(hm:w.heap[gm]? = some (.cells (mC 24) 45 (0,0)))(hne:g≠gm) : Calls Tryz.prog 148 #[vI 1,vP gm 0,vP g 0] w (ka (fun W=>cM g gm (lZ 24 C).1 (lZ 24 C).2 W) w):=by
 refine en 67 Tryz.func148 rfl<|sg<|L0<|d6 #[vP gm 0] fun d z e n a=>L0<|d6 #[vP g 0] fun f A h o p=>Pl 1<|aM 1<|aK #[.nilFunc] fun B D q r s=>L0<|ci r 0 #[.func (.func 198) #[] #[vP f 0,vP d 0]] fun E F t=>nl<|tn<|al 2<|aK #[.bool false] fun G H u v x=>L0<|ci v 0 #[.bool false] fun I i y=>nt<|sq<|sg<|?_
 have j:=ud s (aI t (ud x y u)) q
 have k:=aI p j
 have l:=ub k n
 refine aD l 0<|Pl 2<|?_
 have b:=aI a k
 have m:=ub b hm
 refine aD m 0<|ai 1<|bk<|sg<|aD i 0<|ai 9<|c0<|sq<|sq<|go<|ai 3<|c0<|aE 3<|c0<|go<|Pl 7<|nl<|tn<|c0<|aE 3<|c0<|aE 3<|c0<|aE 3<|c0<|aE 3<|c0<|al 3<|L1<|dD i 0<|ai 2<|c0<|aE 3<|c1<|aE 2<|rt<|br<|tr<|rr (.func (.func 209) #[] #[vP f 0,vP d 0])<|?_
 exact⟨_,_,rfl,by kernel_rfl,b,En (c:=24) ⟨by decide,by decide⟩ (ak.old hC b) m hne (ub j o) (Ne.symm (nb (ak.lt hC) a.size h)) (Ne.symm (nb (aq hm) a.size h)) l (Ne.symm (nb (ak.lt hC) lr e)) (Ne.symm (nb (aq hm) lr e))⟩
theorem sW{c:Int}{g gm:Nat}{C:ah}{w:World}(hC:ak w g C)(hm:w.heap[gm]? = some (.cells (mC c) 45 (0,0)))(hne:g≠gm)(k3:(c==3)=false)(k4:(c==4)=false)(k6:(c==6)=false)(f:(c==16)=false)(h:(c==22)=false)(a:(c==23)=false)(b:(c==24)=false) : Calls Tryz.prog 148 #[vI 0,vP gm 0,vP g 0] w (cl .nilFunc w):=by
 refine en 67 Tryz.func148 rfl<|sg<|L0<|d6 #[vP gm 0] fun i x y j k=>L0<|d6 #[vP g 0] fun l z A B m=>Pl 1<|aM 1<|aK #[.nilFunc] fun D E n o p=>L0<|ci o 0 #[.func (.func 198) #[] #[vP l 0,vP i 0]] fun F G q=>nl<|tn<|al 2<|aK #[.bool false] fun H I r s t=>L0<|ci s 0 #[.bool true] fun J u v=>nt<|sq<|sg<|?_
 have d:=aI m (ud p (aI q (ud t v r)) n)
 refine aD (ub d j) 0<|Pl 2<|?_
 have e:=aI k d
 exact aD (ub e hm) 0<|ai 1<|bk<|sg<|aD u 0<|Pl 4<|sy 22 k3<|ai 5<|cf k4<|sq<|aE 3<|cf k3<|aE 3<|cf k4<|go<|Pl 3<|sy 35 a<|ai 4<|c0<|aE 3<|cf k6<|aE 3<|cf f<|aE 3<|cf h<|al 3<|nl<|tn<|cf a<|al 3<|sy 59 b<|ai 3<|c0<|al 3<|nl<|tn<|cf b<|sk<|bn<|tn<|aE 1<|rt<|rr (.nilFunc)<|⟨rfl,e⟩
theorem sm{c:Int}{g gm:Nat}{C:ah}{w:World}(hC:ak w g C)(hm:w.heap[gm]? = some (.cells (mC c) 45 (0,0)))(hne:g≠gm)(k3:(c==3)=false)(k4:(c==4)=false)(k6:(c==6)=false)(f:(c==16)=false)(h:(c==22)=false)(a:(c==23)=false)(b:(c==24)=false) : Calls Tryz.prog 148 #[vI 1,vP gm 0,vP g 0] w (cl .nilFunc w):=by
 refine en 67 Tryz.func148 rfl<|sg<|L0<|d6 #[vP gm 0] fun i x y j k=>L0<|d6 #[vP g 0] fun l z A B m=>Pl 1<|aM 1<|aK #[.nilFunc] fun D E n o p=>L0<|ci o 0 #[.func (.func 198) #[] #[vP l 0,vP i 0]] fun F G q=>nl<|tn<|al 2<|aK #[.bool false] fun H I r s t=>L0<|ci s 0 #[.bool false] fun J u v=>nt<|sq<|sg<|?_
 have d:=aI m (ud p (aI q (ud t v r)) n)
 refine aD (ub d j) 0<|Pl 2<|?_
 have e:=aI k d
 exact aD (ub e hm) 0<|ai 1<|bk<|sg<|aD u 0<|ai 9<|c0<|sq<|sq<|go<|ai 3<|cf k3<|aE 3<|cf k4<|go<|Pl 3<|sy 35 a<|ai 4<|c0<|aE 3<|cf k6<|al 3<|nl<|tn<|cf f<|aE 3<|cf h<|aE 3<|cf a<|al 3<|sy 59 b<|ai 3<|c0<|aE 3<|cf b<|sk<|bn<|tn<|aE 1<|rt<|rr (.nilFunc)<|⟨rfl,e⟩
theorem mD{dir c:Int}{r:ah × aU}{g gm:Nat}{C:ah}{w:World}(hC:ak w g C)(hm:w.heap[gm]? = some (.cells (mC c) 45 (0,0)))(hne:g≠gm)(hd:dir=0∨dir=1)(h:aW dir c C=some r) : Calls Tryz.prog 148 #[.int .i64 dir,.pointer (some ⟨gm,0,none⟩),.pointer (some ⟨g,0,none⟩)] w (ka (fun W=>cM g gm r.1 r.2 W) w):=by
  by_cases h3:c=3
  · subst h3
    rcases hd with rfl|rfl
    · obtain rfl:co 125 3 C=r:=Option.some.inj h
      exact vD hC hm hne
    · obtain rfl:cH 3 C=r:=Option.some.inj h
      exact uS hC hm hne
  by_cases h4:c=4
  · subst h4
    rcases hd with rfl|rfl
    · obtain rfl:co 125 4 C=r:=Option.some.inj h
      exact v6 hC hm hne
    · obtain rfl:cH 4 C=r:=Option.some.inj h
      exact ve hC hm hne
  by_cases h6:c=6
  · subst h6
    rcases hd with rfl|rfl
    · obtain rfl:ef 6 C=r:=Option.some.inj h
      exact wc hC hm hne
    · obtain rfl:ef 6 C=r:=Option.some.inj h
      exact w8 hC hm hne
  by_cases a:c=16
  · subst a
    rcases hd with rfl|rfl
    · obtain rfl:dq 16 C=r:=Option.some.inj h
      exact tE hC hm hne
    · obtain rfl:co 123 16 C=r:=Option.some.inj h
      exact sH hC hm hne
  by_cases b:c=22
  · subst b
    rcases hd with rfl|rfl
    · obtain rfl:da 22 C=r:=Option.some.inj h
      exact tz hC hm hne
    · obtain rfl:da 22 C=r:=Option.some.inj h
      exact ti hC hm hne
  by_cases d:c=23
  · subst d
    rcases hd with rfl|rfl
    · obtain rfl:dn 23 C=r:=Option.some.inj h
      exact sX hC hm hne
    · obtain rfl:cH 23 C=r:=Option.some.inj h
      exact t7 hC hm hne
  by_cases e:c=24
  · subst e
    rcases hd with rfl|rfl
    · obtain rfl:dp 24 C=r:=Option.some.inj h
      exact ta hC hm hne
    · obtain rfl:lZ 24 C=r:=Option.some.inj h
      exact tF hC hm hne
  exfalso
  unfold aW at h
  simp[h3,h4,h6,a,b,d,e] at h
theorem mr{dir c:Int}{g gm:Nat}{C:ah}{w:World}(hC:ak w g C)(hm:w.heap[gm]? = some (.cells (mC c) 45 (0,0)))(hne:g≠gm)(hd:dir=0∨dir=1)(h:aW dir c C=none) : Calls Tryz.prog 148 #[.int .i64 dir,.pointer (some ⟨gm,0,none⟩),.pointer (some ⟨g,0,none⟩)] w (cl .nilFunc w):=by
  have k3:(c==3)=false:=by
    cases hk:(c==3)
    · rfl
    · obtain rfl:c=3:=by simpa using hk
      rcases hd with rfl|rfl<;>cases h
  have k4:(c==4)=false:=by
    cases hk:(c==4)
    · rfl
    · obtain rfl:c=4:=by simpa using hk
      rcases hd with rfl|rfl<;>cases h
  have k6:(c==6)=false:=by
    cases hk:(c==6)
    · rfl
    · obtain rfl:c=6:=by simpa using hk
      rcases hd with rfl|rfl<;>cases h
  have a:(c==16)=false:=by
    cases hk:(c==16)
    · rfl
    · obtain rfl:c=16:=by simpa using hk
      rcases hd with rfl|rfl<;>cases h
  have b:(c==22)=false:=by
    cases hk:(c==22)
    · rfl
    · obtain rfl:c=22:=by simpa using hk
      rcases hd with rfl|rfl<;>cases h
  have d:(c==23)=false:=by
    cases hk:(c==23)
    · rfl
    · obtain rfl:c=23:=by simpa using hk
      rcases hd with rfl|rfl<;>cases h
  have e:(c==24)=false:=by
    cases hk:(c==24)
    · rfl
    · obtain rfl:c=24:=by simpa using hk
      rcases hd with rfl|rfl<;>cases h
  rcases hd with rfl|rfl
  · exact sW hC hm hne k3 k4 k6 a b d e
  · exact sm hC hm hne k3 k4 k6 a b d e
open Go.RowKit
theorem pS{m:Md}{A:Option Addr}{cp:Nat}{b:List Int}{w:World}{c:Int}(hcode:B8 c)(hsl:aZ m w (.slice A b.length cp) b)(hb:b.length≤1048576) :
    Calls Tryz.prog 98 #[vI 0,vB c,.slice A b.length cp] w (eL (aj aW 0 c b) w):=by
 obtain⟨hcode1,hcode2⟩:=hcode
 have hln:(b.length:Int)≤1048576:=by omega
 refine en 40 Tryz.func98 rfl<|sg<|aK mZ fun U V k i v=>ai 1<|sq<|aE 6<|c0<|bj<|al 2<|aK mZ fun W X g l K=>aG l (mC c) fun Y x n=>aM 1<|?_
 have h:=ud K n g
 have o:=aI v h
 refine ay<|e3 (eq (aZ.old hsl o) (by omega)) fun Z a0 d y a=>Pl 1<|aM 2<|?_
 have z:=aI o a
 refine wo (aW 0 c ⟨b,false,0⟩) (fun hr=>?_) (fun r hr=>?_)
 refine ay<|m1 (mr (dir:=0) (c:=c) y (ub a x) (Ne.symm (nb (aq l) n.size d)) (Or.inl rfl) hr) fun a1 B=>ai 1<|sq<|aE 2<|c1<|al 1<|?_
 refine aG (ub (aI h (aI a B)) i) mZ fun a2 L M=>ai 1<|aX<|bJ L (vI 4)<|?_
 exact cv (by unfold aj;(try simp only[bi,dJ,dP,dL,dN,dO,reduceIte,hr])<;>rfl) (cR (ud z (uz B M) k))
 have C:=nb (aq l) n.size d
 refine ay<|s7 (mD (dir:=0) (c:=c) y (ub a x) (Ne.symm C) (Or.inl rfl) hr) fun N D a3 O E hcall51=>ai 1<|sq<|aE 2<|c0<|bj<|sq<|go<|Pl 1<|L0<|i3 (f:=N) (args:=D) (hf:=O) #[] D<|m3 (hcall51) fun a4 F P G=>?_
 obtain⟨Q,j,p⟩:=P
 refine aM 1<|ay<|m2 (cC F) fun a5 H q=>nt<|sq<|al 1<|ay<|mq (bL H)<|?_
 have a6:=ak.len H
 refine Pl 1<|cE 2<|?_
 have s:=uz E (u1 G q im)
 have I:=ut z s (ac (ni o.size d) (ac (ni v.size g) aA))
 have hs:aj aW 0 c b=bp r.2 r.1:=by
   unfold aj
   (try simp only[bi,dJ,dP,dL,dN,dO,reduceIte,hr])
   all_goals rfl
 refine cb ((r.1.endC.e != 0)) (fun t=>?_) (fun t=>?_)
 have u:=aB t
 refine al 2<|?_
 refine aG (ub (ud h (ud a s d) g) i) mZ fun a7 R S=>ai 1<|aX<|bJ R (vI r.1.endC.e)<|?_
 rw[hs]
 exact bH u (ud I S k)
 have u:=az t
 refine bj<|sg<|?_
 refine L0<|bN (hz:=(by rw[j.2];exact aQ)) (be q C j.1)<|?_
 refine aG (hz:=(by rw[j.2];exact aQ)) (hv:=p.size) (h1:=p.one) (ub (ud h (ud a s d) g) i) (Q) fun a8 T J=>ai 1<|rt<|fd 22 j.2 T (vI 0)<|?_
 rw[hs]
 exact bM u (aJ.upd p (us q J) (ax (ak.safe F _ (by decide)) (ax (b7 (ub (ud h (ud a (uz E G) d) g) i) (by decide)) aN))) (ud I J k)
theorem pa{m:Md}{A:Option Addr}{cp:Nat}{b:List Int}{w:World}{c:Int}(hcode:B8 c)(hsl:aZ m w (.slice A b.length cp) b)(hb:b.length≤1048576) :
    Calls Tryz.prog 98 #[vI 1,vB c,.slice A b.length cp] w (eL (aj aW 1 c b) w):=by
 obtain⟨hcode1,hcode2⟩:=hcode
 have hln:(b.length:Int)≤1048576:=by omega
 refine en 40 Tryz.func98 rfl<|sg<|aK mZ fun U V k i v=>ai 1<|sq<|aE 6<|c0<|bj<|al 2<|aK mZ fun W X g l K=>aG l (mC c) fun Y x n=>aM 1<|?_
 have h:=ud K n g
 have o:=aI v h
 refine ay<|e3 (eq (aZ.old hsl o) (by omega)) fun Z a0 d y a=>Pl 1<|aM 2<|?_
 have z:=aI o a
 refine wo (aW 1 c ⟨b,false,0⟩) (fun hr=>?_) (fun r hr=>?_)
 refine ay<|m1 (mr (dir:=1) (c:=c) y (ub a x) (Ne.symm (nb (aq l) n.size d)) (Or.inr rfl) hr) fun a1 B=>ai 1<|sq<|aE 2<|c1<|al 1<|?_
 refine aG (ub (aI h (aI a B)) i) mZ fun a2 L M=>ai 1<|aX<|bJ L (vI 4)<|?_
 exact cv (by unfold aj;(try simp only[bi,dJ,dP,dL,dN,dO,reduceIte,hr])<;>rfl) (cR (ud z (uz B M) k))
 have C:=nb (aq l) n.size d
 refine ay<|s7 (mD (dir:=1) (c:=c) y (ub a x) (Ne.symm C) (Or.inr rfl) hr) fun N D a3 O E hcall51=>ai 1<|sq<|aE 2<|c0<|bj<|sq<|go<|Pl 1<|L0<|i3 (f:=N) (args:=D) (hf:=O) #[] D<|m3 (hcall51) fun a4 F P G=>?_
 obtain⟨Q,j,p⟩:=P
 refine aM 1<|ay<|m2 (cC F) fun a5 H q=>nt<|sq<|al 1<|ay<|mq (bL H)<|?_
 have a6:=ak.len H
 refine Pl 1<|cE 2<|?_
 have s:=uz E (u1 G q im)
 have I:=ut z s (ac (ni o.size d) (ac (ni v.size g) aA))
 have hs:aj aW 1 c b=bp r.2 r.1:=by
   unfold aj
   (try simp only[bi,dJ,dP,dL,dN,dO,reduceIte,hr])
   all_goals rfl
 refine cb ((r.1.endC.e != 0)) (fun t=>?_) (fun t=>?_)
 have u:=aB t
 refine al 2<|?_
 refine aG (ub (ud h (ud a s d) g) i) mZ fun a7 R S=>ai 1<|aX<|bJ R (vI r.1.endC.e)<|?_
 rw[hs]
 exact bH u (ud I S k)
 have u:=az t
 refine bj<|sg<|?_
 refine L0<|bN (hz:=(by rw[j.2];exact aQ)) (be q C j.1)<|?_
 refine aG (hz:=(by rw[j.2];exact aQ)) (hv:=p.size) (h1:=p.one) (ub (ud h (ud a s d) g) i) (Q) fun a8 T J=>ai 1<|rt<|fd 22 j.2 T (vI 0)<|?_
 rw[hs]
 exact bM u (aJ.upd p (us q J) (ax (ak.safe F _ (by decide)) (ax (b7 (ub (ud h (ud a (uz E G) d) g) i) (by decide)) aN))) (ud I J k)
theorem p4{m:Md}{A:Option Addr}{cp:Nat}{b:List Int}{w:World}{dir c:Int}(hcode:B8 c)(hsl:aZ m w (.slice A b.length cp) b)(hb:b.length≤1048576)(hd:¬ (dir=0∨dir=1)) :
    Calls Tryz.prog 98 #[vI dir,vB c,.slice A b.length cp] w (eL (aj aW dir c b) w):=by
 obtain⟨hcode1,hcode2⟩:=hcode
 have hln:(b.length:Int)≤1048576:=by omega
 have e0:(dir != 0)=true:=by simp;omega
 have e1:(dir != 1)=true:=by simp;omega
 refine en 40 Tryz.func98 rfl<|sg<|aK mZ fun g h a d e=>ai 1<|sq<|al 3<|sy 14 e0<|Pl 3<|nl<|tn<|ct e1<|al 1<|aG d mZ fun i eN f=>ai 1<|aX<|bJ eN (vI 1)<|?_
 exact cv (by unfold aj aW;(try simp only[e0,e1,bi,dJ,dP,dL,dN,dO,reduceIte,hd])<;>rfl) (cR (ud e f a))
theorem md{m:Md}{v:Value}{b:List Int}{w:World}{dir c:Int}(hc:B8 c)(h:aZ m w v b)(hb:b.length≤1048576) :
    Calls Tryz.prog 98 #[.int .i64 dir,.int .u8 c,v] w (eL (aj aW dir c b) w):=by
  obtain⟨A,cp,rfl,_,_⟩:=h.shape
  by_cases h0:dir=0
  · subst h0;exact pS hc h hb
  by_cases h1:dir=1
  · subst h1;exact pa hc h hb
  exact p4 hc h hb (by omega)
open Go.RowKit
theorem mz{most:Int}{g gm:Nat}{c:Int}{C:ah}{w:World}(hcode:B8 c)(hC:ak w g C)(hm:w.heap[gm]? = some (.cells (mC c) 45 (0,0)))(hne:g≠gm) :
    Calls Tryz.prog 193 #[.agg #[vP g 0,vP gm 0],vW most] w (sr g gm (bV C most) (mG c 0 C.wordV (C.wordsC 1).wordV 0 0 0 0 0 0 0 0 nS nS nS nS 0 0 0 0 0 nS) w):=by
 obtain⟨hcode1,hcode2⟩:=hcode
 have hlen:=hC.len
 refine en 51 Tryz.func193 rfl<|sg<|L0<|d6 #[vP g 0,vP gm 0] fun f al P a7 a8=>nt<|sq<|Rg 8 (fun w'=>w'.cell? ⟨f,1,none⟩=some (vP gm 0)∧w'.cell? ⟨f,0,none⟩=some (vP g 0)) fun am Q=>?_
 have t:=ub Q a7
 refine bo ⟨(ae t rfl),(ae t rfl)⟩ fun o=>Rt 0 o<|Rl 1 o (fun _ hs=>hs.1)<|Rt 2 o<|Rl 3 o (fun _ hs=>hs.2)<|?_
 have R:=aI a8 Q
 refine R0 4 rfl<|Oc<|m3 (cg (ak.old hC R)) fun an a9 S ao=>?_
 have h:=nb (ak.lt hC) lr P
 have u:=be S (Ne.symm h) t
 refine bo ⟨(ae u rfl),(ae u rfl)⟩ fun T=>Rt 5 T<|Rt 6 T<|?_
 have U:=uz R S
 have V:=be U (Ne.symm hne) hm
 refine R0 7 rfl<|ci V 2 (mG c 0 C.wordV 0 0 0 0 0 0 0 0 0 nS nS nS nS 0 0 0 0 0 nS) fun ap ab W=>?_
 have X:=nb (aq hm) lr P
 have v:=be W (Ne.symm X) u
 refine bo ⟨(ae v rfl),(ae v rfl)⟩ fun ar=>re<|tn<|sq<|Rg 8 (fun w'=>w'.cell? ⟨f,1,none⟩=some (vP gm 0)∧w'.cell? ⟨f,0,none⟩=some (vP g 0)) fun au x=>?_
 have y:=ub x v
 refine bo ⟨(ae y rfl),(ae y rfl)⟩ fun p=>Rt 0 p<|Rl 1 p (fun _ hs=>hs.1)<|Rt 2 p<|Rl 3 p (fun _ hs=>hs.2)<|?_
 have Y:=aI W x
 refine R0 4 rfl<|Oc<|m3 (cg (ak.upd a9 Y (aa hne aF) (ax (b7 V (by decide)) aN))) fun av Z z aw=>?_
 have A:=be z (Ne.symm h) y
 refine bo ⟨(ae A rfl),(ae A rfl)⟩ fun a0=>Rt 5 a0<|Rt 6 a0<|?_
 have B:=be (uz x z) (Ne.symm hne) ab
 refine R0 7 rfl<|ci B 3 (mG c 0 C.wordV ((C.wordsC 1).wordV) 0 0 0 0 0 0 0 0 nS nS nS nS 0 0 0 0 0 nS) fun ay ac a1=>?_
 have D:=be a1 (Ne.symm X) A
 refine bo ⟨(ae D rfl),(ae D rfl)⟩ fun az=>re<|tn<|sq<|Rg 18 (fun w'=>w'.cell? ⟨f,0,none⟩=some (vP g 0)∧w'.cell? ⟨f,1,none⟩=some (vP gm 0)∧w'.cell? ⟨gm,3,none⟩=some (vW ((C.wordsC 1).wordV))) fun aA E=>?_
 have q:=ub E D
 have F:=ub E ac
 refine bo ⟨(ae q rfl),(ae q rfl),(ae F rfl)⟩ fun b=>Rt 0 b<|Rl 1 b (fun _ hs=>hs.1)<|Rt 2 b<|Rl 3 b (fun _ hs=>hs.2.1)<|Rt 4 b<|Rt 5 b<|Rl 6 b (fun _ hs=>hs.2.2)<|Rt 7 b<|Rt 8 b<|?_
 have G:=aI a1 E
 have a2:=ui U (ui Y (us z G))
 refine uu 26 ((decide (1≤((C.wordsC 1).wordV)))) (fun i=>?_) (fun i=>?_)
 have ad:=of_decide_eq_true i
 refine Rt 9 b<|Rl 10 b (fun _ hs=>hs.2.1)<|Rt 11 b<|Rt 12 b<|Rl 13 b (fun _ hs=>hs.2.2)<|Rt 14 b<|Rt 15 b<|Rt 16 b<|?_
 refine R0 17 rfl<|Oc<|m2 (bt ((decide (((C.wordsC 1).wordV)≤most))) 5 (ak.upd Z G (aa hne aF) (ax (b7 B (by decide)) aN))) fun aB af H=>?_
 have I:=be H (Ne.symm h) q
 have a3:=be H (Ne.symm hne) F
 refine bo ⟨(ae I rfl),(ae I rfl),(ae a3 rfl)⟩ fun aC=>re<|tn<|Rg 15 (fun w'=>w'.cell? ⟨f,0,none⟩=some (vP g 0)∧w'.cell? ⟨f,1,none⟩=some (vP gm 0)∧w'.cell? ⟨gm,2,none⟩=some (vW C.wordV)∧w'.cell? ⟨gm,3,none⟩=some (vW ((C.wordsC 1).wordV))) fun aD r=>?_
 have j:=ub r I
 have k:=ub r a3
 refine bo ⟨(ae j rfl),(ae j rfl),(ae k rfl),(ae k rfl)⟩ fun d=>Rt 0 d<|Rl 1 d (fun _ hs=>hs.1)<|Rt 2 d<|Rl 3 d (fun _ hs=>hs.2.1)<|Rt 4 d<|Rt 5 d<|Rl 6 d (fun _ hs=>hs.2.2.1)<|Rt 7 d<|Rl 8 d (fun _ hs=>hs.2.1)<|Rt 9 d<|Rt 10 d<|Rl 11 d (fun _ hs=>hs.2.2.2)<|Rr 12 d (vI ((C.wordsC 1).wordV)) (fun _ _=>bX (vI (IntKind.i64.wrap ((C.wordsC 1).wordV))) (by kernel_rfl) (congrArg (Value.int .i64) (i64_in (by omega))))<|R0 13 rfl<|Oc<|mq (jW (a:=C.wordV) (n:=(C.wordsC 1).wordV) (by omega))<|bo ⟨(ae j rfl),(ae j rfl),(ae k rfl),(ae k rfl)⟩ fun aE=>?_
 refine R0 14 rfl<|Oc<|m2 (bt ((dY C.wordV ((C.wordsC 1).wordV))) 7 (ak.old af r)) fun aG ag J=>?_
 have a4:=be J (Ne.symm h) j
 have K:=be J (Ne.symm hne) k
 refine bo ⟨(ae a4 rfl),(ae a4 rfl),(ae K rfl),(ae K rfl)⟩ fun aH=>re<|rm (.tuple #[])<|?_
 have hs:bV C most=((((C.wordsC 1).wordsC 1).need (decide (((C.wordsC 1).wordV)≤most)) 5).need (dY C.wordV ((C.wordsC 1).wordV)) 7):=by
   unfold bV jZ
   (try simp only[i,bi,reduceIte])
   all_goals rfl
 rw[hs]
 exact⟨rfl,ag,K,(u1 a2 (u1 H (uz r J) im) im)⟩
 have ad:=of_decide_eq_false i
 refine Ro 9 b<|Ro 10 b<|Ro 11 b<|Ro 12 b<|Ro 13 b<|Ro 14 b<|Ro 15 b<|Rt 16 b<|?_
 refine R0 17 rfl<|Oc<|m2 (bt (false) 5 (ak.upd Z G (aa hne aF) (ax (b7 B (by decide)) aN))) fun aJ ai L=>?_
 have M:=be L (Ne.symm h) q
 have a5:=be L (Ne.symm hne) F
 refine bo ⟨(ae M rfl),(ae M rfl),(ae a5 rfl)⟩ fun aK=>re<|tn<|Rg 15 (fun w'=>w'.cell? ⟨f,0,none⟩=some (vP g 0)∧w'.cell? ⟨f,1,none⟩=some (vP gm 0)∧w'.cell? ⟨gm,2,none⟩=some (vW C.wordV)∧w'.cell? ⟨gm,3,none⟩=some (vW ((C.wordsC 1).wordV))) fun aL s=>?_
 have l:=ub s M
 have m:=ub s a5
 refine bo ⟨(ae l rfl),(ae l rfl),(ae m rfl),(ae m rfl)⟩ fun e=>Rt 0 e<|Rl 1 e (fun _ hs=>hs.1)<|Rt 2 e<|Rl 3 e (fun _ hs=>hs.2.1)<|Rt 4 e<|Rt 5 e<|Rl 6 e (fun _ hs=>hs.2.2.1)<|Rt 7 e<|Rl 8 e (fun _ hs=>hs.2.1)<|Rt 9 e<|Rt 10 e<|Rl 11 e (fun _ hs=>hs.2.2.2)<|Rr 12 e (vI ((C.wordsC 1).wordV)) (fun _ _=>bX (vI (IntKind.i64.wrap ((C.wordsC 1).wordV))) (by kernel_rfl) (congrArg (Value.int .i64) (i64_in (by omega))))<|R0 13 rfl<|Oc<|mq (jW (a:=C.wordV) (n:=(C.wordsC 1).wordV) (by omega))<|bo ⟨(ae l rfl),(ae l rfl),(ae m rfl),(ae m rfl)⟩ fun aM=>?_
 refine R0 14 rfl<|Oc<|m2 (bt ((dY C.wordV ((C.wordsC 1).wordV))) 7 (ak.old ai s)) fun aO aj N=>?_
 have a6:=be N (Ne.symm h) l
 have O:=be N (Ne.symm hne) m
 refine bo ⟨(ae a6 rfl),(ae a6 rfl),(ae O rfl),(ae O rfl)⟩ fun aP=>re<|rm (.tuple #[])<|?_
 have hs:bV C most=((((C.wordsC 1).wordsC 1).need false 5).need (dY C.wordV ((C.wordsC 1).wordV)) 7):=by
   unfold bV jZ
   (try simp only[i,bi,reduceIte])
   all_goals rfl
 rw[hs]
 exact⟨rfl,aj,O,(u1 a2 (u1 L (uz s N) im) im)⟩
theorem km{g gm:Nat}{c:Int}{C:ah}{w:World}(hcode:B8 c)(hC:ak w g C)(hm:w.heap[gm]? = some (.cells (mC c) 45 (0,0)))(hne:g≠gm) :
    Calls Tryz.prog 140 #[.agg #[vP g 0,vP gm 0]] w (cM g gm (eE 2000 c C).1 (eE 2000 c C).2 w):=by
 obtain⟨hcode1,hcode2⟩:=hcode
 have hlen:=hC.len
 refine en 4 Tryz.func140 rfl<|sg<|L0<|d6 #[vP g 0,vP gm 0] fun i j k d a=>nt<|go<|L0<|bN d<|?_
 have b:=ak.old hC a
 refine ay<|m3 (mz (most:=2000) ⟨hcode1,hcode2⟩ b (ub a hm) hne) fun l e f h=>?_
 have m:=(b).wordV
 have n:=bR (cU (b).rng 1)
 refine nl<|rm (.tuple #[])<|?_
 exact cv (by unfold eE;(try simp only[bi,reduceIte])<;>rfl) ⟨rfl,e,⟨_,⟨f,rfl⟩,⟨_,_,_,_,_,rfl,aS.nil ..,aS.nil ..,aS.nil ..,aS.nil ..,aS.nil ..,⟨(b8 (x:=c) (by omega)),(b8 (x:=0) (by omega)),(cP (x:=C.wordV) (by omega)),(cP (x:=(C.wordsC 1).wordV) (by omega)),(cP (x:=0) (by omega)),(cP (x:=0) (by omega)),(cP (x:=0) (by omega)),(cP (x:=0) (by omega)),(cP (x:=0) (by omega)),(cP (x:=0) (by omega)),(cP (x:=0) (by omega)),(cP (x:=0) (by omega)),(b8 (x:=0) (by omega)),(b8 (x:=0) (by omega)),(b8 (x:=0) (by omega)),(b8 (x:=0) (by omega)),(b8 (x:=0) (by omega))⟩⟩⟩,(uz a h)⟩
theorem oE{g gm:Nat}{c:Int}{C:ah}{w:World}(hcode:B8 c)(hC:ak w g C)(hm:w.heap[gm]? = some (.cells (mC c) 45 (0,0)))(hne:g≠gm) :
    Calls Tryz.prog 141 #[.agg #[vP g 0,vP gm 0]] w (cM g gm (ep c C).1 (ep c C).2 w):=by
 obtain⟨hcode1,hcode2⟩:=hcode
 have hlen:=hC.len
 refine en 24 Tryz.func141 rfl<|sg<|L0<|d6 #[vP g 0,vP gm 0] fun j L k l m=>aM 1<|aD l 0<|?_
 refine ay<|m3 (cc (ak.old hC m)) fun M A o N=>Pl 1<|aM 1<|?_
 have e:=nb (ak.lt hC) lr k
 have p:=be o (Ne.symm e) l
 refine aD p 0<|Pl 3<|cu 3 [10] 13 (((decide (1≤C.byteV))&&(decide (C.byteV≤250)))) (fun K q=>?_) ?_
 refine bl 10 ((decide (1≤C.byteV))) (fun b=>?_) (fun b=>?_)
 have B:=of_decide_eq_true b
 exact Pl 3<|ce q (decide (C.byteV≤250)) (by rw[b];rfl)
 have B:=of_decide_eq_false b
 exact Pl 3<|ce q false (by rw[b];rfl)
 refine ay<|m2 (bt (((decide (1≤C.byteV))&&(decide (C.byteV≤250)))) 5 A) fun O D E=>nt<|Rg 10 (fun w'=>w'.cell? ⟨j,1,none⟩=some (vP gm 0)∧w'.cell? ⟨j,0,none⟩=some (vP g 0)) fun P r=>?_
 have s:=aI E r
 have f:=be s (Ne.symm e) p
 refine bo ⟨(ae f rfl),(ae f rfl)⟩ fun a=>Rt 0 a<|Rl 1 a (fun _ hs=>hs.1)<|Rt 2 a<|Rl 3 a (fun _ hs=>hs.2)<|Rt 4 a<|Rr 5 a (vI C.byteV) (fun _ _=>bX (vI (IntKind.i64.wrap C.byteV)) (by kernel_rfl) (congrArg (Value.int .i64) (i64_in (by omega))))<|?_
 have t:=ak.old D r
 refine R0 6 rfl<|Oc<|vc (cL (n:=C.byteV) t) fun F G Q H R S I u=>?_
 have T:=Nat.le_trans (ah.bytesR_le ((C.bytesC 1).need ((decide (1≤C.byteV))&&(decide (C.byteV≤250))) 5) C.byteV) (ak.len t)
 have h:=be u (Ne.symm e) f
 refine bo ⟨(ae h rfl),(ae h rfl)⟩ fun v=>Rt 7 v<|Rt 8 v<|?_
 have y:=uz m (u1 o (u1 s u im) im)
 have i:=be y (Ne.symm hne) hm
 refine R0 9 rfl<|ci i 14 (mG c 0 0 0 0 0 0 0 0 0 0 0 nS nS (.slice F ((((C.bytesC 1).need ((decide (1≤C.byteV))&&(decide (C.byteV≤250))) 5).bytesR C.byteV).length) G) nS 0 0 0 0 0 nS) fun U J d=>?_
 have z:=be d (Ne.symm (nb (aq hm) lr k)) h
 refine bo ⟨(ae z rfl),(ae z rfl)⟩ fun V=>re<|rm (.tuple #[])<|?_
 exact cv (by unfold ep eb;(try simp only[bi,reduceIte])<;>rfl) ⟨rfl,(ak.upd I d (aa hne aF) (ax (b7 i (by decide)) aN)),⟨_,⟨J,rfl⟩,⟨_,_,_,_,_,rfl,aS.nil ..,aS.nil ..,(aZ.upd' H d (ax (b7 i (by decide)) aN)),aS.nil ..,aS.nil ..,⟨(b8 (x:=c) (by omega)),(b8 (x:=0) (by omega)),(cP (x:=0) (by omega)),(cP (x:=0) (by omega)),(cP (x:=0) (by omega)),(cP (x:=0) (by omega)),(cP (x:=0) (by omega)),(cP (x:=0) (by omega)),(cP (x:=0) (by omega)),(cP (x:=0) (by omega)),(cP (x:=0) (by omega)),(cP (x:=0) (by omega)),(b8 (x:=0) (by omega)),(b8 (x:=0) (by omega)),(b8 (x:=0) (by omega)),(b8 (x:=0) (by omega)),(b8 (x:=0) (by omega))⟩⟩⟩,(us y d)⟩
theorem o9{g gm:Nat}{c:Int}{C:ah}{w:World}(hcode:B8 c)(hC:ak w g C)(hm:w.heap[gm]? = some (.cells (mC c) 45 (0,0)))(hne:g≠gm) :
    Calls Tryz.prog 142 #[.agg #[vP g 0,vP gm 0]] w (cM g gm (dX c C).1 (dX c C).2 w):=by
 obtain⟨hcode1,hcode2⟩:=hcode
 have hlen:=hC.len
 refine en 33 Tryz.func142 rfl<|sg<|L0<|d6 #[vP g 0,vP gm 0] fun b a0 z S T=>nt<|sq<|Rg 8 (fun w'=>w'.cell? ⟨b,1,none⟩=some (vP gm 0)∧w'.cell? ⟨b,0,none⟩=some (vP g 0)) fun a1 A=>?_
 have j:=ub A S
 refine bo ⟨(ae j rfl),(ae j rfl)⟩ fun e=>Rt 0 e<|Rl 1 e (fun _ hs=>hs.1)<|Rt 2 e<|Rl 3 e (fun _ hs=>hs.2)<|?_
 have B:=aI T A
 refine R0 4 rfl<|Oc<|m3 (cg (ak.old hC B)) fun a2 U D a3=>?_
 have f:=nb (ak.lt hC) lr z
 have k:=be D (Ne.symm f) j
 refine bo ⟨(ae k rfl),(ae k rfl)⟩ fun E=>Rt 5 E<|Rt 6 E<|?_
 have F:=uz B D
 have G:=be F (Ne.symm hne) hm
 refine R0 7 rfl<|ci G 2 (mG c 0 C.wordV 0 0 0 0 0 0 0 0 0 nS nS nS nS 0 0 0 0 0 nS) fun a4 V H=>?_
 have I:=nb (aq hm) lr z
 have l:=be H (Ne.symm I) k
 refine bo ⟨(ae l rfl),(ae l rfl)⟩ fun a5=>re<|tn<|sq<|Rg 8 (fun w'=>w'.cell? ⟨b,1,none⟩=some (vP gm 0)∧w'.cell? ⟨b,0,none⟩=some (vP g 0)) fun a6 m=>?_
 have n:=ub m l
 refine bo ⟨(ae n rfl),(ae n rfl)⟩ fun h=>Rt 0 h<|Rl 1 h (fun _ hs=>hs.1)<|Rt 2 h<|Rl 3 h (fun _ hs=>hs.2)<|?_
 have J:=aI H m
 refine R0 4 rfl<|Oc<|m3 (cg (ak.upd U J (aa hne aF) (ax (b7 G (by decide)) aN))) fun a7 K o a8=>?_
 have p:=be o (Ne.symm f) n
 refine bo ⟨(ae p rfl),(ae p rfl)⟩ fun L=>Rt 5 L<|Rt 6 L<|?_
 have q:=be (uz m o) (Ne.symm hne) V
 refine R0 7 rfl<|ci q 4 (mG c 0 C.wordV 0 ((C.wordsC 1).wordV) 0 0 0 0 0 0 0 nS nS nS nS 0 0 0 0 0 nS) fun a9 W M=>?_
 have r:=be M (Ne.symm I) p
 refine bo ⟨(ae r rfl),(ae r rfl)⟩ fun ab=>re<|tn<|Rg 17 (fun w'=>w'.cell? ⟨b,0,none⟩=some (vP g 0)∧w'.cell? ⟨b,1,none⟩=some (vP gm 0)∧w'.cell? ⟨gm,4,none⟩=some (vW ((C.wordsC 1).wordV))) fun ac s=>?_
 have i:=ub s r
 have t:=ub s W
 refine bo ⟨(ae i rfl),(ae i rfl),(ae t rfl)⟩ fun a=>Rt 0 a<|Rl 1 a (fun _ hs=>hs.1)<|Rt 2 a<|Rl 3 a (fun _ hs=>hs.2.1)<|Rt 4 a<|Rt 5 a<|Rl 6 a (fun _ hs=>hs.2.2)<|Rt 7 a<|Rt 8 a<|?_
 have u:=aI M s
 have N:=ui F (ui J (us o u))
 refine uu 24 ((((C.wordsC 1).wordV)==0)) (fun d=>?_) (fun d=>?_)
 have X:=ag d
 refine Ro 9 a<|Ro 10 a<|Ro 11 a<|Ro 12 a<|Ro 13 a<|Ro 14 a<|Rt 15 a<|?_
 refine R0 16 rfl<|Oc<|m2 (bt (true) 6 (ak.upd K u (aa hne aF) (ax (b7 q (by decide)) aN))) fun ad Y v=>?_
 have O:=be v (Ne.symm f) i
 have P:=be v (Ne.symm hne) t
 refine bo ⟨(ae O rfl),(ae O rfl),(ae P rfl)⟩ fun af=>re<|rm (.tuple #[])<|?_
 have hs:dX c C=((((C.wordsC 1).wordsC 1).need true 6),(aU.mk c 0 C.wordV 0 ((C.wordsC 1).wordV) 0 0 0 0 0 0 0 [] [] [] [] 0 0 0 0 0 [])):=by
   unfold dX fR
   (try simp only[d,bi,reduceIte])
   all_goals rfl
 rw[hs]
 exact⟨rfl,Y,⟨_,⟨P,rfl⟩,⟨_,_,_,_,_,rfl,aS.nil ..,aS.nil ..,aS.nil ..,aS.nil ..,aS.nil ..,⟨(b8 (x:=c) (by omega)),(b8 (x:=0) (by omega)),(cP (x:=C.wordV) (by omega)),(cP (x:=0) (by omega)),(cP (x:=(C.wordsC 1).wordV) (by omega)),(cP (x:=0) (by omega)),(cP (x:=0) (by omega)),(cP (x:=0) (by omega)),(cP (x:=0) (by omega)),(cP (x:=0) (by omega)),(cP (x:=0) (by omega)),(cP (x:=0) (by omega)),(b8 (x:=0) (by omega)),(b8 (x:=0) (by omega)),(b8 (x:=0) (by omega)),(b8 (x:=0) (by omega)),(b8 (x:=0) (by omega))⟩⟩⟩,(u1 N v im)⟩
 have X:=au d
 refine Rt 9 a<|Rl 10 a (fun _ hs=>hs.2.1)<|Rt 11 a<|Rt 12 a<|Rl 13 a (fun _ hs=>hs.2.2)<|Rt 14 a<|Rt 15 a<|?_
 refine R0 16 rfl<|Oc<|m2 (bt ((((C.wordsC 1).wordV)==65280)) 6 (ak.upd K u (aa hne aF) (ax (b7 q (by decide)) aN))) fun ai Z y=>?_
 have Q:=be y (Ne.symm f) i
 have R:=be y (Ne.symm hne) t
 refine bo ⟨(ae Q rfl),(ae Q rfl),(ae R rfl)⟩ fun aj=>re<|rm (.tuple #[])<|?_
 have hs:dX c C=((((C.wordsC 1).wordsC 1).need (((C.wordsC 1).wordV)==65280) 6),(aU.mk c 0 C.wordV 0 ((C.wordsC 1).wordV) 0 0 0 0 0 0 0 [] [] [] [] 0 0 0 0 0 [])):=by
   unfold dX fR
   (try simp only[d,bi,reduceIte])
   all_goals rfl
 rw[hs]
 exact⟨rfl,Z,⟨_,⟨R,rfl⟩,⟨_,_,_,_,_,rfl,aS.nil ..,aS.nil ..,aS.nil ..,aS.nil ..,aS.nil ..,⟨(b8 (x:=c) (by omega)),(b8 (x:=0) (by omega)),(cP (x:=C.wordV) (by omega)),(cP (x:=0) (by omega)),(cP (x:=(C.wordsC 1).wordV) (by omega)),(cP (x:=0) (by omega)),(cP (x:=0) (by omega)),(cP (x:=0) (by omega)),(cP (x:=0) (by omega)),(cP (x:=0) (by omega)),(cP (x:=0) (by omega)),(cP (x:=0) (by omega)),(b8 (x:=0) (by omega)),(b8 (x:=0) (by omega)),(b8 (x:=0) (by omega)),(b8 (x:=0) (by omega)),(b8 (x:=0) (by omega))⟩⟩⟩,(u1 N y im)⟩
theorem xN{g gm:Nat}{c:Int}{C:ah}{w:World}(hcode:B8 c)(hC:ak w g C)(hm:w.heap[gm]? = some (.cells (mC c) 45 (0,0)))(hne:g≠gm) :
    Calls Tryz.prog 144 #[.agg #[vP g 0,vP gm 0]] w (cM g gm (eE 1968 c C).1 (eE 1968 c C).2 w):=by
 obtain⟨hcode1,hcode2⟩:=hcode
 have hlen:=hC.len
 refine en 4 Tryz.func144 rfl<|sg<|L0<|d6 #[vP g 0,vP gm 0] fun i j k d a=>nt<|go<|L0<|bN d<|?_
 have b:=ak.old hC a
 refine ay<|m3 (mz (most:=1968) ⟨hcode1,hcode2⟩ b (ub a hm) hne) fun l e f h=>?_
 have m:=(b).wordV
 have n:=bR (cU (b).rng 1)
 refine nl<|rm (.tuple #[])<|?_
 exact cv (by unfold eE;(try simp only[bi,reduceIte])<;>rfl) ⟨rfl,e,⟨_,⟨f,rfl⟩,⟨_,_,_,_,_,rfl,aS.nil ..,aS.nil ..,aS.nil ..,aS.nil ..,aS.nil ..,⟨(b8 (x:=c) (by omega)),(b8 (x:=0) (by omega)),(cP (x:=C.wordV) (by omega)),(cP (x:=(C.wordsC 1).wordV) (by omega)),(cP (x:=0) (by omega)),(cP (x:=0) (by omega)),(cP (x:=0) (by omega)),(cP (x:=0) (by omega)),(cP (x:=0) (by omega)),(cP (x:=0) (by omega)),(cP (x:=0) (by omega)),(cP (x:=0) (by omega)),(b8 (x:=0) (by omega)),(b8 (x:=0) (by omega)),(b8 (x:=0) (by omega)),(b8 (x:=0) (by omega)),(b8 (x:=0) (by omega))⟩⟩⟩,(uz a h)⟩
theorem uZ{g gm:Nat}{c:Int}{C:ah}{w:World}(hcode:B8 c)(hC:ak w g C)(hm:w.heap[gm]? = some (.cells (mC c) 45 (0,0)))(hne:g≠gm) :
    Calls Tryz.prog 144 #[.agg #[vP g 0,vP gm 0]] w (sr g gm (bV C 1968) (mG c 0 C.wordV (C.wordsC 1).wordV 0 0 0 0 0 0 0 0 nS nS nS nS 0 0 0 0 0 nS) w):=by
 obtain⟨hcode1,hcode2⟩:=hcode
 have hlen:=hC.len
 refine en 4 Tryz.func144 rfl<|sg<|L0<|d6 #[vP g 0,vP gm 0] fun i j k d a=>nt<|go<|L0<|bN d<|?_
 have b:=ak.old hC a
 refine ay<|m3 (mz (most:=1968) ⟨hcode1,hcode2⟩ b (ub a hm) hne) fun l e f h=>?_
 have m:=(b).wordV
 have n:=bR (cU (b).rng 1)
 refine nl<|rm (.tuple #[])<|?_
 have hs:bV C 1968=(bV C 1968):=by
   unfold bV jZ
   (try simp only[bi,reduceIte])
   all_goals rfl
 rw[hs]
 exact⟨rfl,e,f,(uz a h)⟩
theorem zu{g gm:Nat}{c:Int}{C:ah}{w:World}(hcode:B8 c)(hC:ak w g C)(hm:w.heap[gm]? = some (.cells (mC c) 45 (0,0)))(hne:g≠gm) :
    Calls Tryz.prog 143 #[.agg #[vP g 0,vP gm 0]] w (cM g gm (iR c C).1 (iR c C).2 w):=by
 obtain⟨hcode1,hcode2⟩:=hcode
 have hlen:=hC.len
 refine en 46 Tryz.func143 rfl<|sg<|L0<|d6 #[vP g 0,vP gm 0] fun o a3 F G f=>ng<|L0<|bN G<|?_
 have t:=ak.old hC f
 refine ay<|m3 (uZ ⟨hcode1,hcode2⟩ t (ub f hm) hne) fun a4 Q R p=>?_
 have a5:=(t).wordV
 have a6:=bR (cU (t).rng 1)
 refine aM 1<|?_
 have i:=nb (ak.lt hC) lr F
 have H:=aH.blk p (aa (Ne.symm i) (aa (Ne.symm (nb (aq hm) lr F)) aF)) G
 refine aD H 0<|ay<|m3 (cc Q) fun a7 S u a8=>bq ((bV C 1968).byteV)<|ai 1<|sq<|Rg 12 (fun w'=>w'.cell? ⟨o,0,none⟩=some (vP g 0)∧w'.cell? ⟨o,1,none⟩=some (vP gm 0)∧w'.cell? ⟨gm,3,none⟩=some (vW ((C.wordsC 1).wordV))) fun a9 q=>?_
 have v:=aI u q
 have j:=be v (Ne.symm i) H
 have y:=be v (Ne.symm hne) R
 refine bo ⟨(ae j rfl),(ae j rfl),(ae y rfl)⟩ fun a=>Rt 0 a<|Rl 1 a (fun _ hs=>hs.1)<|Rt 2 a<|Rt 3 a<|Rl 4 a (fun _ hs=>hs.2.1)<|Rt 5 a<|Rt 6 a<|Rl 7 a (fun _ hs=>hs.2.2)<|Rr 8 a (vI ((C.wordsC 1).wordV)) (fun _ _=>bX (vI (IntKind.i64.wrap ((C.wordsC 1).wordV))) (by kernel_rfl) (congrArg (Value.int .i64) (i64_in (by omega))))<|R0 9 rfl<|Oc<|mq (kK (n:=(C.wordsC 1).wordV) (by omega))<|bo ⟨(ae j rfl),(ae j rfl),(ae y rfl)⟩ fun T=>Rt 10 T<|?_
 refine R0 11 rfl<|Oc<|m2 (bt ((((bV C 1968).byteV)==(eo ((C.wordsC 1).wordV)))) 5 (ak.old S q)) fun ab U k=>?_
 have z:=be k (Ne.symm i) j
 have I:=be k (Ne.symm hne) y
 refine bo ⟨(ae z rfl),(ae z rfl),(ae I rfl)⟩ fun ad=>re<|tn<|sq<|Rg 16 (fun w'=>w'.cell? ⟨o,0,none⟩=some (vP g 0)∧w'.cell? ⟨o,1,none⟩=some (vP gm 0)∧w'.cell? ⟨gm,3,none⟩=some (vW ((C.wordsC 1).wordV))) fun af d=>?_
 have A:=ub d z
 have J:=ub d I
 refine bo ⟨(ae A rfl),(ae A rfl),(ae J rfl)⟩ fun b=>Rt 0 b<|Rl 1 b (fun _ hs=>hs.1)<|Rt 2 b<|Rt 4 b<|Rl 5 b (fun _ hs=>hs.2.1)<|Rt 6 b<|Rt 7 b<|Rl 8 b (fun _ hs=>hs.2.2)<|Rr 9 b (vI ((C.wordsC 1).wordV)) (fun _ _=>bX (vI (IntKind.i64.wrap ((C.wordsC 1).wordV))) (by kernel_rfl) (congrArg (Value.int .i64) (i64_in (by omega))))<|?_
 have K:=ak.old U d
 refine R0 3 rfl<|Oc<|vc (cL (n:=(bV C 1968).byteV) K) fun V W ag X aj am Y l=>?_
 have an:=Nat.le_trans (ah.bytesR_le (((bV C 1968).bytesC 1).need (((bV C 1968).byteV)==(eo ((C.wordsC 1).wordV))) 5) ((bV C 1968).byteV)) (ak.len K)
 have B:=be l (Ne.symm i) A
 have L:=be l (Ne.symm hne) J
 refine bo ⟨(ae B rfl),(ae B rfl),(ae L rfl)⟩ fun ao=>R0 10 rfl<|Oc (args:=#[.slice V (((((bV C 1968).bytesC 1).need (((bV C 1968).byteV)==(eo ((C.wordsC 1).wordV))) 5).bytesR ((bV C 1968).byteV)).length) W,vI ((C.wordsC 1).wordV)])<|dV (tB X (by omega) (by omega) (by omega)) fun Z a0 ap D ar au r=>?_
 have s:=ub r B
 have M:=ub r L
 refine bo ⟨(ae s rfl),(ae s rfl),(ae M rfl)⟩ fun m=>Rt 11 m<|Rt 12 m<|Rt 13 m<|Rt 14 m<|Rt 15 m<|re<|tn<|al 1<|aD s 0<|Pl 1<|?_
 refine ay<|m2 (bt ((cQ ((((bV C 1968).bytesC 1).need (((bV C 1968).byteV)==(eo ((C.wordsC 1).wordV))) 5).bytesR ((bV C 1968).byteV)) ((C.wordsC 1).wordV)).isSome) 6 (ak.old Y r)) fun aw a1 E=>nt<|go<|Pl 1<|?_
 refine aD (be E (Ne.symm i) s) 1<|Pl 3<|?_
 have N:=be E (Ne.symm hne) M
 refine L0<|ci N 13 (mG c 0 C.wordV ((C.wordsC 1).wordV) 0 0 0 0 0 0 0 0 nS (.slice Z (((cQ ((((bV C 1968).bytesC 1).need (((bV C 1968).byteV)==(eo ((C.wordsC 1).wordV))) 5).bytesR ((bV C 1968).byteV)) ((C.wordsC 1).wordV)).getD []).length) a0) nS nS 0 0 0 0 0 nS) fun az a2 O=>nl<|rm (.tuple #[])<|?_
 have P:=us E O
 exact cv (by unfold iR sa s9 iX oL sV;(try simp only[bi,reduceIte])<;>rfl) ⟨rfl,(ak.upd a1 O (aa hne aF) (ax (b7 N (by decide)) aN)),⟨_,⟨a2,rfl⟩,⟨_,_,_,_,_,rfl,aS.nil ..,((av D P (fun x hx=>(aa (fun e=>(aL (ak.lt hC) (le (le (le (le (le (le f.size p.size) u.size) q.size) k.size) d.size) l.size) D) (e▸hx)) (aa (fun e=>(aL (aq hm) (le (le (le (le (le (le f.size p.size) u.size) q.size) k.size) d.size) l.size) D) (e▸hx)) aF))) (fun _ _ h=>h))).rd,aS.nil ..,aS.nil ..,aS.nil ..,⟨(b8 (x:=c) (by omega)),(b8 (x:=0) (by omega)),(cP (x:=C.wordV) (by omega)),(cP (x:=(C.wordsC 1).wordV) (by omega)),(cP (x:=0) (by omega)),(cP (x:=0) (by omega)),(cP (x:=0) (by omega)),(cP (x:=0) (by omega)),(cP (x:=0) (by omega)),(cP (x:=0) (by omega)),(cP (x:=0) (by omega)),(cP (x:=0) (by omega)),(b8 (x:=0) (by omega)),(b8 (x:=0) (by omega)),(b8 (x:=0) (by omega)),(b8 (x:=0) (by omega)),(b8 (x:=0) (by omega))⟩⟩⟩,(uz f (ut p (ui v (ui k (uz d (ui l (uz r P))))) (ac im (ac im aA))))⟩
open Go.RowKit
theorem Bh(c:Int) : c=1∨c=2∨c=5∨c=15∨(c≠1∧c≠2∧c≠5∧c≠15):=by omega
theorem nW{m:Md}{A:Option Addr}{cp:Nat}{b:List Int}{w:World}{c:Int}(hcode:B8 c)(hsl:aZ m w (.slice A b.length cp) b)(hb:b.length≤1048576) :
    Calls Tryz.prog 96 #[vI 0,vB c,.slice A b.length cp] w (eL (aj aP 0 c b) w):=by
 obtain⟨hcode1,hcode2⟩:=hcode
 have hln:(b.length:Int)≤1048576:=by omega
 refine en 72 Tryz.func96 rfl<|sg<|aK mZ fun cJ cK n k y=>ai 1<|sq<|aE 6<|c0<|bj<|al 2<|aK mZ fun a cL g o bC=>aG o (mC c) fun cM J p=>aM 1<|?_
 have i:=ud bC p g
 have u:=aI y i
 refine ay<|e3 (eq (aZ.old hsl u) (by omega)) fun d cN f s z=>Pl 1<|aK #[.pointer none,.pointer none] fun cO cP r ae bD=>aG ae #[vP d 0,vP a 0] fun cQ bE af=>ng<|L0<|zR fun cS cT ag bF ah=>?_
 have S:=ub ah bE
 refine L0<|bN S<|Pl 1<|L0<|bN S<|Pl 2<|L0<|iQ bF 1 fun cU bG am=>?_
 have t:=nb (aq ae) af.size ag
 have T:=be am t S
 refine L0<|bN T<|Pl 1<|L0<|bN T<|Pl 2<|L0<|iQ bG 2 fun cV bI an=>?_
 have U:=be an t T
 refine L0<|bN U<|Pl 1<|L0<|bN U<|Pl 2<|L0<|iQ bI 5 fun cW bK ao=>?_
 have v:=be ao t U
 refine L0<|bN v<|Pl 1<|L0<|bN v<|Pl 2<|L0<|iQ bK 15 fun cX B C=>Pl 2<|aM 2<|?_
 have D:=ud bD (aI af (ud ah (u1 am (u1 an (u1 ao C im) im) im) ag)) r
 have j:=aI z D
 have E:=aI u j
 rcases Bh c with hk|hk|hk|hk|hk
 have k1:(c==1)=true:=by rw[hk];rfl
 have k2:(c==2)=false:=by rw[hk];rfl
 have k5:(c==5)=false:=by rw[hk];rfl
 have l:(c==15)=false:=by rw[hk];rfl
 refine L0<|pZ (hf:=(by subst hk;kernel_rfl)) B c (.agg #[.nilFunc,.nilFunc]) (some (0,.agg #[.func (.func 140) #[.agg #[vP d 0,vP a 0]] #[],.func (.func 141) #[.agg #[vP d 0,vP a 0]] #[]]))<|Pl 3<|aK #[.nilFunc,.nilFunc] fun cY cZ bO bP bQ=>aG bP #[.func (.func 140) #[.agg #[vP d 0,vP a 0]] #[],.func (.func 141) #[.agg #[vP d 0,vP a 0]] #[]] fun d0 bR bS=>ai 1<|sq<|aE 2<|c0<|bj<|al 2<|aD bR 0<|?_
 have V:=ud bQ bS bO
 have ap:=aI j V
 have ar:=nb (aq o) p.size f
 refine L0<|i3 #[.agg #[vP d 0,vP a 0]] #[] (args:=#[.agg #[vP d 0,vP a 0]])<|m3 (km (c:=c) ⟨hcode1,hcode2⟩ (ak.old s (aI D V)) (ub ap J) (Ne.symm ar)) fun d1 bT bU au=>?_
 obtain⟨bV,K,W⟩:=bU
 refine ab bT fun x89 av aw=>?_
 refine aM 1<|?_
 have aC:=uz V au
 have aL:=nb (ak.lt s) lr r
 have aO:=aH.blk (us C aC) (aa t (aa (Ne.symm aL) (aa (Ne.symm (nb (aq o) (le p.size z.size) r)) aF))) v
 refine aD aO 0<|ay<|m2 (cC aw) fun d2 aR L=>nt<|sq<|al 1<|?_
 refine aD (be L (Ne.symm aL) aO) 0<|ay<|mq (bL aR)<|?_
 have d3:=ak.len aR
 refine Pl 1<|cE 2<|?_
 have X:=u1 aC L im
 have aS:=ut E X (ac (ni u.size f) (ac (ni y.size g) aA))
 refine cb ((x89.endC.e != 0)) (fun F=>?_) (fun F=>?_)
 have Y:=aB F
 refine al 2<|?_
 refine aG (ub (ud i (ud j X f) g) k) mZ fun d4 bW bX=>ai 1<|aX<|bJ bW (vI x89.endC.e)<|?_
 subst av
 exact cv (by unfold aj aP;(try simp only[F,bi,dJ,dP,dL,dN,dO,reduceIte,k1,k2,k5,l])<;>rfl) (bH Y (ud aS bX n))
 have Y:=az F
 refine bj<|sg<|?_
 refine L0<|bN (hz:=(by rw[K.2];exact aQ)) (be L ar K.1)<|?_
 refine aG (hz:=(by rw[K.2];exact aQ)) (hv:=W.size) (h1:=W.one) (ub (ud i (ud j X f) g) k) (bV) fun d5 bY aT=>ai 1<|rt<|fd 22 K.2 bY (vI 0)<|?_
 subst av
 exact cv (by unfold aj aP;(try simp only[F,bi,dJ,dP,dL,dN,dO,reduceIte,k1,k2,k5,l])<;>rfl) (bM Y (aJ.upd W (us L aT) (ax (ak.safe aw _ (by decide)) (ax (b7 (ub (ud i (ud ap au f) g) k) (by decide)) aN))) (ud aS aT n))
 have k1:(c==1)=false:=by rw[hk];rfl
 have k2:(c==2)=true:=by rw[hk];rfl
 have k5:(c==5)=false:=by rw[hk];rfl
 have l:(c==15)=false:=by rw[hk];rfl
 refine L0<|pZ (hf:=(by subst hk;kernel_rfl)) B c (.agg #[.nilFunc,.nilFunc]) (some (1,.agg #[.func (.func 140) #[.agg #[vP d 0,vP a 0]] #[],.func (.func 141) #[.agg #[vP d 0,vP a 0]] #[]]))<|Pl 3<|aK #[.nilFunc,.nilFunc] fun d6 d7 bZ c2 c3=>aG c2 #[.func (.func 140) #[.agg #[vP d 0,vP a 0]] #[],.func (.func 141) #[.agg #[vP d 0,vP a 0]] #[]] fun d8 c4 c5=>ai 1<|sq<|aE 2<|c0<|bj<|al 2<|aD c4 0<|?_
 have Z:=ud c3 c5 bZ
 have aU:=aI j Z
 have aV:=nb (aq o) p.size f
 refine L0<|i3 #[.agg #[vP d 0,vP a 0]] #[] (args:=#[.agg #[vP d 0,vP a 0]])<|m3 (km (c:=c) ⟨hcode1,hcode2⟩ (ak.old s (aI D Z)) (ub aU J) (Ne.symm aV)) fun d9 c6 c7 aW=>?_
 obtain⟨c8,M,a0⟩:=c7
 refine ab c6 fun aY b0 b1=>?_
 refine aM 1<|?_
 have b2:=uz Z aW
 have b3:=nb (ak.lt s) lr r
 have b4:=aH.blk (us C b2) (aa t (aa (Ne.symm b3) (aa (Ne.symm (nb (aq o) (le p.size z.size) r)) aF))) v
 refine aD b4 0<|ay<|m2 (cC b1) fun da b5 N=>nt<|sq<|al 1<|?_
 refine aD (be N (Ne.symm b3) b4) 0<|ay<|mq (bL b5)<|?_
 have db:=ak.len b5
 refine Pl 1<|cE 2<|?_
 have a1:=u1 b2 N im
 have b6:=ut E a1 (ac (ni u.size f) (ac (ni y.size g) aA))
 refine cb ((aY.endC.e != 0)) (fun G=>?_) (fun G=>?_)
 have a2:=aB G
 refine al 2<|?_
 refine aG (ub (ud i (ud j a1 f) g) k) mZ fun dc c9 ca=>ai 1<|aX<|bJ c9 (vI aY.endC.e)<|?_
 subst b0
 exact cv (by unfold aj aP;(try simp only[G,bi,dJ,dP,dL,dN,dO,reduceIte,k1,k2,k5,l])<;>rfl) (bH a2 (ud b6 ca n))
 have a2:=az G
 refine bj<|sg<|?_
 refine L0<|bN (hz:=(by rw[M.2];exact aQ)) (be N aV M.1)<|?_
 refine aG (hz:=(by rw[M.2];exact aQ)) (hv:=a0.size) (h1:=a0.one) (ub (ud i (ud j a1 f) g) k) (c8) fun dd cc b8=>ai 1<|rt<|fd 22 M.2 cc (vI 0)<|?_
 subst b0
 exact cv (by unfold aj aP;(try simp only[G,bi,dJ,dP,dL,dN,dO,reduceIte,k1,k2,k5,l])<;>rfl) (bM a2 (aJ.upd a0 (us N b8) (ax (ak.safe b1 _ (by decide)) (ax (b7 (ub (ud i (ud aU aW f) g) k) (by decide)) aN))) (ud b6 b8 n))
 have k1:(c==1)=false:=by rw[hk];rfl
 have k2:(c==2)=false:=by rw[hk];rfl
 have k5:(c==5)=true:=by rw[hk];rfl
 have l:(c==15)=false:=by rw[hk];rfl
 refine L0<|pZ (hf:=(by subst hk;kernel_rfl)) B c (.agg #[.nilFunc,.nilFunc]) (some (2,.agg #[.func (.func 142) #[.agg #[vP d 0,vP a 0]] #[],.func (.func 142) #[.agg #[vP d 0,vP a 0]] #[]]))<|Pl 3<|aK #[.nilFunc,.nilFunc] fun de df cd ce cf=>aG ce #[.func (.func 142) #[.agg #[vP d 0,vP a 0]] #[],.func (.func 142) #[.agg #[vP d 0,vP a 0]] #[]] fun dg cg ch=>ai 1<|sq<|aE 2<|c0<|bj<|al 2<|aD cg 0<|?_
 have a3:=ud cf ch cd
 have b9:=aI j a3
 have ba:=nb (aq o) p.size f
 refine L0<|i3 #[.agg #[vP d 0,vP a 0]] #[] (args:=#[.agg #[vP d 0,vP a 0]])<|m3 (o9 (c:=c) ⟨hcode1,hcode2⟩ (ak.old s (aI D a3)) (ub b9 J) (Ne.symm ba)) fun dh ci cj bb=>?_
 obtain⟨ck,O,a4⟩:=cj
 refine ab ci fun bc bd bf=>?_
 refine aM 1<|?_
 have bg:=uz a3 bb
 have bh:=nb (ak.lt s) lr r
 have bk:=aH.blk (us C bg) (aa t (aa (Ne.symm bh) (aa (Ne.symm (nb (aq o) (le p.size z.size) r)) aF))) v
 refine aD bk 0<|ay<|m2 (cC bf) fun di bl P=>nt<|sq<|al 1<|?_
 refine aD (be P (Ne.symm bh) bk) 0<|ay<|mq (bL bl)<|?_
 have dj:=ak.len bl
 refine Pl 1<|cE 2<|?_
 have a5:=u1 bg P im
 have bm:=ut E a5 (ac (ni u.size f) (ac (ni y.size g) aA))
 refine cb ((bc.endC.e != 0)) (fun H=>?_) (fun H=>?_)
 have a6:=aB H
 refine al 2<|?_
 refine aG (ub (ud i (ud j a5 f) g) k) mZ fun dk cl cm=>ai 1<|aX<|bJ cl (vI bc.endC.e)<|?_
 subst bd
 exact cv (by unfold aj aP;(try simp only[H,bi,dJ,dP,dL,dN,dO,reduceIte,k1,k2,k5,l])<;>rfl) (bH a6 (ud bm cm n))
 have a6:=az H
 refine bj<|sg<|?_
 refine L0<|bN (hz:=(by rw[O.2];exact aQ)) (be P ba O.1)<|?_
 refine aG (hz:=(by rw[O.2];exact aQ)) (hv:=a4.size) (h1:=a4.one) (ub (ud i (ud j a5 f) g) k) (ck) fun dl cn bn=>ai 1<|rt<|fd 22 O.2 cn (vI 0)<|?_
 subst bd
 exact cv (by unfold aj aP;(try simp only[H,bi,dJ,dP,dL,dN,dO,reduceIte,k1,k2,k5,l])<;>rfl) (bM a6 (aJ.upd a4 (us P bn) (ax (ak.safe bf _ (by decide)) (ax (b7 (ub (ud i (ud b9 bb f) g) k) (by decide)) aN))) (ud bm bn n))
 have k1:(c==1)=false:=by rw[hk];rfl
 have k2:(c==2)=false:=by rw[hk];rfl
 have k5:(c==5)=false:=by rw[hk];rfl
 have l:(c==15)=true:=by rw[hk];rfl
 refine L0<|pZ (hf:=(by subst hk;kernel_rfl)) B c (.agg #[.nilFunc,.nilFunc]) (some (3,.agg #[.func (.func 143) #[.agg #[vP d 0,vP a 0]] #[],.func (.func 144) #[.agg #[vP d 0,vP a 0]] #[]]))<|Pl 3<|aK #[.nilFunc,.nilFunc] fun dm dn co cq cr=>aG cq #[.func (.func 143) #[.agg #[vP d 0,vP a 0]] #[],.func (.func 144) #[.agg #[vP d 0,vP a 0]] #[]] fun dp cs ct=>ai 1<|sq<|aE 2<|c0<|bj<|al 2<|aD cs 0<|?_
 have a7:=ud cr ct co
 have bo:=aI j a7
 have bp:=nb (aq o) p.size f
 refine L0<|i3 #[.agg #[vP d 0,vP a 0]] #[] (args:=#[.agg #[vP d 0,vP a 0]])<|m3 (zu (c:=c) ⟨hcode1,hcode2⟩ (ak.old s (aI D a7)) (ub bo J) (Ne.symm bp)) fun dq bq cu br=>?_
 obtain⟨cw,Q,a8⟩:=cu
 refine aM 1<|?_
 have bs:=uz a7 br
 have bt:=nb (ak.lt s) lr r
 have bu:=aH.blk (us C bs) (aa t (aa (Ne.symm bt) (aa (Ne.symm (nb (aq o) (le p.size z.size) r)) aF))) v
 refine aD bu 0<|ay<|m2 (cC bq) fun dr cx R=>?_
 refine ab cx fun bv bw bx=>?_
 refine nt<|sq<|al 1<|?_
 refine aD (be R (Ne.symm bt) bu) 0<|ay<|mq (bL bx)<|?_
 have ds:=ak.len bx
 refine Pl 1<|cE 2<|?_
 have a9:=u1 bs R im
 have bz:=ut E a9 (ac (ni u.size f) (ac (ni y.size g) aA))
 refine cb ((bv.e != 0)) (fun I=>?_) (fun I=>?_)
 have ad:=aB I
 refine al 2<|?_
 refine aG (ub (ud i (ud j a9 f) g) k) mZ fun dt cy cz=>ai 1<|aX<|bJ cy (vI bv.e)<|?_
 subst bw
 exact cv (by unfold aj aP;(try simp only[I,bi,dJ,dP,dL,dN,dO,reduceIte,k1,k2,k5,l])<;>rfl) (bH ad (ud bz cz n))
 have ad:=az I
 refine bj<|sg<|?_
 refine L0<|bN (hz:=(by rw[Q.2];exact aQ)) (be R bp Q.1)<|?_
 refine aG (hz:=(by rw[Q.2];exact aQ)) (hv:=a8.size) (h1:=a8.one) (ub (ud i (ud j a9 f) g) k) (cw) fun du cA bA=>ai 1<|rt<|fd 22 Q.2 cA (vI 0)<|?_
 subst bw
 exact cv (by unfold aj aP;(try simp only[I,bi,dJ,dP,dL,dN,dO,reduceIte,k1,k2,k5,l])<;>rfl) (bM ad (aJ.upd a8 (us R bA) (ax (ak.safe bq _ (by decide)) (ax (b7 (ub (ud i (ud bo br f) g) k) (by decide)) aN))) (ud bz bA n))
 have k1:(c==1)=false:=by simpa using hk.1
 have k2:(c==2)=false:=by simpa using hk.2.1
 have k5:(c==5)=false:=by simpa using hk.2.2.1
 have l:(c==15)=false:=by simpa using hk.2.2.2
 refine L0<|pZ (hf:=(Di (q:=.u8) (x:=c) #[⟨vB 1,.agg #[.func (.func 140) #[.agg #[vP d 0,vP a 0]] #[],.func (.func 141) #[.agg #[vP d 0,vP a 0]] #[]],0⟩,⟨vB 2,.agg #[.func (.func 140) #[.agg #[vP d 0,vP a 0]] #[],.func (.func 141) #[.agg #[vP d 0,vP a 0]] #[]],1⟩,⟨vB 5,.agg #[.func (.func 142) #[.agg #[vP d 0,vP a 0]] #[],.func (.func 142) #[.agg #[vP d 0,vP a 0]] #[]],2⟩,⟨vB 15,.agg #[.func (.func 143) #[.agg #[vP d 0,vP a 0]] #[],.func (.func 144) #[.agg #[vP d 0,vP a 0]] #[]],3⟩] (gn _ _ (by intro e he;simp only[List.mem_cons,List.not_mem_nil,or_false] at he;obtain⟨z1,z2,z5,dv⟩:=hk;rcases he with rfl | rfl | rfl | rfl<;>exact⟨_,rfl,fun h=>by simp_all⟩)))) B c (.agg #[.nilFunc,.nilFunc]) none<|Pl 3<|aK #[.nilFunc,.nilFunc] fun dw dx cB cD cF=>aG cD #[.nilFunc,.nilFunc] fun dy dz cG=>ai 1<|sq<|aE 2<|c1<|al 1<|?_
 have bB:=ud cF cG cB
 refine aG (ub (aI i (aI j bB)) k) mZ fun dA cH cI=>ai 1<|aX<|bJ cH (vI 4)<|?_
 exact cv (by unfold aj aP;(try simp only[bi,dJ,dP,dL,dN,dO,reduceIte,k1,k2,k5,l])<;>rfl) (cR (ud E (uz bB cI) n))
theorem nY{m:Md}{A:Option Addr}{cp:Nat}{b:List Int}{w:World}{c:Int}(hcode:B8 c)(hsl:aZ m w (.slice A b.length cp) b)(hb:b.length≤1048576) :
    Calls Tryz.prog 96 #[vI 1,vB c,.slice A b.length cp] w (eL (aj aP 1 c b) w):=by
 obtain⟨hcode1,hcode2⟩:=hcode
 have hln:(b.length:Int)≤1048576:=by omega
 refine en 72 Tryz.func96 rfl<|sg<|aK mZ fun cJ cK n k y=>ai 1<|sq<|aE 6<|c0<|bj<|al 2<|aK mZ fun a cL g o bC=>aG o (mC c) fun cM J p=>aM 1<|?_
 have i:=ud bC p g
 have u:=aI y i
 refine ay<|e3 (eq (aZ.old hsl u) (by omega)) fun d cN f s z=>Pl 1<|aK #[.pointer none,.pointer none] fun cO cP r ae bD=>aG ae #[vP d 0,vP a 0] fun cQ bE af=>ng<|L0<|zR fun cS cT ag bF ah=>?_
 have S:=ub ah bE
 refine L0<|bN S<|Pl 1<|L0<|bN S<|Pl 2<|L0<|iQ bF 1 fun cU bG am=>?_
 have t:=nb (aq ae) af.size ag
 have T:=be am t S
 refine L0<|bN T<|Pl 1<|L0<|bN T<|Pl 2<|L0<|iQ bG 2 fun cV bI an=>?_
 have U:=be an t T
 refine L0<|bN U<|Pl 1<|L0<|bN U<|Pl 2<|L0<|iQ bI 5 fun cW bK ao=>?_
 have v:=be ao t U
 refine L0<|bN v<|Pl 1<|L0<|bN v<|Pl 2<|L0<|iQ bK 15 fun cX B C=>Pl 2<|aM 2<|?_
 have D:=ud bD (aI af (ud ah (u1 am (u1 an (u1 ao C im) im) im) ag)) r
 have j:=aI z D
 have E:=aI u j
 rcases Bh c with hk|hk|hk|hk|hk
 have k1:(c==1)=true:=by rw[hk];rfl
 have k2:(c==2)=false:=by rw[hk];rfl
 have k5:(c==5)=false:=by rw[hk];rfl
 have l:(c==15)=false:=by rw[hk];rfl
 refine L0<|pZ (hf:=(by subst hk;kernel_rfl)) B c (.agg #[.nilFunc,.nilFunc]) (some (0,.agg #[.func (.func 140) #[.agg #[vP d 0,vP a 0]] #[],.func (.func 141) #[.agg #[vP d 0,vP a 0]] #[]]))<|Pl 3<|aK #[.nilFunc,.nilFunc] fun cY cZ bO bP bQ=>aG bP #[.func (.func 140) #[.agg #[vP d 0,vP a 0]] #[],.func (.func 141) #[.agg #[vP d 0,vP a 0]] #[]] fun d0 bR bS=>ai 1<|sq<|aE 2<|c0<|bj<|al 2<|aD bR 1<|?_
 have V:=ud bQ bS bO
 have ap:=aI j V
 have ar:=nb (aq o) p.size f
 refine L0<|i3 #[.agg #[vP d 0,vP a 0]] #[] (args:=#[.agg #[vP d 0,vP a 0]])<|m3 (oE (c:=c) ⟨hcode1,hcode2⟩ (ak.old s (aI D V)) (ub ap J) (Ne.symm ar)) fun d1 bT bU au=>?_
 obtain⟨bV,K,W⟩:=bU
 refine ab bT fun x89 av aw=>?_
 refine aM 1<|?_
 have aC:=uz V au
 have aL:=nb (ak.lt s) lr r
 have aO:=aH.blk (us C aC) (aa t (aa (Ne.symm aL) (aa (Ne.symm (nb (aq o) (le p.size z.size) r)) aF))) v
 refine aD aO 0<|ay<|m2 (cC aw) fun d2 aR L=>nt<|sq<|al 1<|?_
 refine aD (be L (Ne.symm aL) aO) 0<|ay<|mq (bL aR)<|?_
 have d3:=ak.len aR
 refine Pl 1<|cE 2<|?_
 have X:=u1 aC L im
 have aS:=ut E X (ac (ni u.size f) (ac (ni y.size g) aA))
 refine cb ((x89.endC.e != 0)) (fun F=>?_) (fun F=>?_)
 have Y:=aB F
 refine al 2<|?_
 refine aG (ub (ud i (ud j X f) g) k) mZ fun d4 bW bX=>ai 1<|aX<|bJ bW (vI x89.endC.e)<|?_
 subst av
 exact cv (by unfold aj aP;(try simp only[F,bi,dJ,dP,dL,dN,dO,reduceIte,k1,k2,k5,l])<;>rfl) (bH Y (ud aS bX n))
 have Y:=az F
 refine bj<|sg<|?_
 refine L0<|bN (hz:=(by rw[K.2];exact aQ)) (be L ar K.1)<|?_
 refine aG (hz:=(by rw[K.2];exact aQ)) (hv:=W.size) (h1:=W.one) (ub (ud i (ud j X f) g) k) (bV) fun d5 bY aT=>ai 1<|rt<|fd 22 K.2 bY (vI 0)<|?_
 subst av
 exact cv (by unfold aj aP;(try simp only[F,bi,dJ,dP,dL,dN,dO,reduceIte,k1,k2,k5,l])<;>rfl) (bM Y (aJ.upd W (us L aT) (ax (ak.safe aw _ (by decide)) (ax (b7 (ub (ud i (ud ap au f) g) k) (by decide)) aN))) (ud aS aT n))
 have k1:(c==1)=false:=by rw[hk];rfl
 have k2:(c==2)=true:=by rw[hk];rfl
 have k5:(c==5)=false:=by rw[hk];rfl
 have l:(c==15)=false:=by rw[hk];rfl
 refine L0<|pZ (hf:=(by subst hk;kernel_rfl)) B c (.agg #[.nilFunc,.nilFunc]) (some (1,.agg #[.func (.func 140) #[.agg #[vP d 0,vP a 0]] #[],.func (.func 141) #[.agg #[vP d 0,vP a 0]] #[]]))<|Pl 3<|aK #[.nilFunc,.nilFunc] fun d6 d7 bZ c2 c3=>aG c2 #[.func (.func 140) #[.agg #[vP d 0,vP a 0]] #[],.func (.func 141) #[.agg #[vP d 0,vP a 0]] #[]] fun d8 c4 c5=>ai 1<|sq<|aE 2<|c0<|bj<|al 2<|aD c4 1<|?_
 have Z:=ud c3 c5 bZ
 have aU:=aI j Z
 have aV:=nb (aq o) p.size f
 refine L0<|i3 #[.agg #[vP d 0,vP a 0]] #[] (args:=#[.agg #[vP d 0,vP a 0]])<|m3 (oE (c:=c) ⟨hcode1,hcode2⟩ (ak.old s (aI D Z)) (ub aU J) (Ne.symm aV)) fun d9 c6 c7 aW=>?_
 obtain⟨c8,M,a0⟩:=c7
 refine ab c6 fun aY b0 b1=>?_
 refine aM 1<|?_
 have b2:=uz Z aW
 have b3:=nb (ak.lt s) lr r
 have b4:=aH.blk (us C b2) (aa t (aa (Ne.symm b3) (aa (Ne.symm (nb (aq o) (le p.size z.size) r)) aF))) v
 refine aD b4 0<|ay<|m2 (cC b1) fun da b5 N=>nt<|sq<|al 1<|?_
 refine aD (be N (Ne.symm b3) b4) 0<|ay<|mq (bL b5)<|?_
 have db:=ak.len b5
 refine Pl 1<|cE 2<|?_
 have a1:=u1 b2 N im
 have b6:=ut E a1 (ac (ni u.size f) (ac (ni y.size g) aA))
 refine cb ((aY.endC.e != 0)) (fun G=>?_) (fun G=>?_)
 have a2:=aB G
 refine al 2<|?_
 refine aG (ub (ud i (ud j a1 f) g) k) mZ fun dc c9 ca=>ai 1<|aX<|bJ c9 (vI aY.endC.e)<|?_
 subst b0
 exact cv (by unfold aj aP;(try simp only[G,bi,dJ,dP,dL,dN,dO,reduceIte,k1,k2,k5,l])<;>rfl) (bH a2 (ud b6 ca n))
 have a2:=az G
 refine bj<|sg<|?_
 refine L0<|bN (hz:=(by rw[M.2];exact aQ)) (be N aV M.1)<|?_
 refine aG (hz:=(by rw[M.2];exact aQ)) (hv:=a0.size) (h1:=a0.one) (ub (ud i (ud j a1 f) g) k) (c8) fun dd cc b8=>ai 1<|rt<|fd 22 M.2 cc (vI 0)<|?_
 subst b0
 exact cv (by unfold aj aP;(try simp only[G,bi,dJ,dP,dL,dN,dO,reduceIte,k1,k2,k5,l])<;>rfl) (bM a2 (aJ.upd a0 (us N b8) (ax (ak.safe b1 _ (by decide)) (ax (b7 (ub (ud i (ud aU aW f) g) k) (by decide)) aN))) (ud b6 b8 n))
 have k1:(c==1)=false:=by rw[hk];rfl
 have k2:(c==2)=false:=by rw[hk];rfl
 have k5:(c==5)=true:=by rw[hk];rfl
 have l:(c==15)=false:=by rw[hk];rfl
 refine L0<|pZ (hf:=(by subst hk;kernel_rfl)) B c (.agg #[.nilFunc,.nilFunc]) (some (2,.agg #[.func (.func 142) #[.agg #[vP d 0,vP a 0]] #[],.func (.func 142) #[.agg #[vP d 0,vP a 0]] #[]]))<|Pl 3<|aK #[.nilFunc,.nilFunc] fun de df cd ce cf=>aG ce #[.func (.func 142) #[.agg #[vP d 0,vP a 0]] #[],.func (.func 142) #[.agg #[vP d 0,vP a 0]] #[]] fun dg cg ch=>ai 1<|sq<|aE 2<|c0<|bj<|al 2<|aD cg 1<|?_
 have a3:=ud cf ch cd
 have b9:=aI j a3
 have ba:=nb (aq o) p.size f
 refine L0<|i3 #[.agg #[vP d 0,vP a 0]] #[] (args:=#[.agg #[vP d 0,vP a 0]])<|m3 (o9 (c:=c) ⟨hcode1,hcode2⟩ (ak.old s (aI D a3)) (ub b9 J) (Ne.symm ba)) fun dh ci cj bb=>?_
 obtain⟨ck,O,a4⟩:=cj
 refine ab ci fun bc bd bf=>?_
 refine aM 1<|?_
 have bg:=uz a3 bb
 have bh:=nb (ak.lt s) lr r
 have bk:=aH.blk (us C bg) (aa t (aa (Ne.symm bh) (aa (Ne.symm (nb (aq o) (le p.size z.size) r)) aF))) v
 refine aD bk 0<|ay<|m2 (cC bf) fun di bl P=>nt<|sq<|al 1<|?_
 refine aD (be P (Ne.symm bh) bk) 0<|ay<|mq (bL bl)<|?_
 have dj:=ak.len bl
 refine Pl 1<|cE 2<|?_
 have a5:=u1 bg P im
 have bm:=ut E a5 (ac (ni u.size f) (ac (ni y.size g) aA))
 refine cb ((bc.endC.e != 0)) (fun H=>?_) (fun H=>?_)
 have a6:=aB H
 refine al 2<|?_
 refine aG (ub (ud i (ud j a5 f) g) k) mZ fun dk cl cm=>ai 1<|aX<|bJ cl (vI bc.endC.e)<|?_
 subst bd
 exact cv (by unfold aj aP;(try simp only[H,bi,dJ,dP,dL,dN,dO,reduceIte,k1,k2,k5,l])<;>rfl) (bH a6 (ud bm cm n))
 have a6:=az H
 refine bj<|sg<|?_
 refine L0<|bN (hz:=(by rw[O.2];exact aQ)) (be P ba O.1)<|?_
 refine aG (hz:=(by rw[O.2];exact aQ)) (hv:=a4.size) (h1:=a4.one) (ub (ud i (ud j a5 f) g) k) (ck) fun dl cn bn=>ai 1<|rt<|fd 22 O.2 cn (vI 0)<|?_
 subst bd
 exact cv (by unfold aj aP;(try simp only[H,bi,dJ,dP,dL,dN,dO,reduceIte,k1,k2,k5,l])<;>rfl) (bM a6 (aJ.upd a4 (us P bn) (ax (ak.safe bf _ (by decide)) (ax (b7 (ub (ud i (ud b9 bb f) g) k) (by decide)) aN))) (ud bm bn n))
 have k1:(c==1)=false:=by rw[hk];rfl
 have k2:(c==2)=false:=by rw[hk];rfl
 have k5:(c==5)=false:=by rw[hk];rfl
 have l:(c==15)=true:=by rw[hk];rfl
 refine L0<|pZ (hf:=(by subst hk;kernel_rfl)) B c (.agg #[.nilFunc,.nilFunc]) (some (3,.agg #[.func (.func 143) #[.agg #[vP d 0,vP a 0]] #[],.func (.func 144) #[.agg #[vP d 0,vP a 0]] #[]]))<|Pl 3<|aK #[.nilFunc,.nilFunc] fun dm dn co cq cr=>aG cq #[.func (.func 143) #[.agg #[vP d 0,vP a 0]] #[],.func (.func 144) #[.agg #[vP d 0,vP a 0]] #[]] fun dp cs ct=>ai 1<|sq<|aE 2<|c0<|bj<|al 2<|aD cs 1<|?_
 have a7:=ud cr ct co
 have bo:=aI j a7
 have bp:=nb (aq o) p.size f
 refine L0<|i3 #[.agg #[vP d 0,vP a 0]] #[] (args:=#[.agg #[vP d 0,vP a 0]])<|m3 (xN (c:=c) ⟨hcode1,hcode2⟩ (ak.old s (aI D a7)) (ub bo J) (Ne.symm bp)) fun dq cu cw bq=>?_
 obtain⟨cx,Q,a8⟩:=cw
 refine ab cu fun br bs bt=>?_
 refine aM 1<|?_
 have bu:=uz a7 bq
 have bv:=nb (ak.lt s) lr r
 have bw:=aH.blk (us C bu) (aa t (aa (Ne.symm bv) (aa (Ne.symm (nb (aq o) (le p.size z.size) r)) aF))) v
 refine aD bw 0<|ay<|m2 (cC bt) fun dr bx R=>nt<|sq<|al 1<|?_
 refine aD (be R (Ne.symm bv) bw) 0<|ay<|mq (bL bx)<|?_
 have ds:=ak.len bx
 refine Pl 1<|cE 2<|?_
 have a9:=u1 bu R im
 have bz:=ut E a9 (ac (ni u.size f) (ac (ni y.size g) aA))
 refine cb ((br.endC.e != 0)) (fun I=>?_) (fun I=>?_)
 have ad:=aB I
 refine al 2<|?_
 refine aG (ub (ud i (ud j a9 f) g) k) mZ fun dt cy cz=>ai 1<|aX<|bJ cy (vI br.endC.e)<|?_
 subst bs
 exact cv (by unfold aj aP;(try simp only[I,bi,dJ,dP,dL,dN,dO,reduceIte,k1,k2,k5,l])<;>rfl) (bH ad (ud bz cz n))
 have ad:=az I
 refine bj<|sg<|?_
 refine L0<|bN (hz:=(by rw[Q.2];exact aQ)) (be R bp Q.1)<|?_
 refine aG (hz:=(by rw[Q.2];exact aQ)) (hv:=a8.size) (h1:=a8.one) (ub (ud i (ud j a9 f) g) k) (cx) fun du cA bA=>ai 1<|rt<|fd 22 Q.2 cA (vI 0)<|?_
 subst bs
 exact cv (by unfold aj aP;(try simp only[I,bi,dJ,dP,dL,dN,dO,reduceIte,k1,k2,k5,l])<;>rfl) (bM ad (aJ.upd a8 (us R bA) (ax (ak.safe bt _ (by decide)) (ax (b7 (ub (ud i (ud bo bq f) g) k) (by decide)) aN))) (ud bz bA n))
 have k1:(c==1)=false:=by simpa using hk.1
 have k2:(c==2)=false:=by simpa using hk.2.1
 have k5:(c==5)=false:=by simpa using hk.2.2.1
 have l:(c==15)=false:=by simpa using hk.2.2.2
 refine L0<|pZ (hf:=(Di (q:=.u8) (x:=c) #[⟨vB 1,.agg #[.func (.func 140) #[.agg #[vP d 0,vP a 0]] #[],.func (.func 141) #[.agg #[vP d 0,vP a 0]] #[]],0⟩,⟨vB 2,.agg #[.func (.func 140) #[.agg #[vP d 0,vP a 0]] #[],.func (.func 141) #[.agg #[vP d 0,vP a 0]] #[]],1⟩,⟨vB 5,.agg #[.func (.func 142) #[.agg #[vP d 0,vP a 0]] #[],.func (.func 142) #[.agg #[vP d 0,vP a 0]] #[]],2⟩,⟨vB 15,.agg #[.func (.func 143) #[.agg #[vP d 0,vP a 0]] #[],.func (.func 144) #[.agg #[vP d 0,vP a 0]] #[]],3⟩] (gn _ _ (by intro e he;simp only[List.mem_cons,List.not_mem_nil,or_false] at he;obtain⟨z1,z2,z5,dv⟩:=hk;rcases he with rfl | rfl | rfl | rfl<;>exact⟨_,rfl,fun h=>by simp_all⟩)))) B c (.agg #[.nilFunc,.nilFunc]) none<|Pl 3<|aK #[.nilFunc,.nilFunc] fun dw dx cB cD cF=>aG cD #[.nilFunc,.nilFunc] fun dy dz cG=>ai 1<|sq<|aE 2<|c1<|al 1<|?_
 have bB:=ud cF cG cB
 refine aG (ub (aI i (aI j bB)) k) mZ fun dA cH cI=>ai 1<|aX<|bJ cH (vI 4)<|?_
 exact cv (by unfold aj aP;(try simp only[bi,dJ,dP,dL,dN,dO,reduceIte,k1,k2,k5,l])<;>rfl) (cR (ud E (uz bB cI) n))
theorem nA{m:Md}{A:Option Addr}{cp:Nat}{b:List Int}{w:World}{dir c:Int}(hcode:B8 c)(hsl:aZ m w (.slice A b.length cp) b)(hb:b.length≤1048576)(hd:¬ (dir=0∨dir=1)) :
    Calls Tryz.prog 96 #[vI dir,vB c,.slice A b.length cp] w (eL (aj aP dir c b) w):=by
 obtain⟨hcode1,hcode2⟩:=hcode
 have hln:(b.length:Int)≤1048576:=by omega
 have e0:(dir != 0)=true:=by simp;omega
 have e1:(dir != 1)=true:=by simp;omega
 refine en 72 Tryz.func96 rfl<|sg<|aK mZ fun g h a d e=>ai 1<|sq<|al 3<|sy 16 e0<|Pl 3<|nl<|tn<|ct e1<|al 1<|aG d mZ fun i eN f=>ai 1<|aX<|bJ eN (vI 1)<|?_
 exact cv (by unfold aj aP;(try simp only[e0,e1,bi,dJ,dP,dL,dN,dO,reduceIte,hd])<;>rfl) (cR (ud e f a))
theorem lA{m:Md}{v:Value}{b:List Int}{w:World}{dir c:Int}(hc:B8 c)(h:aZ m w v b)(hb:b.length≤1048576) :
    Calls Tryz.prog 96 #[.int .i64 dir,.int .u8 c,v] w (eL (aj aP dir c b) w):=by
  obtain⟨A,cp,rfl,_,_⟩:=h.shape
  by_cases h0:dir=0
  · subst h0;exact nW hc h hb
  by_cases h1:dir=1
  · subst h1;exact nY hc h hb
  exact nA hc h hb (by omega)
open Go.RowKit
def dW (c:ah) : ah:=(c.wordsC 1).need (c.wordV==0 || c.wordV==65535) 6
theorem BF{v:Int}(h:0≤v∧v<65536) : bits .and .u16 v 255=v%256:=by
  rw[u16_and v 255 h.1 h.2 (by decide) (by decide)]
  show((v.toNat &&& (2 ^ 8-1) : Nat) : Int)=_
  rw[Nat.and_two_pow_sub_one_eq_mod]
  omega
def gX (dir sub v:Int) : Bool:=if (sub==2 || (decide (11≤sub)&&decide (sub≤18)))&&dir==1 then true else if sub==1 then v==0 || v==65280 else if sub==3 then v%256==0 else v==0
theorem qB{g:Nat}{c:ah}{w:World}(hc:ak w g c) :
    Calls Tryz.prog 212 #[vP g 0] w (oM g .u16 65536 c.wordV (dW c) w):=by
 have hr:=hc.wordV
 refine en 15 Tryz.func212 rfl<|al 1<|aM 1<|ay<|m3 (cg hc) fun l d e m=>ai 1<|sq<|go<|Pl 4<|cu 3 [9] 12 (((c.wordV==0)||(c.wordV==65535))) (fun K b=>?_) ?_
 refine bl 9 ((c.wordV==0)) (fun a=>?_) (fun a=>?_)
 have f:=ag a
 exact Pl 3<|ce b true (by rw[a];rfl)
 have f:=au a
 exact Pl 3<|ce b (c.wordV==65535) (by rw[a];rfl)
 refine ay<|m2 (bt (((c.wordV==0)||(c.wordV==65535))) 6 d) fun n h i=>?_
 refine ab h fun x19 j k=>?_
 refine cE 2<|rt<|rr (vW c.wordV)<|?_
 subst j
 exact⟨rfl,k,(u1 e i im),hr⟩
theorem yw{v:Int}{w:World}:Calls Tryz.prog 231 #[vW v] w (cl (.bool (v==0 || v==65280)) w):=by
 refine en 9 Tryz.func231 rfl<|al 1<|aM 3<|cu 3 [5] 8 (((v==0)||(v==65280))) (fun K b=>?_) ?_
 refine bl 5 ((v==0)) (fun a=>?_) (fun a=>?_)
 have c:=ag a
 exact Pl 3<|ce b true (by rw[a];rfl)
 have c:=au a
 exact Pl 3<|ce b (v==65280) (by rw[a];rfl)
 exact ai 1<|rt<|rr (.bool ((v==0)||(v==65280)))<|⟨rfl,(aH.refl [] _)⟩
theorem wP{v:Int}{w:World}(hv:0≤v∧v<65536) : Calls Tryz.prog 232 #[vW v] w (cl (.bool (v%256==0)) w):=by
 exact en 6 Tryz.func232 rfl<|al 1<|aM 1<|L0<|Oe (vW (bits .and .u16 v 255)) (vW (v%256)) (congrArg (Value.int .u16) (BF (by omega)))<|ai 2<|rt<|rr (.bool ((v%256)==0))<|⟨rfl,(aH.refl [] _)⟩
theorem xx{v x:Int}{gb:Nat}{w:World}(hB:w.heap[gb]? = some (.cells #[vW v] 37 (0,0))) : Calls Tryz.prog 230 #[vW x,vP gb 0] w (cl (.bool (v==0)) w):=by
 exact en 6 Tryz.func230 rfl<|al 1<|ng<|aD hB 0<|ai 2<|rt<|rr (.bool (v==0))<|⟨rfl,(aH.refl [] _)⟩
theorem D1{dir v:Int}{w:World}(hv:0≤v∧v<65536) : Calls Tryz.prog 211 #[vI dir,vW 1,vW v] w (cl (.bool (gX dir 1 v)) w):=by
 refine en 42 Tryz.func211 rfl<|sg<|L0<|d6 #[vW v] fun l m n b c=>Pl 1<|aM 2<|ng<|L0<|zR fun o p d e f=>L0<|iQ e 1 fun q g h=>L0<|iQ g 3 fun r i j=>Pl 2<|cE 11<|sq<|aE 5<|c0<|bj<|al 2<|L0<|pZ i 1 (.nilFunc) (some (0,.func (.func 231) #[] #[]))<|ai 5<|sq<|aE 2<|c0<|bj<|al 1<|?_
 have a:=ud f (u1 h j im) d
 refine aD (ub a b) 0<|L0<|i3 #[] #[] (args:=#[vW v])<|m1 (yw) fun s k=>ai 1<|rt<|rr (.bool (v==0 || v==65280))<|?_
 exact cv (by unfold gX;(try simp only[bi,reduceIte])<;>rfl) ⟨rfl,(aI c (aI a k))⟩
theorem CV{dir v:Int}{w:World}(hv:0≤v∧v<65536) : Calls Tryz.prog 211 #[vI dir,vW 3,vW v] w (cl (.bool (gX dir 3 v)) w):=by
 refine en 42 Tryz.func211 rfl<|sg<|L0<|d6 #[vW v] fun l m n b c=>Pl 1<|aM 2<|ng<|L0<|zR fun o p d e f=>L0<|iQ e 1 fun q g h=>L0<|iQ g 3 fun r i j=>Pl 2<|cE 11<|sq<|aE 5<|c0<|bj<|al 2<|L0<|pZ i 3 (.nilFunc) (some (1,.func (.func 232) #[] #[]))<|ai 5<|sq<|aE 2<|c0<|bj<|al 1<|?_
 have a:=ud f (u1 h j im) d
 refine aD (ub a b) 0<|L0<|i3 #[] #[] (args:=#[vW v])<|m1 (wP hv) fun s k=>ai 1<|rt<|rr (.bool (v%256==0))<|?_
 exact cv (by unfold gX;(try simp only[bi,reduceIte])<;>rfl) ⟨rfl,(aI c (aI a k))⟩
theorem BQ{dir sub v:Int}{w:World}(hv:0≤v∧v<65536)(h1:sub≠1)(h3:sub≠3) : Calls Tryz.prog 211 #[vI dir,vW sub,vW v] w (cl (.bool (gX dir sub v)) w):=by
 have n1:(sub==1)=false:=by simpa using h1
 have n3:(sub==3)=false:=by simpa using h3
 refine en 42 Tryz.func211 rfl<|sg<|L0<|d6 #[vW v] fun f G H o p=>Pl 1<|aM 2<|ng<|L0<|zR fun I J r s t=>L0<|iQ s 1 fun L u y=>L0<|iQ u 3 fun M z A=>Pl 2<|aM 3<|cu 7 [17] 24 (((sub==2)||((decide (11≤sub))&&(decide (sub≤18))))) (fun K g=>?_) ?_
 refine bl 17 ((sub==2)) (fun a=>?_) (fun a=>?_)
 have B:=ag a
 exact Pl 7<|ce g true (by rw[a];rfl)
 have B:=au a
 refine Pl 3<|cu 3 [20] 23 (((decide (11≤sub))&&(decide (sub≤18)))) (fun K i=>?_) ?_
 refine bl 20 ((decide (11≤sub))) (fun b=>?_) (fun b=>?_)
 have C:=of_decide_eq_true b
 exact Pl 3<|ce i (decide (sub≤18)) (by rw[b];rfl)
 have C:=of_decide_eq_false b
 exact Pl 3<|ce i false (by rw[b];rfl)
 exact Pl 1<|ce g ((decide (11≤sub))&&(decide (sub≤18))) (by rw[a];rfl)
 refine ai 1<|sq<|al 2<|cu 3 [26] 29 ((((sub==2)||((decide (11≤sub))&&(decide (sub≤18))))&&(dir==1))) (fun K j=>?_) ?_
 refine bl 26 (((sub==2)||((decide (11≤sub))&&(decide (sub≤18))))) (fun c=>?_) (fun c=>?_)
 exact Pl 3<|ce j (dir==1) (by rw[c];rfl)
 have D:=(bK c).1
 have N:=(bK c).2
 have O:=au D
 exact Pl 3<|ce j false (by rw[c];rfl)
 refine nt<|?_
 have k:=ud t (u1 y A im) r
 have l:=aI p k
 refine cb ((((sub==2)||((decide (11≤sub))&&(decide (sub≤18))))&&(dir==1))) (fun d=>?_) (fun d=>?_)
 have E:=(bC d).1
 have m:=(bC d).2
 have P:=ag m
 exact aE 1<|aX<|rr (.bool true)<|cv (by unfold gX;(try simp only[d,E,m,bi,n1,n3,reduceIte])<;>rfl) ⟨rfl,l⟩
 refine bj<|al 2<|L0<|pZ (hf:=(Di (q:=.u16) (x:=sub) #[⟨vW 1,.func (.func 231) #[] #[],0⟩,⟨vW 3,.func (.func 232) #[] #[],1⟩] (gn _ _ (by intro e he;simp only[List.mem_cons,List.not_mem_nil,or_false] at he;rcases he with rfl | rfl;exact⟨_,rfl,fun h=>h1 h.symm⟩;exact⟨_,rfl,fun h=>h3 h.symm⟩)))) z sub (.nilFunc) none<|ai 5<|sq<|al 2<|nl<|tn<|c1<|go<|Pl 2<|aM 1<|?_
 have n:=ub k o
 refine aD n 0<|L0<|i3 #[] #[vP f 0] (args:=#[vW v,vP f 0])<|m1 (xx n) fun Q F=>ai 1<|rt<|rr (.bool (v==0))<|?_
 exact cv (by unfold gX;(try simp only[d,bi,n1,n3,reduceIte])<;>rfl) ⟨rfl,(aI l F)⟩
theorem zk{dir sub v:Int}{w:World}(hv:0≤v∧v<65536) : Calls Tryz.prog 211 #[.int .i64 dir,.int .u16 sub,.int .u16 v] w (cl (.bool (gX dir sub v)) w):=by
  by_cases h1:sub=1
  · subst h1;exact D1 hv
  by_cases h3:sub=3
  · subst h3;exact CV hv
  exact BQ hv h1 h3
open Go.RowKit
def fu (dir:Int)(C:ah) : ah:=(C.wordsC 1).need (eU C.wordV&&(dir==0 || C.wordV != 4)) 8
def kx (C:ah) : ah:=C.need (((C.l.length:Int)%2==0&&decide (2≤(C.l.length:Int)))&&decide ((C.l.length:Int)≤250)) 5
def eD (dir c:Int)(C:ah) : ah × aU :=
  if C.wordV != 0 then (((fu dir C).wordsC 1).need ((((fu dir C).wordsR 1).length:Int)==1&&gX dir C.wordV (((fu dir C).wordsR 1).getD 0 0)) 6,{ aU.zero with code:=c,sub:=C.wordV,words:=(fu dir C).wordsR 1 })
  else ((kx (fu dir C)).wordsC (((fu dir C).l.length:Int)/2),{ aU.zero with code:=c,sub:=C.wordV,words:=(kx (fu dir C)).wordsR (((fu dir C).l.length:Int)/2) })
def fX (C:ah)(lo hi:Int) : ah:=(C.bytesC 1).need (decide (lo≤C.byteV)&&decide (C.byteV≤hi)) 5
def gD (C:ah) : ah:=((dW (fX C 6 70)).wordsC 1).wordsC 1
def cI (c:Int)(C:ah) : ah × aU :=
  if c==7 then (C.bytesC 1,{ aU.zero with code:=c,value:=C.byteV })
  else if c==11 then ((dW C).wordsC 1,{ aU.zero with code:=c,status:=C.wordV,events:=(dW C).wordV })
  else if c==12 then ((gD C).bytesC (C.byteV-6),{ aU.zero with code:=c,status:=(fX C 6 70).wordV,events:=(dW (fX C 6 70)).wordV,messages:=((dW (fX C 6 70)).wordsC 1).wordV,data:=(gD C).bytesR (C.byteV-6) })
  else if c==17 then ((fX C 1 251).bytesC C.byteV,{ aU.zero with code:=c,data:=(fX C 1 251).bytesR C.byteV })
  else (C,{ aU.zero with code:=c })
theorem rc{g gm:Nat}{dir c:Int}{C:ah}{w:World}(hcode:B8 c)(hC:ak w g C)(hm:w.heap[gm]? = some (.cells #[vB c,vB 0,vW 0,vW 0,vW 0,vW 0,vW 0,vW 0,vW 0,vW 0,vW 0,vW 0,nS,nS,nS,nS,vB 0,vB 0,vB 0,vB 0,vB 0,nS] 45 (0,0)))(hne:g≠gm) :
    Calls Tryz.prog 150 #[vI dir,vP g 0,vP gm 0] w (cM g gm (eD dir c C).1 (eD dir c C).2 w):=by
 obtain⟨hcode1,hcode2⟩:=hcode
 have hlen:=hC.len
 refine en 84 Tryz.func150 rfl<|al 2<|ay<|m3 (cg hC) fun aZ a4 s b0=>Pl 2<|?_
 have J:=be s (Ne.symm hne) hm
 refine L0<|ci J 8 (mG c 0 0 0 0 0 0 0 C.wordV 0 0 0 nS nS nS nS 0 0 0 0 0 nS) fun b1 eN L=>aM 4<|aD eN 8<|ay<|m1 (xw (x:=C.wordV) (w:=_)) fun b2 q=>Pl 1<|cu 10 [18] 28 (((eU C.wordV)&&((dir==0)||(C.wordV != 4)))) (fun K M=>?_) ?_
 refine bl 18 ((eU C.wordV)) (fun t=>?_) (fun t=>?_)
 refine Pl 3<|cu 6 [21] 27 (((dir==0)||(C.wordV != 4))) (fun K N=>?_) ?_
 refine bl 21 ((dir==0)) (fun j=>?_) (fun j=>?_)
 have a5:=ag j
 exact Pl 6<|ce N true (by rw[j];rfl)
 have a5:=au j
 refine Pl 3<|?_
 exact L1<|dD (ub q eN) 8<|Pl 2<|ce N (C.wordV != 4) (by rw[j];rfl)
 exact Pl 1<|ce M ((dir==0)||(C.wordV != 4)) (by rw[t];rfl)
 exact Pl 10<|ce M false (by rw[t];rfl)
 have O:=aI L q
 refine ay<|m2 (bt (((eU C.wordV)&&((dir==0)||(C.wordV != 4)))) 8 (ak.upd a4 O (aa hne aF) (ax (b7 J (by decide)) aN))) fun b3 a6 u=>?_
 refine ab a6 fun x30 y r=>?_
 refine nt<|sq<|al 3<|?_
 have z:=be (uz q u) (Ne.symm hne) eN
 refine aD z 8<|ai 1<|?_
 have d:=ui s (us O u)
 refine cb ((C.wordV != 0)) (fun f=>?_) (fun f=>?_)
 have a7:=aB f
 refine al 2<|ay<|pu (eO (n:=1) r) fun P Q b4 i b5 b6 R S=>Pl 2<|?_
 have A:=be S (Ne.symm hne) z
 refine L0<|ci A 12 (mG c 0 0 0 0 0 0 0 C.wordV 0 0 0 (.slice P ((x30.wordsR 1).length) Q) nS nS nS 0 0 0 0 0 nS) fun b8 a8 a9=>nt<|sq<|Rg 22 (fun w'=>w'.cell? ⟨gm,12,none⟩=some (.slice P ((x30.wordsR 1).length) Q)∧w'.cell? ⟨gm,8,none⟩=some (vW C.wordV)) fun b9 T=>?_
 have b:=ub T a8
 refine bo ⟨(ae b rfl),(ae b rfl)⟩ fun a=>Rt 0 a<|Rt 1 a<|Rt 2 a<|Rt 3 a<|Rl 4 a (fun _ hs=>hs.1)<|Rt 5 a<|Rt 6 a<|Rt 7 a<|?_
 have k:=aI a9 T
 have U:=ut d (us S k) (ac im (ac im aA))
 refine uu 47 ((((x30.wordsR 1).length:Int)==1)) (fun m=>?_) (fun m=>?_)
 have ad:=ag m
 refine Rt 8 a<|Rt 9 a<|Rt 10 a<|Rt 11 a<|Rl 12 a (fun _ hs=>hs.2)<|Rt 13 a<|Rt 14 a<|Rt 15 a<|Rl 16 a (fun _ hs=>hs.1)<|?_
 have V:=av i k (fun x hx=>(aa (fun e=>(aL (aq hm) d.size i) (e▸hx)) aF)) (fun _ _ h=>h)
 refine ft (ey.at_ (V).rd 0 (by omega)) fun af aj am an ba=>R0 17 rfl<|kY ((x30.wordsR 1).length) 0 am (by omega)<|bo ⟨(ae b rfl),(ae b rfl)⟩ fun bb=>R0 18 rfl<|eu (p:=⟨af,aj+0,none⟩) (v:=vW ((x30.wordsR 1).getD 0 0)) an<|bo ⟨(ae b rfl),(ae b rfl)⟩ fun bc=>R0 19 rfl<|Oc<|m1 (zk (dir:=dir) (sub:=C.wordV) (v:=((x30.wordsR 1).getD 0 0)) (by omega)) fun bd B=>?_
 have D:=ub B b
 refine bo ⟨(ae D rfl),(ae D rfl)⟩ fun ao=>Rt 20 ao<|?_
 refine R0 21 rfl<|Oc<|m2 (bt ((gX dir C.wordV ((x30.wordsR 1).getD 0 0))) 6 (ak.upd R (aI k B) (aa hne aF) (ax (b7 A (by decide)) aN))) fun bf ap W=>?_
 refine ab ap fun bg ar aw=>?_
 have E:=be W (Ne.symm hne) D
 refine bo ⟨(ae E rfl),(ae E rfl)⟩ fun bh=>re<|tn<|aX<|rr (.tuple #[])<|?_
 subst ar y
 have X:=uz B W
 have hs:eD dir c C=(((((C.wordsC 1).need ((eU C.wordV)&&((dir==0)||(C.wordV != 4))) 8).wordsC 1).need (gX dir C.wordV ((((C.wordsC 1).need ((eU C.wordV)&&((dir==0)||(C.wordV != 4))) 8).wordsR 1).getD 0 0)) 6),(aU.mk c 0 0 0 0 0 0 0 C.wordV 0 0 0 (((C.wordsC 1).need ((eU C.wordV)&&((dir==0)||(C.wordV != 4))) 8).wordsR 1) [] [] [] 0 0 0 0 0 [])):=by
   unfold eD fu kx
   (try simp only[f,m,bi,reduceIte])
   all_goals rfl
 rw[hs]
 exact⟨rfl,aw,⟨_,⟨E,rfl⟩,⟨_,_,_,_,_,rfl,((av V X (fun x hx=>(aa (fun e=>(aL (ak.lt hC) d.size i) (e▸hx)) aF)) (fun _ _ h=>h))).rd,aS.nil ..,aS.nil ..,aS.nil ..,aS.nil ..,(cT (by omega))⟩⟩,(aH.mono (S':=[g,gm]) (u1 U X im) (C5 (Or.inl (by simp)) (Or.inl (by simp))))⟩
 have ad:=au m
 refine Ro 8 a<|Ro 9 a<|Ro 10 a<|Ro 11 a<|Ro 12 a<|Ro 13 a<|Ro 14 a<|Ro 15 a<|Ro 16 a<|Ro 17 a<|Ro 18 a<|Ro 19 a<|Rt 20 a<|?_
 refine R0 21 rfl<|Oc<|m2 (bt (false) 6 (ak.upd R k (aa hne aF) (ax (b7 A (by decide)) aN))) fun bk aC F=>?_
 have G:=be F (Ne.symm hne) b
 refine bo ⟨(ae G rfl),(ae G rfl)⟩ fun bm=>re<|tn<|aX<|rr (.tuple #[])<|?_
 subst y
 have hs:eD dir c C=(((((C.wordsC 1).need ((eU C.wordV)&&((dir==0)||(C.wordV != 4))) 8).wordsC 1).need false 6),(aU.mk c 0 0 0 0 0 0 0 C.wordV 0 0 0 (((C.wordsC 1).need ((eU C.wordV)&&((dir==0)||(C.wordV != 4))) 8).wordsR 1) [] [] [] 0 0 0 0 0 [])):=by
   unfold eD fu kx
   (try simp only[f,m,bi,reduceIte])
   all_goals rfl
 rw[hs]
 exact⟨rfl,aC,⟨_,⟨G,rfl⟩,⟨_,_,_,_,_,rfl,((av i (us k F) (fun x hx=>(aa (fun e=>(aL (aq hm) d.size i) (e▸hx)) (aa (fun e=>(aL (ak.lt hC) d.size i) (e▸hx)) aF))) (fun _ _ h=>h))).rd,aS.nil ..,aS.nil ..,aS.nil ..,aS.nil ..,(cT (by omega))⟩⟩,(aH.mono (S':=[g,gm]) (u1 U F im) (C5 (Or.inl (by simp)) (Or.inl (by simp))))⟩
 have a7:=az f
 refine bj<|al 1<|ay<|mq (eI r)<|?_
 have bn:=ak.len r
 refine Pl 1<|aM 2<|L0<|Oe (vI (Int.tmod (x30.l.length:Int) 2)) (vI ((x30.l.length:Int)%2)) (congrArg (Value.int .i64) (Int.tmod_eq_emod_of_nonneg (by omega)))<|Pl 2<|cu 3 [68] 71 (((((x30.l.length:Int)%2)==0)&&(decide (2≤(x30.l.length:Int))))) (fun K Y=>?_) ?_
 refine bl 68 ((((x30.l.length:Int)%2)==0)) (fun o=>?_) (fun o=>?_)
 have aE:=ag o
 exact Pl 3<|ce Y (decide (2≤(x30.l.length:Int))) (by rw[o];rfl)
 have aE:=au o
 exact Pl 3<|ce Y false (by rw[o];rfl)
 refine Pl 1<|cu 3 [72] 75 ((((((x30.l.length:Int)%2)==0)&&(decide (2≤(x30.l.length:Int))))&&(decide ((x30.l.length:Int)≤250)))) (fun K Z=>?_) ?_
 refine bl 72 (((((x30.l.length:Int)%2)==0)&&(decide (2≤(x30.l.length:Int))))) (fun H=>?_) (fun H=>?_)
 exact Pl 3<|ce Z (decide ((x30.l.length:Int)≤250)) (by rw[H];rfl)
 exact Pl 3<|ce Z false (by rw[H];rfl)
 refine ay<|m2 (bt ((((((x30.l.length:Int)%2)==0)&&(decide (2≤(x30.l.length:Int))))&&(decide ((x30.l.length:Int)≤250)))) 5 r) fun bp aG a0=>?_
 refine ab aG fun aJ aK aO=>?_
 refine nt<|go<|Pl 3<|L0<|Oe (vI (IntKind.i64.wrap (Int.tdiv (x30.l.length:Int) 2))) (vI ((x30.l.length:Int)/2)) (congrArg (Value.int .i64) (gV (by omega) (by omega)))<|ay<|pu (eO (n:=((x30.l.length:Int)/2)) aO) fun aP aQ bq a1 br bs aR aT=>?_
 refine ab aR fun bu aV aW=>?_
 refine Pl 2<|?_
 have a2:=u1 a0 aT im
 have a3:=be a2 (Ne.symm hne) z
 refine L0<|ci a3 12 (mG c 0 0 0 0 0 0 0 C.wordV 0 0 0 (.slice aP ((aJ.wordsR ((x30.l.length:Int)/2)).length) aQ) nS nS nS 0 0 0 0 0 nS) fun bv aY I=>nl<|rm (.tuple #[])<|?_
 subst aV aK y
 have hs:eD dir c C=(((((C.wordsC 1).need ((eU C.wordV)&&((dir==0)||(C.wordV != 4))) 8).need ((((((((C.wordsC 1).need ((eU C.wordV)&&((dir==0)||(C.wordV != 4))) 8).l.length:Nat) : Int)%2)==0)&&(decide (2≤((((C.wordsC 1).need ((eU C.wordV)&&((dir==0)||(C.wordV != 4))) 8).l.length:Nat) : Int))))&&(decide (((((C.wordsC 1).need ((eU C.wordV)&&((dir==0)||(C.wordV != 4))) 8).l.length:Nat) : Int)≤250))) 5).wordsC (((((C.wordsC 1).need ((eU C.wordV)&&((dir==0)||(C.wordV != 4))) 8).l.length:Nat) : Int)/2)),(aU.mk c 0 0 0 0 0 0 0 C.wordV 0 0 0 ((((C.wordsC 1).need ((eU C.wordV)&&((dir==0)||(C.wordV != 4))) 8).need ((((((((C.wordsC 1).need ((eU C.wordV)&&((dir==0)||(C.wordV != 4))) 8).l.length:Nat) : Int)%2)==0)&&(decide (2≤((((C.wordsC 1).need ((eU C.wordV)&&((dir==0)||(C.wordV != 4))) 8).l.length:Nat) : Int))))&&(decide (((((C.wordsC 1).need ((eU C.wordV)&&((dir==0)||(C.wordV != 4))) 8).l.length:Nat) : Int)≤250))) 5).wordsR (((((C.wordsC 1).need ((eU C.wordV)&&((dir==0)||(C.wordV != 4))) 8).l.length:Nat) : Int)/2)) [] [] [] 0 0 0 0 0 [])):=by
   unfold eD fu kx
   (try simp only[f,bi,reduceIte])
   all_goals rfl
 rw[hs]
 exact⟨rfl,(ak.upd aW I (aa hne aF) (ax (b7 a3 (by decide)) aN)),⟨_,⟨aY,rfl⟩,⟨_,_,_,_,_,rfl,((av a1 I (fun x hx=>(aa (fun e=>(aL (aq hm) (le (le (le (le s.size L.size) q.size) u.size) a0.size) a1) (e▸hx)) aF)) (fun _ _ h=>h))).rd,aS.nil ..,aS.nil ..,aS.nil ..,aS.nil ..,(cT (by omega))⟩⟩,(aH.mono (S':=[g,gm]) (ut d (us a2 I) (ac im (ac im aA))) (C5 (Or.inl (by simp)) (Or.inl (by simp))))⟩
theorem iT{g gm:Nat}{c:Int}{C:ah}{w:World}(hcode:B8 c)(hC:ak w g C)(hm:w.heap[gm]? = some (.cells #[vB c,vB 0,vW 0,vW 0,vW 0,vW 0,vW 0,vW 0,vW 0,vW 0,vW 0,vW 0,nS,nS,nS,nS,vB 0,vB 0,vB 0,vB 0,vB 0,nS] 45 (0,0)))(hne:g≠gm) :
    Calls Tryz.prog 151 #[vP g 0,vP gm 0] w (cM g gm (cI c C).1 (cI c C).2 w):=by
 obtain⟨hcode1,hcode2⟩:=hcode
 have hlen:=hC.len
 refine en 84 Tryz.func151 rfl<|al 3<|aD hm 0<|nt<|bk<|aE 2<|cb ((c==7)) (fun a=>?_) (fun a=>?_)
 have M:=ag a
 refine go<|Pl 2<|ay<|m3 (cc hC) fun aP N m aQ=>L0<|BA C.byteV<|Pl 2<|?_
 have o:=be m (Ne.symm hne) hm
 refine L0<|ci o 4 (mG c 0 0 0 C.byteV 0 0 0 0 0 0 0 nS nS nS nS 0 0 0 0 0 nS) fun aR O p=>nl<|bn<|rm (.tuple #[])<|?_
 have hs:cI c C=((C.bytesC 1),(aU.mk c 0 0 0 C.byteV 0 0 0 0 0 0 0 [] [] [] [] 0 0 0 0 0 [])):=by
   unfold cI gD fX
   (try simp only[a,bi,reduceIte])
   all_goals rfl
 rw[hs]
 exact⟨rfl,(ak.upd N p (aa hne aF) (ax (b7 o (by decide)) aN)),⟨_,⟨O,rfl⟩,⟨_,_,_,_,_,rfl,aS.nil ..,aS.nil ..,aS.nil ..,aS.nil ..,aS.nil ..,(cT (by omega))⟩⟩,(us m p)⟩
 have M:=au a
 refine aE 2<|cb ((c==11)) (fun b=>?_) (fun b=>?_)
 have P:=ag b
 refine al 2<|ay<|m3 (qB hC) fun aT Q q aV=>Pl 2<|?_
 have r:=be q (Ne.symm hne) hm
 refine L0<|ci r 9 (mG c 0 0 0 0 0 0 0 0 C.wordV 0 0 nS nS nS nS 0 0 0 0 0 nS) fun aW R s=>nt<|go<|Pl 2<|?_
 refine ay<|m3 (cg (ak.upd Q s (aa hne aF) (ax (b7 r (by decide)) aN))) fun aX S t aY=>Pl 2<|?_
 have u:=be t (Ne.symm hne) R
 refine L0<|ci u 10 (mG c 0 0 0 0 0 0 0 0 C.wordV ((dW C).wordV) 0 nS nS nS nS 0 0 0 0 0 nS) fun b0 T v=>nl<|bn<|rm (.tuple #[])<|?_
 have hs:cI c C=(((dW C).wordsC 1),(aU.mk c 0 0 0 0 0 0 0 0 C.wordV ((dW C).wordV) 0 [] [] [] [] 0 0 0 0 0 [])):=by
   unfold cI gD fX
   (try simp only[a,b,bi,reduceIte])
   all_goals rfl
 rw[hs]
 exact⟨rfl,(ak.upd S v (aa hne aF) (ax (b7 u (by decide)) aN)),⟨_,⟨T,rfl⟩,⟨_,_,_,_,_,rfl,aS.nil ..,aS.nil ..,aS.nil ..,aS.nil ..,aS.nil ..,(cT (by omega))⟩⟩,(ui q (ui s (us t v)))⟩
 have P:=au b
 refine aE 2<|cb ((c==12)) (fun d=>?_) (fun d=>?_)
 have U:=ag d
 refine al 1<|ay<|m3 (cc hC) fun b1 V W b2=>bq C.byteV<|Pl 1<|aM 4<|cu 3 [38] 41 (((decide (6≤C.byteV))&&(decide (C.byteV≤70)))) (fun K x=>?_) ?_
 refine bl 38 ((decide (6≤C.byteV))) (fun e=>?_) (fun e=>?_)
 have X:=of_decide_eq_true e
 exact Pl 3<|ce x (decide (C.byteV≤70)) (by rw[e];rfl)
 have X:=of_decide_eq_false e
 exact Pl 3<|ce x false (by rw[e];rfl)
 refine ay<|m2 (bt (((decide (6≤C.byteV))&&(decide (C.byteV≤70)))) 5 V) fun b3 Y Z=>?_
 refine ab Y fun x53 a0 a1=>?_
 refine aM 2<|ay<|m3 (qB a1) fun b4 a2 a3 b5=>Pl 2<|?_
 have y:=u1 W (u1 Z a3 im) im
 have z:=be y (Ne.symm hne) hm
 refine L0<|ci z 9 (mG c 0 0 0 0 0 0 0 0 x53.wordV 0 0 nS nS nS nS 0 0 0 0 0 nS) fun b6 a4 A=>aM 3<|?_
 refine ay<|m3 (cg (ak.upd a2 A (aa hne aF) (ax (b7 z (by decide)) aN))) fun b8 a5 a6 b9=>Pl 1<|ay<|m3 (cg a5) fun ba a7 a8 bb=>?_
 refine ab a7 fun lU a9 ac=>?_
 refine Pl 2<|?_
 have B:=u1 a6 a8 im
 have D:=be B (Ne.symm hne) a4
 refine L0<|ci D 10 (mG c 0 0 0 0 0 0 0 0 x53.wordV ((dW x53).wordV) 0 nS nS nS nS 0 0 0 0 0 nS) fun bc ad ae=>Pl 2<|L0<|ci ad 11 (mG c 0 0 0 0 0 0 0 0 x53.wordV ((dW x53).wordV) (((dW x53).wordsC 1).wordV) nS nS nS nS 0 0 0 0 0 nS) fun bd af ai=>nt<|go<|Pl 3<|bq (C.byteV-6)<|?_
 have E:=u1 ae ai im
 have F:=ak.upd ac E (aa hne aF) (ax (b7 D (by decide)) aN)
 refine ay<|vc (cL (n:=(C.byteV-6)) F) fun aj am bf an bg bh ao G=>?_
 have bj:=Nat.le_trans (ah.bytesR_le lU (C.byteV-6)) (ak.len F)
 refine Pl 2<|?_
 have i:=be G (Ne.symm hne) af
 refine L0<|ci i 14 (mG c 0 0 0 0 0 0 0 0 x53.wordV ((dW x53).wordV) (((dW x53).wordsC 1).wordV) nS nS (.slice aj ((lU.bytesR (C.byteV-6)).length) am) nS 0 0 0 0 0 nS) fun bm ap j=>nl<|bn<|rm (.tuple #[])<|?_
 subst a9 a0
 have hs:cI c C=(((((dW ((C.bytesC 1).need ((decide (6≤C.byteV))&&(decide (C.byteV≤70))) 5)).wordsC 1).wordsC 1).bytesC (C.byteV-6)),(aU.mk c 0 0 0 0 0 0 0 0 (((C.bytesC 1).need ((decide (6≤C.byteV))&&(decide (C.byteV≤70))) 5).wordV) ((dW ((C.bytesC 1).need ((decide (6≤C.byteV))&&(decide (C.byteV≤70))) 5)).wordV) (((dW ((C.bytesC 1).need ((decide (6≤C.byteV))&&(decide (C.byteV≤70))) 5)).wordsC 1).wordV) [] [] ((((dW ((C.bytesC 1).need ((decide (6≤C.byteV))&&(decide (C.byteV≤70))) 5)).wordsC 1).wordsC 1).bytesR (C.byteV-6)) [] 0 0 0 0 0 [])):=by
   unfold cI gD fX
   (try simp only[a,b,d,bi,reduceIte])
   all_goals rfl
 rw[hs]
 exact⟨rfl,(ak.upd ao j (aa hne aF) (ax (b7 i (by decide)) aN)),⟨_,⟨ap,rfl⟩,⟨_,_,_,_,_,rfl,aS.nil ..,aS.nil ..,(aZ.upd' an j (ax (b7 i (by decide)) aN)),aS.nil ..,aS.nil ..,(cT (by omega))⟩⟩,(ui y (ui A (ui B (ui E (us G j)))))⟩
 have U:=au d
 refine aE 2<|cb ((c==17)) (fun f=>?_) (fun f=>?_)
 have aq:=ag f
 refine al 1<|ay<|m3 (cc hC) fun bo ar av bp=>bq C.byteV<|Pl 1<|aM 4<|cu 3 [73] 76 (((decide (1≤C.byteV))&&(decide (C.byteV≤251)))) (fun K H=>?_) ?_
 refine bl 73 ((decide (1≤C.byteV))) (fun h=>?_) (fun h=>?_)
 have aw:=of_decide_eq_true h
 exact Pl 3<|ce H (decide (C.byteV≤251)) (by rw[h];rfl)
 have aw:=of_decide_eq_false h
 exact Pl 3<|ce H false (by rw[h];rfl)
 refine ay<|m2 (bt (((decide (1≤C.byteV))&&(decide (C.byteV≤251)))) 5 ar) fun br az aB=>?_
 refine ab az fun I aC J=>?_
 refine nt<|go<|Pl 3<|ay<|vc (cL (n:=C.byteV) J) fun aG aI bs aJ bu bv aK aL=>?_
 have bw:=Nat.le_trans (ah.bytesR_le I C.byteV) (ak.len J)
 refine Pl 2<|?_
 have L:=u1 av (u1 aB aL im) im
 have k:=be L (Ne.symm hne) hm
 refine L0<|ci k 14 (mG c 0 0 0 0 0 0 0 0 0 0 0 nS nS (.slice aG ((I.bytesR C.byteV).length) aI) nS 0 0 0 0 0 nS) fun bx aO l=>nl<|bn<|rm (.tuple #[])<|?_
 subst aC
 have hs:cI c C=((((C.bytesC 1).need ((decide (1≤C.byteV))&&(decide (C.byteV≤251))) 5).bytesC C.byteV),(aU.mk c 0 0 0 0 0 0 0 0 0 0 0 [] [] (((C.bytesC 1).need ((decide (1≤C.byteV))&&(decide (C.byteV≤251))) 5).bytesR C.byteV) [] 0 0 0 0 0 [])):=by
   unfold cI gD fX
   (try simp only[a,b,d,f,bi,reduceIte])
   all_goals rfl
 rw[hs]
 exact⟨rfl,(ak.upd aK l (aa hne aF) (ax (b7 k (by decide)) aN)),⟨_,⟨aO,rfl⟩,⟨_,_,_,_,_,rfl,aS.nil ..,aS.nil ..,(aZ.upd' aJ l (ax (b7 k (by decide)) aN)),aS.nil ..,aS.nil ..,(cT (by omega))⟩⟩,(us L l)⟩
 have aq:=au f
 refine sk<|bn<|rm (.tuple #[])<|?_
 have hs:cI c C=(C,(aU.mk c 0 0 0 0 0 0 0 0 0 0 0 [] [] [] [] 0 0 0 0 0 [])):=by
   unfold cI gD fX
   (try simp only[a,b,d,f,bi,reduceIte])
   all_goals rfl
 rw[hs]
 exact⟨rfl,hC,⟨_,⟨hm,rfl⟩,⟨_,_,_,_,_,rfl,aS.nil ..,aS.nil ..,aS.nil ..,aS.nil ..,aS.nil ..,(cT (by omega))⟩⟩,(aH.mono (S':=[g,gm]) (aH.refl [] _) aA)⟩
open Go.RowKit
def bg (dir c:Int)(C:ah) : Option (ah × aU) :=
  if c==8 then some (eD dir c C)
  else if c==7 || c==11 || c==12 || c==17 then (if dir==1 then some (cI c C) else some (C,{ aU.zero with code:=c }))
  else none
theorem p8{m:Md}{A:Option Addr}{cp:Nat}{b:List Int}{w:World}{c:Int}(hcode:B8 c)(hsl:aZ m w (.slice A b.length cp) b)(hb:b.length≤1048576) :
    Calls Tryz.prog 100 #[vI 0,vB c,.slice A b.length cp] w (eL (aj bg 0 c b) w):=by
 obtain⟨hcode1,hcode2⟩:=hcode
 have hln:(b.length:Int)≤1048576:=by omega
 refine en 47 Tryz.func100 rfl<|sg<|aK mZ fun b6 b8 h g N=>ai 1<|sq<|aE 6<|c0<|bj<|al 2<|aK mZ fun b9 ba p O a9=>aG O (mC c) fun bb q P=>aM 1<|?_
 have f:=ud a9 P p
 have l:=aI N f
 refine ay<|e3 (eq (aZ.old hsl l) (by omega)) fun bc bd a r d=>ai 1<|sq<|aE 1<|bk<|al 2<|nl<|tn<|?_
 have o:=aI l d
 refine cb ((c==8)) (fun i=>?_) (fun i=>?_)
 have aa:=ag i
 refine go<|Pl 2<|?_
 have Q:=nb (aq O) P.size a
 refine ay<|m3 (rc (dir:=0) (c:=c) ⟨hcode1,hcode2⟩ r (ub d q) (Ne.symm Q)) fun bf ad ae R=>?_
 obtain⟨af,t,u⟩:=ae
 refine ab ad fun x41 S T=>?_
 refine nl<|bn<|tn<|al 1<|ay<|m2 (cC T) fun bh U v=>nt<|sq<|al 1<|ay<|mq (bL U)<|?_
 have bl:=ak.len U
 refine Pl 1<|cE 2<|?_
 have x:=u1 R v im
 have V:=ut o x (ac (ni l.size a) (ac (ni N.size p) aA))
 have hs:aj bg 0 c b=bp ((eD 0 c (ah.mk b false 0)).2) ((eD 0 c (ah.mk b false 0)).1):=by
   unfold aj bg
   (try simp only[i,bi,dJ,dP,dL,dN,dO,reduceIte])
   all_goals rfl
 refine cb ((x41.endC.e != 0)) (fun y=>?_) (fun y=>?_)
 have z:=aB y
 refine al 2<|?_
 refine aG (ub (ud f (ud d x a) p) g) mZ fun bm am an=>ai 1<|aX<|bJ am (vI x41.endC.e)<|?_
 subst S
 rw[hs]
 exact bH z (ud V an h)
 have z:=az y
 refine bj<|sg<|?_
 refine L0<|bN (hz:=(by rw[t.2];exact aQ)) (be v Q t.1)<|?_
 refine aG (hz:=(by rw[t.2];exact aQ)) (hv:=u.size) (h1:=u.one) (ub (ud f (ud d x a) p) g) (af) fun bo ao W=>ai 1<|rt<|fd 22 t.2 ao (vI 0)<|?_
 subst S
 rw[hs]
 exact bM z (aJ.upd u (us v W) (ax (ak.safe T _ (by decide)) (ax (b7 (ub (ud f (ud d R a) p) g) (by decide)) aN))) (ud V W h)
 have aa:=au i
 refine sq<|aE 2<|cb ((c==7)) (fun j=>?_) (fun j=>?_)
 have ap:=ag j
 refine bj<|ct j<|aE 2<|c0<|sk<|bn<|tn<|al 1<|ay<|m2 (cC r) fun bq X B=>nt<|sq<|al 1<|ay<|mq (bL X)<|?_
 have bs:=ak.len X
 refine Pl 1<|cE 2<|?_
 have Y:=ud o B (le l.size a)
 have hs:aj bg 0 c b=bp (aU.mk c 0 0 0 0 0 0 0 0 0 0 0 [] [] [] [] 0 0 0 0 0 []) (ah.mk b false 0):=by
   unfold aj bg
   (try simp only[i,j,bi,dJ,dP,dL,dN,dO,reduceIte])
   all_goals rfl
 refine cb (((((ah.mk b false 0).endC).e)!=0)) (fun C=>?_) (fun C=>?_)
 have D:=aB C
 refine al 2<|?_
 refine aG (ub (aI f (ud d B a)) g) mZ fun bt ar av=>ai 1<|aX<|bJ ar (vI (((ah.mk b false 0).endC).e))<|?_
 rw[hs]
 exact bH D (ud Y av h)
 have D:=az C
 refine bj<|sg<|?_
 have Z:=ud d B a
 refine L0<|bN (ub Z q)<|?_
 refine aG (ub (aI f Z) g) (mC c) fun bu aw aC=>ai 1<|rt<|bJ aw (vI 0)<|?_
 rw[hs]
 exact bM D ⟨_,_,_,_,_,rfl,aS.nil ..,aS.nil ..,aS.nil ..,aS.nil ..,aS.nil ..,(cT (by omega))⟩ (ud Y aC h)
 have ap:=au j
 refine aE 2<|cb ((c==11)) (fun k=>?_) (fun k=>?_)
 have aD:=ag k
 refine bj<|ct k<|aE 2<|c0<|sk<|bn<|tn<|al 1<|ay<|m2 (cC r) fun bv a0 E=>nt<|sq<|al 1<|ay<|mq (bL a0)<|?_
 have bw:=ak.len a0
 refine Pl 1<|cE 2<|?_
 have a1:=ud o E (le l.size a)
 have hs:aj bg 0 c b=bp (aU.mk c 0 0 0 0 0 0 0 0 0 0 0 [] [] [] [] 0 0 0 0 0 []) (ah.mk b false 0):=by
   unfold aj bg
   (try simp only[i,j,k,bi,dJ,dP,dL,dN,dO,reduceIte])
   all_goals rfl
 refine cb (((((ah.mk b false 0).endC).e)!=0)) (fun F=>?_) (fun F=>?_)
 have G:=aB F
 refine al 2<|?_
 refine aG (ub (aI f (ud d E a)) g) mZ fun bx aF aH=>ai 1<|aX<|bJ aF (vI (((ah.mk b false 0).endC).e))<|?_
 rw[hs]
 exact bH G (ud a1 aH h)
 have G:=az F
 refine bj<|sg<|?_
 have a2:=ud d E a
 refine L0<|bN (ub a2 q)<|?_
 refine aG (ub (aI f a2) g) (mC c) fun bz aL aO=>ai 1<|rt<|bJ aL (vI 0)<|?_
 rw[hs]
 exact bM G ⟨_,_,_,_,_,rfl,aS.nil ..,aS.nil ..,aS.nil ..,aS.nil ..,aS.nil ..,(cT (by omega))⟩ (ud a1 aO h)
 have aD:=au k
 refine aE 2<|cb ((c==12)) (fun n=>?_) (fun n=>?_)
 have aP:=ag n
 refine bj<|ct n<|aE 2<|c0<|sk<|bn<|tn<|al 1<|ay<|m2 (cC r) fun bA a3 H=>nt<|sq<|al 1<|ay<|mq (bL a3)<|?_
 have bB:=ak.len a3
 refine Pl 1<|cE 2<|?_
 have a4:=ud o H (le l.size a)
 have hs:aj bg 0 c b=bp (aU.mk c 0 0 0 0 0 0 0 0 0 0 0 [] [] [] [] 0 0 0 0 0 []) (ah.mk b false 0):=by
   unfold aj bg
   (try simp only[i,j,k,n,bi,dJ,dP,dL,dN,dO,reduceIte])
   all_goals rfl
 refine cb (((((ah.mk b false 0).endC).e)!=0)) (fun I=>?_) (fun I=>?_)
 have J:=aB I
 refine al 2<|?_
 refine aG (ub (aI f (ud d H a)) g) mZ fun bC aR aT=>ai 1<|aX<|bJ aR (vI (((ah.mk b false 0).endC).e))<|?_
 rw[hs]
 exact bH J (ud a4 aT h)
 have J:=az I
 refine bj<|sg<|?_
 have a5:=ud d H a
 refine L0<|bN (ub a5 q)<|?_
 refine aG (ub (aI f a5) g) (mC c) fun bD aV aW=>ai 1<|rt<|bJ aV (vI 0)<|?_
 rw[hs]
 exact bM J ⟨_,_,_,_,_,rfl,aS.nil ..,aS.nil ..,aS.nil ..,aS.nil ..,aS.nil ..,(cT (by omega))⟩ (ud a4 aW h)
 have aP:=au n
 refine go<|ai 2<|cb ((c==17)) (fun s=>?_) (fun s=>?_)
 have aY:=ag s
 refine aE 2<|c0<|sk<|bn<|tn<|al 1<|ay<|m2 (cC r) fun bE a6 K=>nl<|tn<|sq<|al 1<|ay<|mq (bL a6)<|?_
 have bF:=ak.len a6
 refine Pl 1<|cE 2<|?_
 have a7:=ud o K (le l.size a)
 have hs:aj bg 0 c b=bp (aU.mk c 0 0 0 0 0 0 0 0 0 0 0 [] [] [] [] 0 0 0 0 0 []) (ah.mk b false 0):=by
   unfold aj bg
   (try simp only[i,j,k,n,s,bi,dJ,dP,dL,dN,dO,reduceIte])
   all_goals rfl
 refine cb (((((ah.mk b false 0).endC).e)!=0)) (fun L=>?_) (fun L=>?_)
 have M:=aB L
 refine al 2<|?_
 refine aG (ub (aI f (ud d K a)) g) mZ fun bG b0 b1=>ai 1<|aX<|bJ b0 (vI (((ah.mk b false 0).endC).e))<|?_
 rw[hs]
 exact bH M (ud a7 b1 h)
 have M:=az L
 refine bj<|sg<|?_
 have a8:=ud d K a
 refine L0<|bN (ub a8 q)<|?_
 refine aG (ub (aI f a8) g) (mC c) fun bI b2 b3=>ai 1<|rt<|bJ b2 (vI 0)<|?_
 rw[hs]
 exact bM M ⟨_,_,_,_,_,rfl,aS.nil ..,aS.nil ..,aS.nil ..,aS.nil ..,aS.nil ..,(cT (by omega))⟩ (ud a7 b3 h)
 have aY:=au s
 refine al 1<|?_
 refine aG (ub (aI f d) g) mZ fun bK b4 b5=>ai 1<|rt<|br<|tr<|bJ b4 (vI 4)<|?_
 exact cv (by unfold aj bg;(try simp only[i,j,k,n,s,bi,dJ,dP,dL,dN,dO,reduceIte])<;>rfl) (cR (ud o b5 h))
theorem pl{m:Md}{A:Option Addr}{cp:Nat}{b:List Int}{w:World}{c:Int}(hcode:B8 c)(hsl:aZ m w (.slice A b.length cp) b)(hb:b.length≤1048576) :
    Calls Tryz.prog 100 #[vI 1,vB c,.slice A b.length cp] w (eL (aj bg 1 c b) w):=by
 obtain⟨hcode1,hcode2⟩:=hcode
 have hln:(b.length:Int)≤1048576:=by omega
 refine en 47 Tryz.func100 rfl<|sg<|aK mZ fun bW bX i h p=>ai 1<|sq<|aE 6<|c0<|bj<|al 2<|aK mZ fun bY bZ f q b5=>aG q (mC c) fun c2 t r=>aM 1<|?_
 have g:=ud b5 r f
 have n:=aI p g
 refine ay<|e3 (eq (aZ.old hsl n) (by omega)) fun c3 c4 a u d=>ai 1<|sq<|aE 1<|bk<|al 2<|nl<|tn<|?_
 have s:=aI n d
 refine cb ((c==8)) (fun j=>?_) (fun j=>?_)
 have b6:=ag j
 refine go<|Pl 2<|?_
 have a2:=nb (aq q) r.size a
 refine ay<|m3 (rc (dir:=1) (c:=c) ⟨hcode1,hcode2⟩ u (ub d t) (Ne.symm a2)) fun c5 b8 b9 a3=>?_
 obtain⟨ba,x,D⟩:=b9
 refine ab b8 fun x41 a4 a5=>?_
 refine nl<|bn<|tn<|al 1<|ay<|m2 (cC a5) fun c6 a6 E=>nt<|sq<|al 1<|ay<|mq (bL a6)<|?_
 have c7:=ak.len a6
 refine Pl 1<|cE 2<|?_
 have F:=u1 a3 E im
 have a7:=ut s F (ac (ni n.size a) (ac (ni p.size f) aA))
 have hs:aj bg 1 c b=bp ((eD 1 c (ah.mk b false 0)).2) ((eD 1 c (ah.mk b false 0)).1):=by
   unfold aj bg
   (try simp only[j,bi,dJ,dP,dL,dN,dO,reduceIte])
   all_goals rfl
 refine cb ((x41.endC.e != 0)) (fun G=>?_) (fun G=>?_)
 have H:=aB G
 refine al 2<|?_
 refine aG (ub (ud g (ud d F a) f) h) mZ fun c8 bb bc=>ai 1<|aX<|bJ bb (vI x41.endC.e)<|?_
 subst a4
 rw[hs]
 exact bH H (ud a7 bc i)
 have H:=az G
 refine bj<|sg<|?_
 refine L0<|bN (hz:=(by rw[x.2];exact aQ)) (be E a2 x.1)<|?_
 refine aG (hz:=(by rw[x.2];exact aQ)) (hv:=D.size) (h1:=D.one) (ub (ud g (ud d F a) f) h) (ba) fun c9 bd a8=>ai 1<|rt<|fd 22 x.2 bd (vI 0)<|?_
 subst a4
 rw[hs]
 exact bM H (aJ.upd D (us E a8) (ax (ak.safe a5 _ (by decide)) (ax (b7 (ub (ud g (ud d a3 a) f) h) (by decide)) aN))) (ud a7 a8 i)
 have b6:=au j
 refine sq<|aE 2<|cb ((c==7)) (fun k=>?_) (fun k=>?_)
 have bf:=ag k
 refine bj<|ct k<|aE 2<|c1<|go<|Pl 1<|?_
 have a9:=nb (aq q) r.size a
 refine ay<|m3 (iT (c:=c) ⟨hcode1,hcode2⟩ u (ub d t) (Ne.symm a9)) fun ca bh bl aa=>?_
 obtain⟨bm,y,I⟩:=bl
 refine ab bh fun x81 ad ae=>?_
 refine nl<|bn<|tn<|al 1<|ay<|m2 (cC ae) fun cc af J=>nt<|sq<|al 1<|ay<|mq (bL af)<|?_
 have cd:=ak.len af
 refine Pl 1<|cE 2<|?_
 have K:=u1 aa J im
 have am:=ut s K (ac (ni n.size a) (ac (ni p.size f) aA))
 have hs:aj bg 1 c b=bp ((cI c (ah.mk b false 0)).2) ((cI c (ah.mk b false 0)).1):=by
   unfold aj bg
   (try simp only[j,k,bi,dJ,dP,dL,dN,dO,reduceIte])
   all_goals rfl
 refine cb ((x81.endC.e != 0)) (fun L=>?_) (fun L=>?_)
 have M:=aB L
 refine al 2<|?_
 refine aG (ub (ud g (ud d K a) f) h) mZ fun ce bo bq=>ai 1<|aX<|bJ bo (vI x81.endC.e)<|?_
 subst ad
 rw[hs]
 exact bH M (ud am bq i)
 have M:=az L
 refine bj<|sg<|?_
 refine L0<|bN (hz:=(by rw[y.2];exact aQ)) (be J a9 y.1)<|?_
 refine aG (hz:=(by rw[y.2];exact aQ)) (hv:=I.size) (h1:=I.one) (ub (ud g (ud d K a) f) h) (bm) fun cf bs an=>ai 1<|rt<|fd 22 y.2 bs (vI 0)<|?_
 subst ad
 rw[hs]
 exact bM M (aJ.upd I (us J an) (ax (ak.safe ae _ (by decide)) (ax (b7 (ub (ud g (ud d aa a) f) h) (by decide)) aN))) (ud am an i)
 have bf:=au k
 refine aE 2<|cb ((c==11)) (fun l=>?_) (fun l=>?_)
 have bt:=ag l
 refine bj<|ct l<|aE 2<|c1<|go<|Pl 1<|?_
 have ao:=nb (aq q) r.size a
 refine ay<|m3 (iT (c:=c) ⟨hcode1,hcode2⟩ u (ub d t) (Ne.symm ao)) fun cg bu bv ap=>?_
 obtain⟨bw,z,N⟩:=bv
 refine ab bu fun ar av aw=>?_
 refine nl<|bn<|tn<|al 1<|ay<|m2 (cC aw) fun ch aC O=>nt<|sq<|al 1<|ay<|mq (bL aC)<|?_
 have ci:=ak.len aC
 refine Pl 1<|cE 2<|?_
 have P:=u1 ap O im
 have aD:=ut s P (ac (ni n.size a) (ac (ni p.size f) aA))
 have hs:aj bg 1 c b=bp ((cI c (ah.mk b false 0)).2) ((cI c (ah.mk b false 0)).1):=by
   unfold aj bg
   (try simp only[j,k,l,bi,dJ,dP,dL,dN,dO,reduceIte])
   all_goals rfl
 refine cb ((ar.endC.e != 0)) (fun Q=>?_) (fun Q=>?_)
 have R:=aB Q
 refine al 2<|?_
 refine aG (ub (ud g (ud d P a) f) h) mZ fun cj bx bz=>ai 1<|aX<|bJ bx (vI ar.endC.e)<|?_
 subst av
 rw[hs]
 exact bH R (ud aD bz i)
 have R:=az Q
 refine bj<|sg<|?_
 refine L0<|bN (hz:=(by rw[z.2];exact aQ)) (be O ao z.1)<|?_
 refine aG (hz:=(by rw[z.2];exact aQ)) (hv:=N.size) (h1:=N.one) (ub (ud g (ud d P a) f) h) (bw) fun ck bA aF=>ai 1<|rt<|fd 22 z.2 bA (vI 0)<|?_
 subst av
 rw[hs]
 exact bM R (aJ.upd N (us O aF) (ax (ak.safe aw _ (by decide)) (ax (b7 (ub (ud g (ud d ap a) f) h) (by decide)) aN))) (ud aD aF i)
 have bt:=au l
 refine aE 2<|cb ((c==12)) (fun o=>?_) (fun o=>?_)
 have bB:=ag o
 refine bj<|ct o<|aE 2<|c1<|go<|Pl 1<|?_
 have aH:=nb (aq q) r.size a
 refine ay<|m3 (iT (c:=c) ⟨hcode1,hcode2⟩ u (ub d t) (Ne.symm aH)) fun cl bC bD aL=>?_
 obtain⟨bE,B,S⟩:=bD
 refine ab bC fun aO aP aR=>?_
 refine nl<|bn<|tn<|al 1<|ay<|m2 (cC aR) fun cm aS T=>nt<|sq<|al 1<|ay<|mq (bL aS)<|?_
 have cn:=ak.len aS
 refine Pl 1<|cE 2<|?_
 have U:=u1 aL T im
 have aT:=ut s U (ac (ni n.size a) (ac (ni p.size f) aA))
 have hs:aj bg 1 c b=bp ((cI c (ah.mk b false 0)).2) ((cI c (ah.mk b false 0)).1):=by
   unfold aj bg
   (try simp only[j,k,l,o,bi,dJ,dP,dL,dN,dO,reduceIte])
   all_goals rfl
 refine cb ((aO.endC.e != 0)) (fun V=>?_) (fun V=>?_)
 have W:=aB V
 refine al 2<|?_
 refine aG (ub (ud g (ud d U a) f) h) mZ fun co bF bG=>ai 1<|aX<|bJ bF (vI aO.endC.e)<|?_
 subst aP
 rw[hs]
 exact bH W (ud aT bG i)
 have W:=az V
 refine bj<|sg<|?_
 refine L0<|bN (hz:=(by rw[B.2];exact aQ)) (be T aH B.1)<|?_
 refine aG (hz:=(by rw[B.2];exact aQ)) (hv:=S.size) (h1:=S.one) (ub (ud g (ud d U a) f) h) (bE) fun cq bI aU=>ai 1<|rt<|fd 22 B.2 bI (vI 0)<|?_
 subst aP
 rw[hs]
 exact bM W (aJ.upd S (us T aU) (ax (ak.safe aR _ (by decide)) (ax (b7 (ub (ud g (ud d aL a) f) h) (by decide)) aN))) (ud aT aU i)
 have bB:=au o
 refine go<|ai 2<|cb ((c==17)) (fun v=>?_) (fun v=>?_)
 have bK:=ag v
 refine aE 2<|c1<|go<|Pl 1<|?_
 have aV:=nb (aq q) r.size a
 refine ay<|m3 (iT (c:=c) ⟨hcode1,hcode2⟩ u (ub d t) (Ne.symm aV)) fun cr bO bP aW=>?_
 obtain⟨bQ,C,X⟩:=bP
 refine ab bO fun aY b0 b1=>?_
 refine nl<|bn<|tn<|al 1<|ay<|m2 (cC b1) fun cs b2 Y=>nt<|sq<|al 1<|ay<|mq (bL b2)<|?_
 have cu:=ak.len b2
 refine Pl 1<|cE 2<|?_
 have Z:=u1 aW Y im
 have b3:=ut s Z (ac (ni n.size a) (ac (ni p.size f) aA))
 have hs:aj bg 1 c b=bp ((cI c (ah.mk b false 0)).2) ((cI c (ah.mk b false 0)).1):=by
   unfold aj bg
   (try simp only[j,k,l,o,v,bi,dJ,dP,dL,dN,dO,reduceIte])
   all_goals rfl
 refine cb ((aY.endC.e != 0)) (fun a0=>?_) (fun a0=>?_)
 have a1:=aB a0
 refine al 2<|?_
 refine aG (ub (ud g (ud d Z a) f) h) mZ fun cw bR bS=>ai 1<|aX<|bJ bR (vI aY.endC.e)<|?_
 subst b0
 rw[hs]
 exact bH a1 (ud b3 bS i)
 have a1:=az a0
 refine bj<|sg<|?_
 refine L0<|bN (hz:=(by rw[C.2];exact aQ)) (be Y aV C.1)<|?_
 refine aG (hz:=(by rw[C.2];exact aQ)) (hv:=X.size) (h1:=X.one) (ub (ud g (ud d Z a) f) h) (bQ) fun cx bT b4=>ai 1<|rt<|fd 22 C.2 bT (vI 0)<|?_
 subst b0
 rw[hs]
 exact bM a1 (aJ.upd X (us Y b4) (ax (ak.safe b1 _ (by decide)) (ax (b7 (ub (ud g (ud d aW a) f) h) (by decide)) aN))) (ud b3 b4 i)
 have bK:=au v
 refine al 1<|?_
 refine aG (ub (aI g d) h) mZ fun cy bU bV=>ai 1<|rt<|br<|tr<|bJ bU (vI 4)<|?_
 exact cv (by unfold aj bg;(try simp only[j,k,l,o,v,bi,dJ,dP,dL,dN,dO,reduceIte])<;>rfl) (cR (ud s bV i))
theorem pW{m:Md}{A:Option Addr}{cp:Nat}{b:List Int}{w:World}{dir c:Int}(hcode:B8 c)(hsl:aZ m w (.slice A b.length cp) b)(hb:b.length≤1048576)(hd:¬ (dir=0∨dir=1)) :
    Calls Tryz.prog 100 #[vI dir,vB c,.slice A b.length cp] w (eL (aj bg dir c b) w):=by
 obtain⟨hcode1,hcode2⟩:=hcode
 have hln:(b.length:Int)≤1048576:=by omega
 have e0:(dir != 0)=true:=by simp;omega
 have e1:(dir != 1)=true:=by simp;omega
 refine en 47 Tryz.func100 rfl<|sg<|aK mZ fun g h a d e=>ai 1<|sq<|al 3<|sy 13 e0<|Pl 3<|nl<|tn<|ct e1<|al 1<|aG d mZ fun i eN f=>ai 1<|aX<|bJ eN (vI 1)<|?_
 exact cv (by unfold aj bg;(try simp only[e0,e1,bi,dJ,dP,dL,dN,dO,reduceIte,hd])<;>rfl) (cR (ud e f a))
theorem mX{m:Md}{v:Value}{b:List Int}{w:World}{dir c:Int}(hc:B8 c)(h:aZ m w v b)(hb:b.length≤1048576) :
    Calls Tryz.prog 100 #[.int .i64 dir,.int .u8 c,v] w (eL (aj bg dir c b) w):=by
  obtain⟨A,cp,rfl,_,_⟩:=h.shape
  by_cases h0:dir=0
  · subst h0;exact p8 hc h hb
  by_cases h1:dir=1
  · subst h1;exact pl hc h hb
  exact pW hc h hb (by omega)
open Go.RowKit
def eH:Nat→ah→List Obj→ah × List Obj
  | 0,C,L=>(C,L)
  | n+1,C,L=>eH n (((C.bytesC 1).bytesC 1).bytesC (C.bytesC 1).byteV) (L++[⟨C.byteV,((C.bytesC 1).bytesC 1).bytesR (C.bytesC 1).byteV⟩])
def lM (C:ah) : ah:=(C.bytesC 1).need (cn C.byteV) 6
def lQ (C:ah) : ah:=((lM C).bytesC 1).need ((lM C).byteV==0 || (lM C).byteV==255) 6
def nM (C:ah) : ah:=((lQ C).bytesC 1).need ((lM C).byteV != 0 || (lQ C).byteV==0) 6
def xH (kd:Int)(C:ah) : ah:=((nM C).bytesC 1).need (kd != 4 || (nM C).byteV==1) 5
def er (kd:Int)(C:ah) : ah × List Obj:=eH (nM C).byteV.toNat (xH kd C) []
theorem t8{g gm:Nat}{c me kd:Int}{C0:ah}{w:World}(hcode:B8 c)(hme:B8 me)(hkd:B8 kd)(hC:ak w g C0)(hm:w.heap[gm]? = some (.cells #[vB c,vB 0,vW 0,vW 0,vW 0,vW 0,vW 0,vW 0,vW 0,vW 0,vW 0,vW 0,nS,nS,nS,nS,vB me,vB kd,vB 0,vB 0,vB 0,nS] 45 (0,0)))(hne:g≠gm) :
    Calls Tryz.prog 161 #[vP g 0,vP gm 0] w (cM g gm (er kd C0).1 { aU.zero with code:=c,mei:=me,kind:=kd,level:=C0.byteV,more:=(lM C0).byteV,next:=(lQ C0).byteV,objects:=(er kd C0).2 } w):=by
 obtain⟨hcode1,hcode2⟩:=hcode
 obtain⟨hme1,hme2⟩:=hme
 obtain⟨hkd1,hkd2⟩:=hkd
 refine en 92 Tryz.func161 rfl<|al 2<|ay<|m3 (cc hC) fun cZ bR b d0=>Pl 2<|?_
 have aj:=be b (Ne.symm hne) hm
 refine L0<|ci aj 18 (mG c 0 0 0 0 0 0 0 0 0 0 0 nS nS nS nS me kd C0.byteV 0 0 nS) fun d1 eN j=>aM 4<|aD eN 18<|ay<|m1 (uB (x:=C0.byteV) (w:=_)) fun d2 d=>?_
 have am:=aI j d
 refine ay<|m2 (bt ((cn C0.byteV)) 6 (ak.upd bR am (aa hne aF) (ax (b7 aj (by decide)) aN))) fun d3 bS l=>?_
 refine ab bS fun x25 bU bV=>?_
 refine aM 2<|ay<|m3 (cc bV) fun d4 bW o d5=>Pl 2<|?_
 have an:=u1 l o im
 have ao:=be (uz d an) (Ne.symm hne) eN
 refine L0<|ci ao 19 (mG c 0 0 0 0 0 0 0 0 0 0 0 nS nS nS nS me kd C0.byteV x25.byteV 0 nS) fun d6 U f=>aM 4<|aD U 19<|Pl 2<|cu 6 [29] 35 (((x25.byteV==0)||(x25.byteV==255))) (fun K ar=>?_) ?_
 refine bl 29 ((x25.byteV==0)) (fun E=>?_) (fun E=>?_)
 have bY:=ag E
 exact Pl 6<|ce ar true (by rw[E];rfl)
 have bY:=au E
 exact Pl 3<|L1<|dD U 19<|Pl 2<|ce ar (x25.byteV==255) (by rw[E];rfl)
 refine ay<|m2 (bt (((x25.byteV==0)||(x25.byteV==255))) 6 (ak.upd bW f (aa hne aF) (ax (b7 ao (by decide)) aN))) fun d7 bZ p=>?_
 refine ab bZ fun x44 c0 c1=>?_
 refine aM 2<|ay<|m3 (cc c1) fun d8 c2 q da=>Pl 2<|?_
 have aw:=u1 p q im
 have aG:=be aw (Ne.symm hne) U
 refine L0<|ci aG 20 (mG c 0 0 0 0 0 0 0 0 0 0 0 nS nS nS nS me kd C0.byteV x25.byteV x44.byteV nS) fun db V h=>aM 4<|aD V 19<|Pl 2<|cu 6 [48] 54 (((x25.byteV != 0)||(x44.byteV==0))) (fun K aJ=>?_) ?_
 refine bl 48 ((x25.byteV != 0)) (fun F=>?_) (fun F=>?_)
 have c3:=aB F
 exact Pl 6<|ce aJ true (by rw[F];rfl)
 have c3:=az F
 exact Pl 3<|L1<|dD V 20<|Pl 2<|ce aJ (x44.byteV==0) (by rw[F];rfl)
 refine ay<|m2 (bt (((x25.byteV != 0)||(x44.byteV==0))) 6 (ak.upd c2 h (aa hne aF) (ax (b7 aG (by decide)) aN))) fun dc c4 r=>?_
 refine ab c4 fun x62 c5 c6=>?_
 refine aM 1<|ay<|m3 (cc c6) fun dd c7 s de=>bq x62.byteV<|Pl 1<|aM 4<|?_
 have aK:=u1 r s im
 have aO:=be aK (Ne.symm hne) V
 refine aD aO 17<|Pl 2<|cu 3 [65] 68 (((kd != 4)||(x62.byteV==1))) (fun K aP=>?_) ?_
 refine bl 65 ((kd != 4)) (fun G=>?_) (fun G=>?_)
 have c8:=aB G
 exact Pl 3<|ce aP true (by rw[G];rfl)
 have c8:=az G
 exact Pl 3<|ce aP (x62.byteV==1) (by rw[G];rfl)
 refine ay<|m2 (bt (((kd != 4)||(x62.byteV==1))) 5 c7) fun W c9 i=>?_
 refine ab c9 fun x76 ca cd=>?_
 refine cE 2<|bk<|?_
 refine jf (fun x=>[(0,vP g 0),(1,vP gm 0),(70,vI x62.byteV),(71,vI (x.1:Int))]) (fun(x:Nat × ah × List Obj × Option Addr × Nat) w'=>aH [g,gm] W w'∧ak w' g x.2.1∧w'.heap[gm]? = some (.cells #[vB c,vB 0,vW 0,vW 0,vW 0,vW 0,vW 0,vW 0,vW 0,vW 0,vW 0,vW 0,nS,nS,nS,nS,vB me,vB kd,vB C0.byteV,vB x25.byteV,vB x44.byteV,.slice x.2.2.2.1 x.2.2.1.length x.2.2.2.2] 45 (0,0))∧b6 W.heap.size 100 2 (dw true) w' (.slice x.2.2.2.1 x.2.2.1.length x.2.2.2.2) x.2.2.1∧(x.1≤x62.byteV.toNat)∧(eH (x62.byteV.toNat-x.1) x.2.1 x.2.2.1=eH x62.byteV.toNat x76 [])∧(x.2.2.1.length≤x.1)) (fun x=>x62.byteV.toNat-x.1) (0,x76,[],none,0) ⟨aH.refl _ _,cd,(be i (Ne.symm hne) aO),b6.nil ..,(by(try dsimp only);omega),(by(try dsimp only);rw[Nat.sub_zero]),(by(try dsimp only);(try simp only[bT]);omega)⟩ ?_
 rintro⟨k,C,L,A,cp⟩ X ⟨v,cf,cg,ch,cj,ck,cl⟩
 refine je [(0,vP g 0),(1,vP gm 0),(70,vI x62.byteV),(71,vI (k:Int))] ?_
 have u:ak X g C:=cf
 have D:X.heap[gm]? = some (.cells #[vB c,vB 0,vW 0,vW 0,vW 0,vW 0,vW 0,vW 0,vW 0,vW 0,vW 0,vW 0,nS,nS,nS,nS,vB me,vB kd,vB C0.byteV,vB x25.byteV,vB x44.byteV,.slice A L.length cp] 45 (0,0)):=cg
 have a:b6 W.heap.size 100 2 (dw true) X (.slice A L.length cp) L:=ch
 have df:k≤x62.byteV.toNat:=cj
 have dg:eH (x62.byteV.toNat-k) C L=eH x62.byteV.toNat x76 []:=ck
 have dh:L.length≤k:=cl
 have hobj:eH (x62.byteV.toNat-k) C L=eH x62.byteV.toNat x76 []:=by assumption
 refine aE 1<|sq<|?_
 refine cb ((decide ((k:Int)<x62.byteV))) (fun Y=>?_) (fun Y=>?_)
 have cm:=of_decide_eq_true Y
 refine bj<|sq<|bk<|al 1<|ay<|m3 (cc u) fun di aQ y dj=>ai 1<|Rg 17 (fun w'=>True) fun dk t=>bo trivial fun z=>Rt 0 z<|Rt 1 z<|Rt 2 z<|Rt 3 z<|Rt 5 z<|Rt 6 z<|Rt 7 z<|R2 4 8 rfl rfl ?_ ?_
 have Z:=aI y t
 have a0:=be Z (Ne.symm hne) D
 refine  dD a0 21<|bo trivial fun dl=>?_
 refine R0 8 rfl<|Oc<|m3 (cc (ak.old aQ t)) fun dm aR a1 dn=>bo trivial fun co=>Rr 9 co (vI ((C.bytesC 1).byteV)) (fun _ _=>bX (vI (IntKind.i64.wrap ((C.bytesC 1).byteV))) (by kernel_rfl) (congrArg (Value.int .i64) (i64_in (by omega))))<|R0 10 rfl<|Oc<|vc (cL (n:=(C.bytesC 1).byteV) aR) fun cq cr dp cs dq dr ct a2=>?_
 have ds:=Nat.le_trans (ah.bytesR_le ((C.bytesC 1).bytesC 1) ((C.bytesC 1).byteV)) (ak.len aR)
 refine ab ct fun dt cv cw=>?_
 refine bo trivial fun cx=>Rt 11 cx<|R0 12 rfl<|cY (m:=1) (e:=100) #[vB C.byteV,.slice cq ((((C.bytesC 1).bytesC 1).bytesR ((C.bytesC 1).byteV)).length) cr] fun du dv dx cy I=>?_
 have cz:=lT (R:=dw true) (x:=(Obj.mk C.byteV (((C.bytesC 1).bytesC 1).bytesR ((C.bytesC 1).byteV)))) cy rfl ⟨_,rfl,(aZ.upd' cs I aN),b8 (by omega)⟩
 refine bo trivial fun dy=>?_
 have aV:=u1 a1 (aI a2 I) im
 have a3:=u1 Z aV im
 have aW:=av a a3 (fun x hx=>(aa (fun e=>(aL (ak.lt hC) (le (le (le (le (le (le (le (le (le (le (le b.size j.size) d.size) l.size) o.size) f.size) p.size) q.size) h.size) r.size) s.size) i.size) a) (e▸hx)) aF)) (dw.upd8 a3 (ax (ak.safe u _ (by decide)) aN))
 refine R0 13 rfl<|iY (xs:=L) (ys:=([(Obj.mk C.byteV (((C.bytesC 1).bytesC 1).bytesR ((C.bytesC 1).byteV)))])) (.agg #[vB 0,nS]) 2 32 aW cz (by simp) dw.ones (fun w' hv=>dw.upd8 hv (d9 (dM _ aW (by decide)) aN)) (by(try simp only[bT,aC]);omega) (le (le (le (le (le v.size y.size) t.size) a1.size) a2.size) I.size) fun aX aY dz b0 b1=>bo trivial fun b2=>Rt 14 b2<|Rt 15 b2<|?_
 have b3:=aH.blk (ut (aH.mono (S':=(g :: (ob A++[]))) aV (ac im aA)) b1 (ap il aA)) (aa (Ne.symm hne) (bA (aL (aq hm) (le (le (le (le (le (le (le (le (le (le (le b.size j.size) d.size) l.size) o.size) f.size) p.size) q.size) h.size) r.size) s.size) i.size) a) aF)) a0
 refine R0 16 rfl<|ci b3 21 (mG c 0 0 0 0 0 0 0 0 0 0 0 nS nS nS nS me kd C0.byteV x25.byteV x44.byteV (.slice aX ((L++[(Obj.mk C.byteV (((C.bytesC 1).bytesC 1).bytesR ((C.bytesC 1).byteV)))]).length) aY)) fun dA cA a4=>bo trivial fun dB=>re<|bn<|tn<|go<|bq ((k:Int)+1)<|Pl 1<|nl<|?_
 subst cv
 have b4:=u1 (aH.mono (S':=(ob A++(gm :: []))) b1 (ap il aA)) a4 im
 have b5:=u1 a1 a2 im
 have b9:=u1 Z b5 im
 exact gI ((k+1),(((C.bytesC 1).bytesC 1).bytesC ((C.bytesC 1).byteV)),(L++[(Obj.mk C.byteV (((C.bytesC 1).bytesC 1).bytesR ((C.bytesC 1).byteV)))]),aX,aY) ⟨(ut v (ut (aH.mono (S':=(g :: (ob A++(gm :: [])))) a3 (ac im aA)) b4 (ap il (ac im aA))) (ac im (ap (aT a lr) (ac im aA)))),(ak.upd cw (ut (aH.mono (S':=(ob A++(gm :: []))) I aA) b4 (ap il (ac im aA))) (bA (aL (ak.lt hC) (le (le (le (le (le (le (le (le (le (le (le b.size j.size) d.size) l.size) o.size) f.size) p.size) q.size) h.size) r.size) s.size) i.size) a) (aa hne aF)) (d9 (dM _ (av a b9 (fun x hx=>(aa (fun e=>(aL (ak.lt hC) (le (le (le (le (le (le (le (le (le (le (le b.size j.size) d.size) l.size) o.size) f.size) p.size) q.size) h.size) r.size) s.size) i.size) a) (e▸hx)) aF)) (dw.upd8 b9 (ax (ak.safe u _ (by decide)) aN))) (by decide)) (ax (b7 (be b5 (Ne.symm hne) a0) (by decide)) aN))),cA,(av b0 a4 (fun x hx=>(aa (fun e=>(aL (aq hm) (le (le (le (le (le (le (le (le (le (le (le b.size j.size) d.size) l.size) o.size) f.size) p.size) q.size) h.size) r.size) s.size) i.size) b0) (e▸hx)) aF)) (dw.upd8 a4 (ax (b7 b3 (by decide)) aN))),(by(try dsimp only);omega),(by(try dsimp only);rw[← hobj,show x62.byteV.toNat-k=(x62.byteV.toNat-(k+1))+1 from by omega];rfl),(by(try dsimp only);(try simp only[bT]);omega)⟩ (by omega)
 refine  Oc<|m3 (cc (ak.old aQ t)) fun dC J B dE=>bo trivial fun cB=>Rr 9 cB (vI ((C.bytesC 1).byteV)) (fun _ _=>bX (vI (IntKind.i64.wrap ((C.bytesC 1).byteV))) (by kernel_rfl) (congrArg (Value.int .i64) (i64_in (by omega))))<|R2 4 10 rfl rfl ?_ ?_
 have a5:=u1 y (uz t B) im
 have a6:=be a5 (Ne.symm hne) D
 refine  dD a6 21<|bo trivial fun dF=>R0 10 rfl<|Oc<|vc (cL (n:=(C.bytesC 1).byteV) J) fun cC cD dG cF dH dI cG M=>?_
 have dJ:=Nat.le_trans (ah.bytesR_le ((C.bytesC 1).bytesC 1) ((C.bytesC 1).byteV)) (ak.len J)
 refine ab cG fun dK cH cI=>?_
 refine bo trivial fun cJ=>Rt 11 cJ<|R0 12 rfl<|cY (m:=1) (e:=100) #[vB C.byteV,.slice cC ((((C.bytesC 1).bytesC 1).bytesR ((C.bytesC 1).byteV)).length) cD] fun dL dN dO cK N=>?_
 have cN:=lT (R:=dw true) (x:=(Obj.mk C.byteV (((C.bytesC 1).bytesC 1).bytesR ((C.bytesC 1).byteV)))) cK rfl ⟨_,rfl,(aZ.upd' cF N aN),b8 (by omega)⟩
 refine bo trivial fun dP=>?_
 have ba:=aI M N
 have a7:=u1 a5 ba im
 have bb:=av a a7 (fun x hx=>(aa (fun e=>(aL (ak.lt hC) (le (le (le (le (le (le (le (le (le (le (le b.size j.size) d.size) l.size) o.size) f.size) p.size) q.size) h.size) r.size) s.size) i.size) a) (e▸hx)) aF)) (dw.upd8 a7 (ax (ak.safe u _ (by decide)) aN))
 refine R0 13 rfl<|iY (xs:=L) (ys:=([(Obj.mk C.byteV (((C.bytesC 1).bytesC 1).bytesR ((C.bytesC 1).byteV)))])) (.agg #[vB 0,nS]) 2 32 bb cN (by simp) dw.ones (fun w' hv=>dw.upd8 hv (d9 (dM _ bb (by decide)) aN)) (by(try simp only[bT,aC]);omega) (le (le (le (le (le v.size y.size) t.size) B.size) M.size) N.size) fun bc bd dQ bf bg=>bo trivial fun bh=>Rt 14 bh<|Rt 15 bh<|?_
 have bi:=aH.blk (ut (aH.mono (S':=(g :: (ob A++[]))) ba (ac im aA)) bg (ap il aA)) (aa (Ne.symm hne) (bA (aL (aq hm) (le (le (le (le (le (le (le (le (le (le (le b.size j.size) d.size) l.size) o.size) f.size) p.size) q.size) h.size) r.size) s.size) i.size) a) aF)) a6
 refine R0 16 rfl<|ci bi 21 (mG c 0 0 0 0 0 0 0 0 0 0 0 nS nS nS nS me kd C0.byteV x25.byteV x44.byteV (.slice bc ((L++[(Obj.mk C.byteV (((C.bytesC 1).bytesC 1).bytesR ((C.bytesC 1).byteV)))]).length) bd)) fun dR cO a8=>bo trivial fun dS=>re<|bn<|tn<|go<|bq ((k:Int)+1)<|Pl 1<|nl<|?_
 subst cH
 have bm:=u1 (aH.mono (S':=(ob A++(gm :: []))) bg (ap il aA)) a8 im
 have bp:=u1 a5 M im
 exact gI ((k+1),(((C.bytesC 1).bytesC 1).bytesC ((C.bytesC 1).byteV)),(L++[(Obj.mk C.byteV (((C.bytesC 1).bytesC 1).bytesR ((C.bytesC 1).byteV)))]),bc,bd) ⟨(ut v (ut (aH.mono (S':=(g :: (ob A++(gm :: [])))) a7 (ac im aA)) bm (ap il (ac im aA))) (ac im (ap (aT a lr) (ac im aA)))),(ak.upd cI (ut (aH.mono (S':=(ob A++(gm :: []))) N aA) bm (ap il (ac im aA))) (bA (aL (ak.lt hC) (le (le (le (le (le (le (le (le (le (le (le b.size j.size) d.size) l.size) o.size) f.size) p.size) q.size) h.size) r.size) s.size) i.size) a) (aa hne aF)) (d9 (dM _ (av a bp (fun x hx=>(aa (fun e=>(aL (ak.lt hC) (le (le (le (le (le (le (le (le (le (le (le b.size j.size) d.size) l.size) o.size) f.size) p.size) q.size) h.size) r.size) s.size) i.size) a) (e▸hx)) aF)) (dw.upd8 bp (ax (ak.safe u _ (by decide)) aN))) (by decide)) (ax (b7 (be M (Ne.symm hne) a6) (by decide)) aN))),cO,(av bf a8 (fun x hx=>(aa (fun e=>(aL (aq hm) (le (le (le (le (le (le (le (le (le (le (le b.size j.size) d.size) l.size) o.size) f.size) p.size) q.size) h.size) r.size) s.size) i.size) bf) (e▸hx)) aF)) (dw.upd8 a8 (ax (b7 bi (by decide)) aN))),(by(try dsimp only);omega),(by(try dsimp only);rw[← hobj,show x62.byteV.toNat-k=(x62.byteV.toNat-(k+1))+1 from by omega];rfl),(by(try dsimp only);(try simp only[bT]);omega)⟩ (by omega)
 refine  Oc<|vc (cL (n:=(C.bytesC 1).byteV) J) fun br bs dT bu dU dV cQ H=>?_
 have dW:=Nat.le_trans (ah.bytesR_le ((C.bytesC 1).bytesC 1) ((C.bytesC 1).byteV)) (ak.len J)
 refine ab cQ fun dX bv bw=>?_
 refine bo trivial fun cR=>Rt 11 cR<|R2 4 12 rfl rfl ?_ ?_
 have O:=u1 y (uz t (u1 B H im)) im
 have a9:=be O (Ne.symm hne) D
 refine  dD a9 21<|bo trivial fun dY=>R0 12 rfl<|cY (m:=1) (e:=100) #[vB C.byteV,.slice br ((((C.bytesC 1).bytesC 1).bytesR ((C.bytesC 1).byteV)).length) bs] fun dZ e0 e1 cS P=>?_
 have cT:=lT (R:=dw true) (x:=(Obj.mk C.byteV (((C.bytesC 1).bytesC 1).bytesR ((C.bytesC 1).byteV)))) cS rfl ⟨_,rfl,(aZ.upd' bu P aN),b8 (by omega)⟩
 refine bo trivial fun e2=>?_
 have ad:=aI O P
 have bz:=av a ad (fun x hx=>(aa (fun e=>(aL (ak.lt hC) (le (le (le (le (le (le (le (le (le (le (le b.size j.size) d.size) l.size) o.size) f.size) p.size) q.size) h.size) r.size) s.size) i.size) a) (e▸hx)) aF)) (dw.upd8 ad (ax (ak.safe u _ (by decide)) aN))
 refine R0 13 rfl<|iY (xs:=L) (ys:=([(Obj.mk C.byteV (((C.bytesC 1).bytesC 1).bytesR ((C.bytesC 1).byteV)))])) (.agg #[vB 0,nS]) 2 32 bz cT (by simp) dw.ones (fun w' hv=>dw.upd8 hv (d9 (dM _ bz (by decide)) aN)) (by(try simp only[bT,aC]);omega) (le (le (le (le (le v.size y.size) t.size) B.size) H.size) P.size) fun bB bC e3 bD bE=>bo trivial fun bF=>Rt 14 bF<|Rt 15 bF<|?_
 have bG:=ut (aH.mono (S':=(ob A++[])) P aA) bE (ap il aA)
 have bH:=aH.blk bG (bA (aL (aq hm) (le (le (le (le (le (le (le (le (le (le (le b.size j.size) d.size) l.size) o.size) f.size) p.size) q.size) h.size) r.size) s.size) i.size) a) aF) a9
 refine R0 16 rfl<|ci bH 21 (mG c 0 0 0 0 0 0 0 0 0 0 0 nS nS nS nS me kd C0.byteV x25.byteV x44.byteV (.slice bB ((L++[(Obj.mk C.byteV (((C.bytesC 1).bytesC 1).bytesR ((C.bytesC 1).byteV)))]).length) bC)) fun e4 cU Q=>bo trivial fun e5=>re<|bn<|tn<|go<|bq ((k:Int)+1)<|Pl 1<|nl<|?_
 subst bv
 exact gI ((k+1),(((C.bytesC 1).bytesC 1).bytesC ((C.bytesC 1).byteV)),(L++[(Obj.mk C.byteV (((C.bytesC 1).bytesC 1).bytesR ((C.bytesC 1).byteV)))]),bB,bC) ⟨(ut v (ut (aH.mono (S':=(g :: (ob A++(gm :: [])))) ad (ac im aA)) (u1 (aH.mono (S':=(ob A++(gm :: []))) bE (ap il aA)) Q im) (ap il (ac im aA))) (ac im (ap (aT a lr) (ac im aA)))),(ak.upd bw (u1 (aH.mono (S':=(ob A++(gm :: []))) bG (ap il aA)) Q im) (bA (aL (ak.lt hC) (le (le (le (le (le (le (le (le (le (le (le b.size j.size) d.size) l.size) o.size) f.size) p.size) q.size) h.size) r.size) s.size) i.size) a) (aa hne aF)) (d9 (dM _ (av a O (fun x hx=>(aa (fun e=>(aL (ak.lt hC) (le (le (le (le (le (le (le (le (le (le (le b.size j.size) d.size) l.size) o.size) f.size) p.size) q.size) h.size) r.size) s.size) i.size) a) (e▸hx)) aF)) (dw.upd8 O (ax (ak.safe u _ (by decide)) aN))) (by decide)) (ax (b7 a9 (by decide)) aN))),cU,(av bD Q (fun x hx=>(aa (fun e=>(aL (aq hm) (le (le (le (le (le (le (le (le (le (le (le b.size j.size) d.size) l.size) o.size) f.size) p.size) q.size) h.size) r.size) s.size) i.size) bD) (e▸hx)) aF)) (dw.upd8 Q (ax (b7 bH (by decide)) aN))),(by(try dsimp only);omega),(by(try dsimp only);rw[← hobj,show x62.byteV.toNat-k=(x62.byteV.toNat-(k+1))+1 from by omega];rfl),(by(try dsimp only);(try simp only[bT]);omega)⟩ (by omega)
 refine  cY (m:=1) (e:=100) #[vB C.byteV,.slice br ((((C.bytesC 1).bytesC 1).bytesR ((C.bytesC 1).byteV)).length) bs] fun e6 e7 e8 cV S=>?_
 have cW:=lT (R:=dw true) (x:=(Obj.mk C.byteV (((C.bytesC 1).bytesC 1).bytesR ((C.bytesC 1).byteV)))) cV rfl ⟨_,rfl,(aZ.upd' bu S aN),b8 (by omega)⟩
 refine bo trivial fun e9=>?_
 have T:=u1 y (uz t (u1 B (aI H S) im)) im
 have bI:=be T (Ne.symm hne) D
 refine R0 4 rfl<|dD bI 21<|bo trivial fun ea=>?_
 have bJ:=av a T (fun x hx=>(aa (fun e=>(aL (ak.lt hC) (le (le (le (le (le (le (le (le (le (le (le b.size j.size) d.size) l.size) o.size) f.size) p.size) q.size) h.size) r.size) s.size) i.size) a) (e▸hx)) aF)) (dw.upd8 T (ax (ak.safe u _ (by decide)) aN))
 refine R0 13 rfl<|iY (xs:=L) (ys:=([(Obj.mk C.byteV (((C.bytesC 1).bytesC 1).bytesR ((C.bytesC 1).byteV)))])) (.agg #[vB 0,nS]) 2 32 bJ cW (by simp) dw.ones (fun w' hv=>dw.upd8 hv (d9 (dM _ bJ (by decide)) aN)) (by(try simp only[bT,aC]);omega) (le (le (le (le (le v.size y.size) t.size) B.size) H.size) S.size) fun bK bL eb bM bN=>bo trivial fun bO=>Rt 14 bO<|Rt 15 bO<|?_
 have bP:=aH.blk bN (bA (aL (aq hm) (le (le (le (le (le (le (le (le (le (le (le b.size j.size) d.size) l.size) o.size) f.size) p.size) q.size) h.size) r.size) s.size) i.size) a) aF) bI
 refine R0 16 rfl<|ci bP 21 (mG c 0 0 0 0 0 0 0 0 0 0 0 nS nS nS nS me kd C0.byteV x25.byteV x44.byteV (.slice bK ((L++[(Obj.mk C.byteV (((C.bytesC 1).bytesC 1).bytesR ((C.bytesC 1).byteV)))]).length) bL)) fun ec cX ae=>bo trivial fun ed=>re<|bn<|tn<|go<|bq ((k:Int)+1)<|Pl 1<|nl<|?_
 subst bv
 have bQ:=u1 (aH.mono (S':=(ob A++(gm :: []))) bN (ap il aA)) ae im
 have af:=u1 y (uz t (u1 B H im)) im
 exact gI ((k+1),(((C.bytesC 1).bytesC 1).bytesC ((C.bytesC 1).byteV)),(L++[(Obj.mk C.byteV (((C.bytesC 1).bytesC 1).bytesR ((C.bytesC 1).byteV)))]),bK,bL) ⟨(ut v (ut (aH.mono (S':=(g :: (ob A++(gm :: [])))) T (ac im aA)) bQ (ap il (ac im aA))) (ac im (ap (aT a lr) (ac im aA)))),(ak.upd bw (ut (aH.mono (S':=(ob A++(gm :: []))) S aA) bQ (ap il (ac im aA))) (bA (aL (ak.lt hC) (le (le (le (le (le (le (le (le (le (le (le b.size j.size) d.size) l.size) o.size) f.size) p.size) q.size) h.size) r.size) s.size) i.size) a) (aa hne aF)) (d9 (dM _ (av a af (fun x hx=>(aa (fun e=>(aL (ak.lt hC) (le (le (le (le (le (le (le (le (le (le (le b.size j.size) d.size) l.size) o.size) f.size) p.size) q.size) h.size) r.size) s.size) i.size) a) (e▸hx)) aF)) (dw.upd8 af (ax (ak.safe u _ (by decide)) aN))) (by decide)) (ax (b7 (be af (Ne.symm hne) D) (by decide)) aN))),cX,(av bM ae (fun x hx=>(aa (fun e=>(aL (aq hm) (le (le (le (le (le (le (le (le (le (le (le b.size j.size) d.size) l.size) o.size) f.size) p.size) q.size) h.size) r.size) s.size) i.size) bM) (e▸hx)) aF)) (dw.upd8 ae (ax (b7 bP (by decide)) aN))),(by(try dsimp only);omega),(by(try dsimp only);rw[← hobj,show x62.byteV.toNat-k=(x62.byteV.toNat-(k+1))+1 from by omega];rfl),(by(try dsimp only);(try simp only[bT]);omega)⟩ (by omega)
 have cm:=of_decide_eq_false Y
 refine xt<|tx<|tx<|bx<|rm (.tuple #[])<|?_
 subst ca c5 c0 bU
 have hf:er kd C0=(C,L):=by
   have h1:eH ((((((C0.bytesC 1).need (cn C0.byteV) 6).bytesC 1).need ((((C0.bytesC 1).need (cn C0.byteV) 6).byteV==0)||(((C0.bytesC 1).need (cn C0.byteV) 6).byteV==255)) 6).bytesC 1).need ((((C0.bytesC 1).need (cn C0.byteV) 6).byteV != 0)||(((((C0.bytesC 1).need (cn C0.byteV) 6).bytesC 1).need ((((C0.bytesC 1).need (cn C0.byteV) 6).byteV==0)||(((C0.bytesC 1).need (cn C0.byteV) 6).byteV==255)) 6).byteV==0)) 6).byteV.toNat ((((((((C0.bytesC 1).need (cn C0.byteV) 6).bytesC 1).need ((((C0.bytesC 1).need (cn C0.byteV) 6).byteV==0)||(((C0.bytesC 1).need (cn C0.byteV) 6).byteV==255)) 6).bytesC 1).need ((((C0.bytesC 1).need (cn C0.byteV) 6).byteV != 0)||(((((C0.bytesC 1).need (cn C0.byteV) 6).bytesC 1).need ((((C0.bytesC 1).need (cn C0.byteV) 6).byteV==0)||(((C0.bytesC 1).need (cn C0.byteV) 6).byteV==255)) 6).byteV==0)) 6).bytesC 1).need ((kd != 4)||(((((((C0.bytesC 1).need (cn C0.byteV) 6).bytesC 1).need ((((C0.bytesC 1).need (cn C0.byteV) 6).byteV==0)||(((C0.bytesC 1).need (cn C0.byteV) 6).byteV==255)) 6).bytesC 1).need ((((C0.bytesC 1).need (cn C0.byteV) 6).byteV != 0)||(((((C0.bytesC 1).need (cn C0.byteV) 6).bytesC 1).need ((((C0.bytesC 1).need (cn C0.byteV) 6).byteV==0)||(((C0.bytesC 1).need (cn C0.byteV) 6).byteV==255)) 6).byteV==0)) 6).byteV==1)) 5) []=(C,L):=by
     rw[← hobj,show((((((C0.bytesC 1).need (cn C0.byteV) 6).bytesC 1).need ((((C0.bytesC 1).need (cn C0.byteV) 6).byteV==0)||(((C0.bytesC 1).need (cn C0.byteV) 6).byteV==255)) 6).bytesC 1).need ((((C0.bytesC 1).need (cn C0.byteV) 6).byteV != 0)||(((((C0.bytesC 1).need (cn C0.byteV) 6).bytesC 1).need ((((C0.bytesC 1).need (cn C0.byteV) 6).byteV==0)||(((C0.bytesC 1).need (cn C0.byteV) 6).byteV==255)) 6).byteV==0)) 6).byteV.toNat-k=0 from by omega]
     rfl
   exact h1
 rw[hf]
 exact⟨rfl,u,⟨_,⟨D,rfl⟩,⟨_,_,_,_,_,rfl,aS.nil ..,aS.nil ..,aS.nil ..,aS.nil ..,(a).rd,⟨(b8 (x:=c) (by omega)),(b8 (x:=0) (by omega)),(cP (x:=0) (by omega)),(cP (x:=0) (by omega)),(cP (x:=0) (by omega)),(cP (x:=0) (by omega)),(cP (x:=0) (by omega)),(cP (x:=0) (by omega)),(cP (x:=0) (by omega)),(cP (x:=0) (by omega)),(cP (x:=0) (by omega)),(cP (x:=0) (by omega)),(b8 (x:=me) (by omega)),(b8 (x:=kd) (by omega)),(b8 (x:=C0.byteV) (by omega)),(b8 (x:=((C0.bytesC 1).need (cn C0.byteV) 6).byteV) (by omega)),(b8 (x:=((((C0.bytesC 1).need (cn C0.byteV) 6).bytesC 1).need ((((C0.bytesC 1).need (cn C0.byteV) 6).byteV==0)||(((C0.bytesC 1).need (cn C0.byteV) 6).byteV==255)) 6).byteV) (by omega))⟩⟩⟩,(ui b (ui am (ui an (ui f (ui aw (ui h (ui aK (ui i v))))))))⟩
end Go.Proofs.YtdkhbcefkfgbdaaGreat
