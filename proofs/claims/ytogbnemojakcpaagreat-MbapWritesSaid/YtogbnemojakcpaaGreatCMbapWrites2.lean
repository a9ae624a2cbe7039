/- Contracts of functions, part CMbapWrites2. -/
import Derived.Test.YtogbnemojakcpaaGreatCMbapWrites1
import Derived.Laws.BytesArg
import Derived.Stop.BytesEq
import Derived.Laws.BitsAllLaws
set_option linter.unusedVariables false
set_option linter.unusedSimpArgs false
set_option maxRecDepth 100000
set_option maxHeartbeats 4000000
namespace Go.Proofs.YtogbnemojakcpaaGreat
open Go.RowKit
theorem nF{ev:Operand→Value}{o:Oper}{x y:Operand}{t:TypeId}{a b:Int}{w:World}(ho:o.op = .binOp .neq 154 x y t)
    (hx:ev x = .agg #[.int .u8 a,.int .u8 b]) (hy:ev y = .agg #[.int .u8 0,.int .u8 0]) : (execOp ev o).run Tryz.prog w = .ok (.value (.bool ((a != 0)||(b != 0)))) w:=by
  unfold execOp
  rw[ho]
  simp only[hx,hy]
  cases a with
  | ofNat a =>
    cases a with
    | zero =>
      cases b with
      | ofNat b =>
        cases b with
        | zero=>kernel_rfl
        | succ b=>kernel_rfl
      | negSucc b=>kernel_rfl
    | succ a=>kernel_rfl
  | negSucc a=>kernel_rfl
def ge (a b:Int) : aQ:={ aQ.zero with code:=a,fail:=b }
def ff (a b:Int) : Bool:=(((a != 0)||(b != 0))&&dO a)&&cU b
theorem kX{a b:Int}{w:World}:Calls Tryz.prog 137 #[.agg #[.int .u8 a,.int .u8 b]] w (dM (.agg #[.int .u8 a,.int .u8 b,.int .u16 0,.int .u16 0,.int .u16 0,.int .u16 0,.int .u16 0,.int .u16 0,.int .u16 0,.int .u16 0,.int .u16 0,.int .u16 0,.slice none 0 0,.slice none 0 0,.slice none 0 0,.slice none 0 0,.int .u8 0,.int .u8 0,.int .u8 0,.int .u8 0,.int .u8 0,.slice none 0 0]) w):=by
 refine en 8 Tryz.func137 rfl<|sg<|L0<|dv #[.int .u8 a,.int .u8 b] fun k l m e f=>L0<|bO mZ fun n o g h c=>ng<|Pl 1<|?_
 have d:=ub c e
 refine L0<|aP d 0<|Pl 1<|L0<|aP d 1<|Pl 1<|L0<|be h (mG a b 0 0 0 0 0 0 0 0 0 0 nS nS nS nS 0 0 0 0 0 nS) fun p i j=>nt<|rt<|xi i<|?_
 exact⟨rfl,(aG f (ud c j g))⟩
theorem qU{a b:Int}{w:World}:Calls Tryz.prog 164 #[.agg #[.int .u8 a,.int .u8 b]] w (dM (.bool (ff a b)) w):=by
 refine en 16 Tryz.func164 rfl<|sg<|L0<|dv #[.int .u8 a,.int .u8 b] fun l m n d f=>Pl 1<|ng<|L0<|bS d<|Pl 1<|L0<|nC (.bool ((a != 0)||(b != 0))) (nF rfl (by kernel_rfl) (by kernel_rfl))<|Pl 1<|bl 6 (((a != 0)||(b != 0))) (fun c=>?_) (fun c=>?_)
 refine Pl 1<|L1<|aP d 0<|L1<|Oc<|m1 (kJ (x:=a) (w:=_)) fun o g=>Pl 2<|?_
 have h:=aG f g
 refine bl 11 ((dO a)) (fun e=>?_) (fun e=>?_)
 refine Pl 1<|?_
 refine L1<|aP (ub g d) 1<|L1<|Oc<|m1 (jF (x:=b) (w:=_)) fun p k=>Pl 2<|nt<|rt<|rr (.bool (cU b))<|?_
 have hs:ff a b=(cU b):=by
   unfold ff
   (try simp only[c,e,bs,if_true,if_false,decide_true,decide_false])
   done
 rw[hs]
 exact⟨rfl,(aG h k)⟩
 refine Pl 5<|nt<|rt<|rr (.bool false)<|?_
 have hs:ff a b=false:=by
   unfold ff
   (try simp only[c,e,bs,if_true,if_false,decide_true,decide_false])
   done
 rw[hs]
 exact⟨rfl,h⟩
 have i:=(aH c).1
 have j:=(aH c).2
 have q:=ai i
 have r:=ai j
 refine Pl 10<|nt<|rt<|rr (.bool false)<|?_
 have hs:ff a b=false:=by
   unfold ff
   (try simp only[c,i,j,bs,if_true,if_false,decide_true,decide_false])
   done
 rw[hs]
 exact⟨rfl,f⟩
def eg (b:List Int) : aQ × Int :=
  if (b.length:Int)==0 then (aQ.zero,2)
  else if decide (b.getD 0 0<128) then (aQ.zero,4)
  else if !(dO ((b.getD 0 0-128)%256)) then (aQ.zero,4)
  else if (b.length:Int)==1 then (aQ.zero,2)
  else if !(cU (b.getD 1 0)) then (aQ.zero,6)
  else if decide (2<(b.length:Int)) then (aQ.zero,3)
  else (ge ((b.getD 0 0-128)%256) (b.getD 1 0),0)
theorem pu{m:Md}{A:Option Addr}{cp:Nat}{b:List Int}{w:World}(hsl:bh m w (.slice A b.length cp) b)(hb:b.length≤1048576) :
    Calls Tryz.prog 90 #[.slice A b.length cp] w (eb (eg b) w):=by
 have hln:(b.length:Int)≤1048576:=by omega
 refine en 49 Tryz.func90 rfl<|sg<|L0<|bO mZ fun ai aj g h q=>Pl 1<|nt<|sq<|bk<|sg<|Pl 4<|nt<|?_
 refine cb ((((b.length:Nat) : Int)==0)) (fun c=>?_) (fun c=>?_)
 have Q:=ae c
 refine sg<|Pl 1<|L0<|be h mZ fun al R S=>Pl 1<|nt<|rt<|br<|tr<|bP R (.int .i64 2)<|?_
 have hs:eg b=(aQ.zero,2):=by
   unfold eg
   (try simp only[c,bs,if_true,if_false,decide_true,decide_false,Bool.not_eq_true,reduceIte])
   all_goals rfl
 rw[hs]
 exact cR (ud q S g)
 have Q:=ak c
 refine sg<|Pl 1<|?_
 have B:=bh.old hsl q
 refine gf (bh.at_ B 0 (by omega)) fun C D E F am=>L0<|lv b.length 0 E (by omega)<|L0<|ez (p:=⟨C,D+0,none⟩) (v:=.int .u8 (b.getD 0 0)) F<|Pl 2<|bl 14 ((decide ((b.getD 0 0)<128))) (fun d=>?_) (fun d=>?_)
 have T:=of_decide_eq_true d
 refine Pl 8<|nt<|c1<|sg<|Pl 1<|L0<|be h mZ fun an U V=>Pl 1<|nt<|rt<|br<|tr<|?_
 refine bP U (.int .i64 4)<|?_
 have hs:eg b=(aQ.zero,4):=by
   unfold eg
   (try simp only[c,d,bs,if_true,if_false,decide_true,decide_false,Bool.not_eq_true,reduceIte])
   all_goals rfl
 rw[hs]
 exact cR (ud q V g)
 have T:=of_decide_eq_false d
 refine Pl 1<|L1<|lv b.length 0 E (by omega)<|L1<|ez (p:=⟨C,D+0,none⟩) (v:=.int .u8 (b.getD 0 0)) F<|Pl 1<|L1<|Oc<|m1 (kJ (x:=(((b.getD 0 0)-128)%256)) (w:=_)) fun ao i=>Pl 3<|nt<|?_
 have t:=aG q i
 refine cb ((!(dO (((b.getD 0 0)-128)%256)))) (fun e=>?_) (fun e=>?_)
 have k:(dO (((b.getD 0 0)-128)%256))=false:=by simpa using e
 refine sg<|Pl 1<|?_
 refine L0<|be (ub i h) mZ fun ap W X=>Pl 1<|nt<|rt<|br<|tr<|bP W (.int .i64 4)<|?_
 have hs:eg b=(aQ.zero,4):=by
   unfold eg
   (try simp only[c,d,e,k,bs,if_true,if_false,decide_true,decide_false,Bool.not_eq_true,reduceIte])
   all_goals rfl
 rw[hs]
 exact cR (ud t X g)
 have k:(dO (((b.getD 0 0)-128)%256))=true:=by simpa using e
 refine sg<|Pl 4<|nt<|cb ((((b.length:Nat) : Int)==1)) (fun j=>?_) (fun j=>?_)
 have Y:=ae j
 refine sg<|Pl 1<|?_
 refine L0<|be (ub i h) mZ fun aq Z a0=>Pl 1<|nt<|rt<|br<|tr<|bP Z (.int .i64 2)<|?_
 have hs:eg b=(aQ.zero,2):=by
   unfold eg
   (try simp only[c,d,e,k,j,bs,if_true,if_false,decide_true,decide_false,Bool.not_eq_true,reduceIte])
   all_goals rfl
 rw[hs]
 exact cR (ud t a0 g)
 have Y:=ak j
 refine sg<|Pl 1<|?_
 have G:=bh.old B i
 refine gf (bh.at_ G 1 (by omega)) fun a1 a2 a3 a4 ar=>L0<|lv b.length 1 a3 (by omega)<|L0<|ez (p:=⟨a1,a2+1,none⟩) (v:=.int .u8 (b.getD 1 0)) a4<|L0<|Oc<|m1 (jF (x:=(b.getD 1 0)) (w:=_)) fun au n=>Pl 2<|nt<|?_
 have u:=aG t n
 refine cb ((!(cU (b.getD 1 0)))) (fun l=>?_) (fun l=>?_)
 have r:(cU (b.getD 1 0))=false:=by simpa using l
 refine sg<|Pl 1<|?_
 refine L0<|be (ub (aG i n) h) mZ fun av a5 a6=>Pl 1<|nt<|rt<|br<|tr<|bP a5 (.int .i64 6)<|?_
 have hs:eg b=(aQ.zero,6):=by
   unfold eg
   (try simp only[c,d,e,k,j,l,r,bs,if_true,if_false,decide_true,decide_false,Bool.not_eq_true,reduceIte])
   all_goals rfl
 rw[hs]
 exact cR (ud u a6 g)
 have r:(cU (b.getD 1 0))=true:=by simpa using l
 refine sg<|Pl 4<|nt<|cb ((decide (2<((b.length:Nat) : Int)))) (fun o=>?_) (fun o=>?_)
 have a7:=of_decide_eq_true o
 refine sg<|Pl 1<|?_
 refine L0<|be (ub (aG i n) h) mZ fun aw a8 a9=>Pl 1<|nt<|rt<|br<|tr<|bP a8 (.int .i64 3)<|?_
 have hs:eg b=(aQ.zero,3):=by
   unfold eg
   (try simp only[c,d,e,k,j,l,r,o,bs,if_true,if_false,decide_true,decide_false,Bool.not_eq_true,reduceIte])
   all_goals rfl
 rw[hs]
 exact cR (ud u a9 g)
 have a7:=of_decide_eq_false o
 refine sk<|bn<|tn<|sq<|?_
 have H:=bh.old G n
 refine gf (bh.at_ H 0 (by omega)) fun aa ab I J ax=>gf (bh.at_ H 1 (by omega)) fun ac ad K L ay=>Rg 11 (fun w'=>w'.cell? ⟨aa,ab+0,none⟩=some (.int .u8 (b.getD 0 0))∧w'.cell? ⟨ac,ad+1,none⟩=some (.int .u8 (b.getD 1 0))) fun az y=>bj ⟨(uc y J),(uc y L)⟩ fun f=>Rt 0 f<|mh 1 f b.length 0 0 rfl I (by omega)<|Rl 2 f (fun _ hs=>hs.1)<|Rt 3 f<|Rt 4 f<|mh 5 f b.length 1 1 rfl K (by omega)<|Rl 6 f (fun _ hs=>hs.2)<|Rt 7 f<|R0 8 rfl<|Oc<|m1 (kX (a:=(((b.getD 0 0)-128)%256)) (b:=(b.getD 1 0)) (w:=_)) fun aA af=>?_
 have s:=aG y af
 refine bj ⟨(uc s J),(uc s L)⟩ fun aB=>?_
 have M:=aG n s
 have N:=aG i M
 refine R0 9 rfl<|be (ub N h) (mG (((b.getD 0 0)-128)%256) (b.getD 1 0) 0 0 0 0 0 0 0 0 0 0 nS nS nS nS 0 0 0 0 0 nS) fun aC ag z=>?_
 have aE:=uz M z
 have aF:=uz N z
 have O:=ud u (uz s z) g
 have P:=bh.old hsl O
 refine bj ⟨(cB P I 0 (by omega)),(cB P K 1 (by omega))⟩ fun ah=>Rt 10 ah<|re<|tn<|rt<|bP ag (.int .i64 0)<|?_
 have hs:eg b=((aQ.mk (((b.getD 0 0)-128)%256) (b.getD 1 0) 0 0 0 0 0 0 0 0 0 0 [] [] [] [] 0 0 0 0 0 []),0):=by
   unfold eg
   (try simp only[c,d,e,k,j,l,r,o,bs,if_true,if_false,decide_true,decide_false,Bool.not_eq_true,reduceIte])
   all_goals rfl
 rw[hs]
 exact⟨_,rfl,⟨_,_,_,_,_,rfl,aS.nil ..,aS.nil ..,aS.nil ..,aS.nil ..,aS.nil ..,⟨(b8 (x:=(((b.getD 0 0)-128)%256)) (by omega)),(b8 (x:=(b.getD 1 0)) (by omega)),(aD (x:=0) (by omega)),(aD (x:=0) (by omega)),(aD (x:=0) (by omega)),(aD (x:=0) (by omega)),(aD (x:=0) (by omega)),(aD (x:=0) (by omega)),(aD (x:=0) (by omega)),(aD (x:=0) (by omega)),(aD (x:=0) (by omega)),(aD (x:=0) (by omega)),(b8 (x:=0) (by omega)),(b8 (x:=0) (by omega)),(b8 (x:=0) (by omega)),(b8 (x:=0) (by omega)),(b8 (x:=0) (by omega))⟩⟩,O⟩
theorem qO{m:Md}{v:Value}{b:List Int}{w:World}(h:bh m w v b)(hb:b.length≤1048576) : Calls Tryz.prog 90 #[v] w (eb (eg b) w):=by
  obtain⟨A,cp,rfl,_,_⟩:=h.shape
  exact pu h hb
open Go.RowKit
def bQ (dir:Int)(M:aQ) : List Int :=
  if M.code==5 then aE [M.addr,M.value]
  else if M.code==15&&dir==0 then ((aE [M.addr,M.count]++[((bR M.bits).length:Int)%256])++bR M.bits)
  else if dir==1&&M.code != 15 then [(M.data.length:Int)%256]++M.data
  else aE [M.addr,M.count]
theorem o3{m:Md}{cs:Array Value}{M:aQ}{w:World}{dir:Int}(h:aN m w cs.toList M)(hf:bM M)(hd0:(dir==0)=true) : Calls Tryz.prog 203 #[.int .i64 dir,.agg cs] w (fm (bQ dir M) w):=by
 obtain⟨vw,vb,vd,vr,vo,h0,hw,hbt,hd,hr,ho,hR⟩:=h
 obtain rfl:cs=(bu M vw vb vd vr vo).toArray:=by apply Array.toList_inj.1;simpa using h0
 clear h0
 obtain⟨Aw,kw,rfl,_,_⟩:=hw.shape
 obtain⟨Ab,kb,rfl,_,_⟩:=hbt.shape
 obtain⟨Ad,kd,rfl,_,_⟩:=hd.shape
 obtain⟨Ar,kr,rfl,_,_⟩:=hr.shape
 obtain⟨Ao,ko,rfl,_,_⟩:=ho.shape
 obtain⟨q0,q1,q2,q3,q4,q5,q6,q7,q8,q9,H,I,J,L,N,O,P⟩:=hR
 simp only[B8,dB] at q0 q1 q2 q3 q4 q5 q6 q7 q8 q9 H I J L N O P
 have hf1:=hf.words
 have hf2:=hf.bits
 have hf3:=hf.data
 have hf4:=hf.recs
 have hf5:=hf.objects
 refine en 62 Tryz.func203 rfl<|sg<|L0<|dv (mG M.code M.fail M.addr M.count M.value M.and_ M.or_ M.addr2 M.sub M.status M.events M.messages (.slice Aw M.words.length kw) (.slice Ab M.bits.length kb) (.slice Ad M.data.length kd) (.slice Ar M.recs.length kr) M.mei M.kind M.level M.more M.next (.slice Ao M.objects.length ko)) fun aC aD aH a b=>Pl 1<|nt<|sq<|bk<|sg<|Pl 1<|L0<|aP a 0<|Pl 2<|nl<|?_
 refine tn<|cb ((M.code==5)) (fun c=>?_) (fun c=>?_)
 have Q:=ae c
 refine sg<|Pl 1<|L0<|aP a 2<|Pl 1<|L0<|aP a 4<|L0<|cK (m:=2) (e:=24) #[.int .u16 M.addr,.int .u16 M.value] fun aI aK R S q=>?_
 have T:=dc R (xs:=[M.addr,M.value]) (by as_aux_lemma=>kernel_rfl) (am (by omega) (am (by omega) aJ)) (by(try simp only[List.length_cons,List.length_nil]);omega) S
 refine L0<|Oc<|di (bF (xs:=[M.addr,M.value]) (T).rd (by(try simp only[List.length_cons,List.length_nil]);omega)) fun U V aL W aO aR X=>Pl 1<|nt<|rt<|br<|tr<|rr (.slice U ((aE ([M.addr,M.value])).length) V)<|?_
 have hs:bQ dir M=(aE ([M.addr,M.value])):=by
   unfold bQ
   (try simp only[hd0,c,bs,if_true,if_false,decide_true,decide_false,reduceIte])
   all_goals rfl
 rw[hs]
 exact⟨_,rfl,(aW.weaken W (le b.size q.size)),(aG b (aG q X))⟩
 have Q:=ak c
 refine sg<|Pl 1<|L0<|aP a 0<|Pl 2<|cu 3 [20] 23 (((M.code==15)&&(dir==0))) (fun K r=>?_) ?_
 refine bl 20 ((M.code==15)) (fun g=>?_) (fun g=>?_)
 have Y:=ae g
 exact Pl 3<|ce r (dir==0) (by rw[g];rfl)
 have Y:=ak g
 exact Pl 3<|ce r false (by rw[g];rfl)
 refine Pl 1<|nt<|cb (((M.code==15)&&(dir==0))) (fun d=>?_) (fun d=>?_)
 have f:=(aZ d).1
 have s:=(aZ d).2
 have Z:=ae f
 have aS:=ae s
 refine sg<|Pl 1<|L0<|aP a 13<|?_
 refine L0<|Oc<|di (tH (l:=M.bits) (hZ.old hbt b) (by omega)) fun aT aU aX a0 aY b0 k=>?_
 have b1:=to M.bits
 refine Pl 1<|ng<|Pl 1<|?_
 have t:=ub k a
 refine L0<|aP t 2<|Pl 1<|L0<|aP t 3<|L0<|cK (m:=2) (e:=24) #[.int .u16 M.addr,.int .u16 M.count] fun b2 b3 a1 a2 n=>?_
 have a3:=dc a1 (xs:=[M.addr,M.count]) (by as_aux_lemma=>kernel_rfl) (am (by omega) (am (by omega) aJ)) (by(try simp only[List.length_cons,List.length_nil]);omega) a2
 refine L0<|Oc<|di (bF (xs:=[M.addr,M.count]) (a3).rd (by(try simp only[List.length_cons,List.length_nil]);omega)) fun a4 b4 b5 u b6 b7 v=>Pl 3<|L0<|cK (m:=1) (e:=5) #[.int .u8 ((((bR M.bits).length:Nat) : Int)%256)] fun b8 b9 a5 a6 o=>?_
 have a7:=cN a5 (xs:=[((((bR M.bits).length:Nat) : Int)%256)]) (by as_aux_lemma=>kernel_rfl) (am (by omega) aJ) (by(try simp only[List.length_cons,List.length_nil]);omega) a6
 refine L0<|bE aV (xs:=(aE ([M.addr,M.count]))) (ys:=([((((bR M.bits).length:Nat) : Int)%256)])) (.int .u8 0) 1 (aq u o (fun x hx=>aA) (fun _ _ h=>h)) (a7).rd (by(try simp only[List.length_append,List.length_cons,List.length_nil,ay]);omega) (le v.size o.size) fun ba bb bc y a8=>Pl 1<|?_
 have z:=ut v (ut (aF.mono (S':=(ob a4++[])) o av) a8 (al il av)) (al (aM u lr) av)
 have A:=aG n z
 refine L0<|bE aV (xs:=((aE ([M.addr,M.count]))++[((((bR M.bits).length:Nat) : Int)%256)])) (ys:=(bR M.bits)) (.int .u8 0) 1 y ((aq a0 A (fun x hx=>aA) (fun _ _ h=>h))).rd (by(try simp only[List.length_append,List.length_cons,List.length_nil,ay]);omega) z.size fun a9 aa bd ab ac=>Pl 1<|nt<|rt<|br<|tr<|rr (.slice a9 ((((aE ([M.addr,M.count]))++[((((bR M.bits).length:Nat) : Int)%256)])++(bR M.bits)).length) aa)<|?_
 have hs:bQ dir M=(((aE ([M.addr,M.count]))++[((((bR M.bits).length:Nat) : Int)%256)])++(bR M.bits)):=by
   unfold bQ
   (try simp only[s,c,d,f,bs,if_true,if_false,decide_true,decide_false,reduceIte])
   all_goals rfl
 rw[hs]
 exact⟨_,rfl,(aW.weaken ab (le (le b.size k.size) n.size)),(aG b (aG k (ut A ac (al (aM y n.size) av))))⟩
 have f:(M.code==15)=false:=by simpa only[hd0,bs] using d
 have Z:=ak f
 refine sg<|Pl 3<|cu 4 [43] 47 (((dir==1)&&(M.code != 15))) (fun K B=>?_) ?_
 refine bl 43 ((dir==1)) (fun i=>?_) (fun i=>?_)
 have ad:=ae i
 exact Pl 1<|L1<|aP a 0<|Pl 2<|ce B (M.code != 15) (by rw[i];rfl)
 have ad:=ak i
 exact Pl 4<|ce B false (by rw[i];rfl)
 refine Pl 1<|nt<|cb (((dir==1)&&(M.code != 15))) (fun j=>?_) (fun j=>?_)
 have C:=(aZ j).1
 have D:=(aZ j).2
 have be:=ae C
 have bf:=az D
 refine sg<|Pl 1<|L0<|aP a 14<|Pl 2<|L0<|cK (m:=1) (e:=5) #[.int .u8 (((M.data.length:Nat) : Int)%256)] fun bg bi af ag p=>?_
 have E:=cN af (xs:=[(((M.data.length:Nat) : Int)%256)]) (by as_aux_lemma=>kernel_rfl) (am (by omega) aJ) (by(try simp only[List.length_cons,List.length_nil]);omega) ag
 refine Pl 1<|?_
 refine L0<|aP (ub p a) 14<|?_
 have F:=aG b p
 refine L0<|bE aV (xs:=([(((M.data.length:Nat) : Int)%256)])) (ys:=M.data) (.int .u8 0) 1 E (bh.old hd F) (by(try simp only[List.length_append,List.length_cons,List.length_nil,ay]);omega) p.size fun ah ai bj aj an=>Pl 1<|nt<|rt<|br<|tr<|rr (.slice ah (([(((M.data.length:Nat) : Int)%256)]++M.data).length) ai)<|?_
 have hs:bQ dir M=([(((M.data.length:Nat) : Int)%256)]++M.data):=by
   unfold bQ
   (try simp only[hd0,c,d,f,j,C,D,bs,if_true,if_false,decide_true,decide_false,reduceIte])
   all_goals rfl
 rw[hs]
 exact⟨_,rfl,(aW.weaken aj b.size),(ut F an (al (aM E b.size) av))⟩
 refine sk<|bn<|tn<|sg<|Pl 1<|L0<|aP a 2<|Pl 1<|L0<|aP a 3<|L0<|cK (m:=2) (e:=24) #[.int .u16 M.addr,.int .u16 M.count] fun bm bo ao ap G=>?_
 have ar:=dc ao (xs:=[M.addr,M.count]) (by as_aux_lemma=>kernel_rfl) (am (by omega) (am (by omega) aJ)) (by(try simp only[List.length_cons,List.length_nil]);omega) ap
 refine L0<|Oc<|di (bF (xs:=[M.addr,M.count]) (ar).rd (by(try simp only[List.length_cons,List.length_nil]);omega)) fun au aw bp ax bq bt aB=>Pl 1<|nt<|rt<|rr (.slice au ((aE ([M.addr,M.count])).length) aw)<|?_
 have hs:bQ dir M=(aE ([M.addr,M.count])):=by
   unfold bQ
   (try simp only[hd0,c,d,f,j,bs,if_true,if_false,decide_true,decide_false,reduceIte])
   all_goals rfl
 rw[hs]
 exact⟨_,rfl,(aW.weaken ax (le b.size G.size)),(aG b (aG G aB))⟩
theorem nL{m:Md}{cs:Array Value}{M:aQ}{w:World}{dir:Int}(h:aN m w cs.toList M)(hf:bM M)(hd0:(dir==0)=false) : Calls Tryz.prog 203 #[.int .i64 dir,.agg cs] w (fm (bQ dir M) w):=by
 obtain⟨vw,vb,vd,vr,vo,h0,hw,hbt,hd,hr,ho,hR⟩:=h
 obtain rfl:cs=(bu M vw vb vd vr vo).toArray:=by apply Array.toList_inj.1;simpa using h0
 clear h0
 obtain⟨Aw,kw,rfl,_,_⟩:=hw.shape
 obtain⟨Ab,kb,rfl,_,_⟩:=hbt.shape
 obtain⟨Ad,kd,rfl,_,_⟩:=hd.shape
 obtain⟨Ar,kr,rfl,_,_⟩:=hr.shape
 obtain⟨Ao,ko,rfl,_,_⟩:=ho.shape
 obtain⟨q0,q1,q2,q3,q4,q5,q6,q7,q8,q9,t,u,v,x,y,z,A⟩:=hR
 simp only[B8,dB] at q0 q1 q2 q3 q4 q5 q6 q7 q8 q9 t u v x y z A
 have hf1:=hf.words
 have hf2:=hf.bits
 have hf3:=hf.data
 have hf4:=hf.recs
 have hf5:=hf.objects
 refine en 62 Tryz.func203 rfl<|sg<|L0<|dv (mG M.code M.fail M.addr M.count M.value M.and_ M.or_ M.addr2 M.sub M.status M.events M.messages (.slice Aw M.words.length kw) (.slice Ab M.bits.length kb) (.slice Ad M.data.length kd) (.slice Ar M.recs.length kr) M.mei M.kind M.level M.more M.next (.slice Ao M.objects.length ko)) fun a0 a1 a2 a b=>Pl 1<|nt<|sq<|bk<|sg<|Pl 1<|L0<|aP a 0<|Pl 2<|nl<|?_
 refine tn<|cb ((M.code==5)) (fun c=>?_) (fun c=>?_)
 have B:=ae c
 refine sg<|Pl 1<|L0<|aP a 2<|Pl 1<|L0<|aP a 4<|L0<|cK (m:=2) (e:=24) #[.int .u16 M.addr,.int .u16 M.value] fun a3 a4 C D k=>?_
 have E:=dc C (xs:=[M.addr,M.value]) (by as_aux_lemma=>kernel_rfl) (am (by omega) (am (by omega) aJ)) (by(try simp only[List.length_cons,List.length_nil]);omega) D
 refine L0<|Oc<|di (bF (xs:=[M.addr,M.value]) (E).rd (by(try simp only[List.length_cons,List.length_nil]);omega)) fun F G a5 H a6 a7 I=>Pl 1<|nt<|rt<|br<|tr<|rr (.slice F ((aE ([M.addr,M.value])).length) G)<|?_
 have hs:bQ dir M=(aE ([M.addr,M.value])):=by
   unfold bQ
   (try simp only[hd0,c,bs,if_true,if_false,decide_true,decide_false,reduceIte])
   all_goals rfl
 rw[hs]
 exact⟨_,rfl,(aW.weaken H (le b.size k.size)),(aG b (aG k I))⟩
 have B:=ak c
 refine sg<|Pl 1<|L0<|aP a 0<|Pl 2<|cu 3 [20] 23 (((M.code==15)&&(dir==0))) (fun K l=>?_) ?_
 refine bl 20 ((M.code==15)) (fun d=>?_) (fun d=>?_)
 have J:=ae d
 exact Pl 3<|ce l (dir==0) (by rw[d];rfl)
 have J:=ak d
 exact Pl 3<|ce l false (by rw[d];rfl)
 refine Pl 1<|nt<|?_
 have i:((M.code==15)&&(dir==0))=false:=by simp only[hd0,bs]
 refine cf i<|sg<|Pl 3<|cu 4 [43] 47 (((dir==1)&&(M.code != 15))) (fun K n=>?_) ?_
 refine bl 43 ((dir==1)) (fun f=>?_) (fun f=>?_)
 have L:=ae f
 exact Pl 1<|L1<|aP a 0<|Pl 2<|ce n (M.code != 15) (by rw[f];rfl)
 have L:=ak f
 exact Pl 4<|ce n false (by rw[f];rfl)
 refine Pl 1<|nt<|cb (((dir==1)&&(M.code != 15))) (fun g=>?_) (fun g=>?_)
 have o:=(aZ g).1
 have p:=(aZ g).2
 have a8:=ae o
 have a9:=az p
 refine sg<|Pl 1<|L0<|aP a 14<|Pl 2<|L0<|cK (m:=1) (e:=5) #[.int .u8 (((M.data.length:Nat) : Int)%256)] fun aa ab N O j=>?_
 have q:=cN N (xs:=[(((M.data.length:Nat) : Int)%256)]) (by as_aux_lemma=>kernel_rfl) (am (by omega) aJ) (by(try simp only[List.length_cons,List.length_nil]);omega) O
 refine Pl 1<|?_
 refine L0<|aP (ub j a) 14<|?_
 have r:=aG b j
 refine L0<|bE aV (xs:=([(((M.data.length:Nat) : Int)%256)])) (ys:=M.data) (.int .u8 0) 1 q (bh.old hd r) (by(try simp only[List.length_append,List.length_cons,List.length_nil,ay]);omega) j.size fun P Q ac R S=>Pl 1<|nt<|rt<|br<|tr<|rr (.slice P (([(((M.data.length:Nat) : Int)%256)]++M.data).length) Q)<|?_
 have hs:bQ dir M=([(((M.data.length:Nat) : Int)%256)]++M.data):=by
   unfold bQ
   (try simp only[hd0,c,i,g,o,p,bs,if_true,if_false,decide_true,decide_false,reduceIte])
   all_goals rfl
 rw[hs]
 exact⟨_,rfl,(aW.weaken R b.size),(ut r S (al (aM q b.size) av))⟩
 refine sk<|bn<|tn<|sg<|Pl 1<|L0<|aP a 2<|Pl 1<|L0<|aP a 3<|L0<|cK (m:=2) (e:=24) #[.int .u16 M.addr,.int .u16 M.count] fun ad af T U s=>?_
 have V:=dc T (xs:=[M.addr,M.count]) (by as_aux_lemma=>kernel_rfl) (am (by omega) (am (by omega) aJ)) (by(try simp only[List.length_cons,List.length_nil]);omega) U
 refine L0<|Oc<|di (bF (xs:=[M.addr,M.count]) (V).rd (by(try simp only[List.length_cons,List.length_nil]);omega)) fun W X ag Y ah ai Z=>Pl 1<|nt<|rt<|rr (.slice W ((aE ([M.addr,M.count])).length) X)<|?_
 have hs:bQ dir M=(aE ([M.addr,M.count])):=by
   unfold bQ
   (try simp only[hd0,c,i,g,bs,if_true,if_false,decide_true,decide_false,reduceIte])
   all_goals rfl
 rw[hs]
 exact⟨_,rfl,(aW.weaken Y (le b.size s.size)),(aG b (aG s Z))⟩
theorem rB{m:Md}{cs:Array Value}{M:aQ}{w:World}{dir:Int}(h:aN m w cs.toList M)(hf:bM M) : Calls Tryz.prog 203 #[.int .i64 dir,.agg cs] w (fm (bQ dir M) w):=by
  rcases dU (dir==0) with h0|h0
  · exact o3 h hf h0
  · exact nL h hf h0
open Go.RowKit
def dS (x:Bool)(w:World)(e:Ending)(w':World) : Prop:=e = .returned (.bool x)∧aF [] w w'
theorem mH{α:Type} [DecidableEq α]{xs ys:List α}{d:α}(h:xs.length=ys.length){k:Nat}(hk:k<xs.length)(hp:xs.take k=ys.take k)(hx:xs.getD k d=ys.getD k d) : xs.take (k+1)=ys.take (k+1):=by
  rw[List.take_add_one,List.take_add_one,hp]
  simp only[List.getD_eq_getElem?_getD,List.getElem?_eq_getElem hk,List.getElem?_eq_getElem (h▸hk),Option.getD_some] at hx
  simp[List.getElem?_eq_getElem hk,List.getElem?_eq_getElem (h▸hk),hx]
theorem rT{α:Type} [DecidableEq α]{xs ys:List α}{d:α}(k:Nat)(hx:xs.getD k d≠ys.getD k d) : xs≠ys:=fun h=>hx (by rw[h])
theorem qx{m m':Md}{u v:Value}{xs ys:List Int}{w:World}(hx:dP m w u xs)(hy:dP m' w v ys) : Calls Tryz.prog 220 #[u,v] w (dS (decide (xs=ys)) w):=by
  have hhx:=hx
  have hhy:=hy
  obtain⟨A,c,rfl,hc1,hc2⟩:=hx.shape
  obtain⟨B,c',rfl,eu,iw⟩:=hy.shape
  have hn:xs.length≤9223372036854775807:=by have:=hc2;unfold maxLen at this;omega
  by_cases hl:xs.length=ys.length
  case neg =>
    have hno:∀ W,aF [] w W→dS (decide (xs=ys)) w (.returned (.bool false)) W:=by
      intro W hW
      rw[decide_eq_false (fun h=>hl (by rw[h]))]
      exact⟨rfl,hW⟩
    have hli:((xs.length:Int)!=(ys.length:Int))=true:=by simp;omega
    clear hx hy hhx hhy hl
    go_enter Tryz.func220,Tryz.ntmps220
    go_wp2
    go_ret
    exact hno _ (aF.refl _ _)
  have hno:∀ W k,xs.getD k 0≠ys.getD k 0→aF [] w W→dS (decide (xs=ys)) w (.returned (.bool false)) W:=by
    intro W k hk hW
    rw[decide_eq_false (rT k hk)]
    exact⟨rfl,hW⟩
  have hyes:∀ W,xs.take xs.length=ys.take xs.length→aF [] w W→dS (decide (xs=ys)) w (.returned (.bool true)) W:=by
    intro W hk hW
    rw[List.take_length,hl,List.take_length] at hk
    rw[decide_eq_true hk]
    exact⟨rfl,hW⟩
  revert hno hyes
  generalize dS (decide (xs=ys)) w=P
  intro hno hyes
  have hli:((xs.length:Int)!=(ys.length:Int))=false:=by simp;omega
  have hL:=Lib.hid hl
  clear hx hy hl
  go_enter Tryz.func220,Tryz.ntmps220
  go_wp2
  go_loopw [13] (fun i wr=>∃ k:Nat,k≤xs.length∧i = .int .i64 (k:Int)∧xs.take k=ys.take k∧aF [] w wr) (fun i _=>xs.length-(intOf i).toNat)
  case atStart=>exact⟨0,by omega,rfl,by simp,aF.refl _ _⟩
  case round =>
    obtain⟨k,hk,rfl,hpre,hu⟩:=hrel
    by_cases hlt:k<xs.length
    · obtain⟨b,off,rfl,cw0,hr0⟩:=dP.at_ hhx k hlt
      obtain⟨b',off',rfl,cw1,hr1⟩:=dP.at_ hhy k (by have:=hL.out;omega)
      have hlt':k<ys.length:=by have:=hL.out;omega
      have hstep:=fun h=>mH (d:=0) hL.out hlt hpre h
      have hno':=fun W h=>hno W k h
      revert cw0 cw1 hstep hno' hr0 hr1
      generalize xs.getD k 0=x0
      generalize ys.getD k 0=y0
      intro cw0 hr0 cw1 hr1 hstep hno'
      have hc0:=hu.cell (by simp) cw0
      have hc1:=hu.cell (by simp) cw1
      have hstep:=Lib.hid hstep
      have hno':=Lib.hid hno'
      clear cw0 cw1 hhx hhy hpre hno hyes
      have hc0:wr.drew.cell? ⟨b,off+k,none⟩=some (.int .u16 x0):=hc0
      have hc1:wr.drew.cell? ⟨b',off'+k,none⟩=some (.int .u16 y0):=hc1
      go_wp2
      refine oP (S:=fun w'=>w'.cell? ⟨b,off+k,none⟩=some (.int .u16 x0)∧w'.cell? ⟨b',off'+k,none⟩=some (.int .u16 y0)) (n:=9) #[false,false,false,false,false,false,false,false,false] (by kernel_rfl) rfl rfl ⟨hc0,hc1⟩ (fun hHeld=>?_)
      refine dD (i:=0) (N:=some 16) (v:=?_) (a':=?_) #[true,false,false,false,false,false,false,false,false] rfl rfl (by kernel_rfl) (fun _ _ _ h=>h) (Or.inl ⟨by rfl,?_⟩) hHeld ?_ ?_
      rotate_left
      · rintro w' ⟨hs0,hs1⟩
        go_simp
        with_reducible rfl
      rotate_left
      · simp only[Act.put,List.setIfInBounds_toArray,List.set_cons_zero,List.set_cons_succ]
        rfl
      refine dD (i:=1) (N:=some 17) (v:=?_) (a':=?_) #[true,true,false,false,false,false,false,false,false] rfl rfl (by kernel_rfl) (fun _ _ _ h=>h) (Or.inl ⟨by rfl,?_⟩) hHeld ?_ ?_
      rotate_left
      · rintro w' ⟨hs0,hs1⟩
        go_simp
        with_reducible rfl
      rotate_left
      · simp only[Act.put,List.setIfInBounds_toArray,List.set_cons_zero,List.set_cons_succ]
        rfl
      refine dD (i:=2) (N:=some 18) (v:=?_) (a':=?_) #[true,true,true,false,false,false,false,false,false] rfl rfl (by kernel_rfl) (fun _ _ _ h=>h) (Or.inl ⟨by rfl,?_⟩) hHeld ?_ ?_
      rotate_left
      · rintro w' ⟨hs0,hs1⟩
        go_simp
        with_reducible rfl
      rotate_left
      · simp only[Act.put,List.setIfInBounds_toArray,List.set_cons_zero,List.set_cons_succ]
        rfl
      refine dD (i:=3) (N:=some 19) (v:=?_) (a':=?_) #[true,true,true,true,false,false,false,false,false] rfl rfl (by kernel_rfl) (fun _ _ _ h=>h) (Or.inl ⟨by rfl,?_⟩) hHeld ?_ ?_
      rotate_left
      · rintro w' ⟨hs0,hs1⟩
        go_simp
        with_reducible rfl
      rotate_left
      · simp only[Act.put,List.setIfInBounds_toArray,List.set_cons_zero,List.set_cons_succ]
        rfl
      refine dD (i:=4) (N:=some 20) (v:=?_) (a':=?_) #[true,true,true,true,true,false,false,false,false] rfl rfl (by kernel_rfl) (fun _ _ _ h=>h) (Or.inl ⟨by rfl,?_⟩) hHeld ?_ ?_
      rotate_left
      · rintro w' ⟨hs0,hs1⟩
        go_simp
        with_reducible rfl
      rotate_left
      · simp only[Act.put,List.setIfInBounds_toArray,List.set_cons_zero,List.set_cons_succ]
        rfl
      refine dD (i:=5) (N:=some 21) (v:=?_) (a':=?_) #[true,true,true,true,true,true,false,false,false] rfl rfl (by kernel_rfl) (fun _ _ _ h=>h) (Or.inl ⟨by rfl,?_⟩) hHeld ?_ ?_
      rotate_left
      · rintro w' ⟨hs0,hs1⟩
        go_simp
        with_reducible rfl
      rotate_left
      · simp only[Act.put,List.setIfInBounds_toArray,List.set_cons_zero,List.set_cons_succ]
        rfl
      refine dD (i:=6) (N:=some 22) (v:=?_) (a':=?_) #[true,true,true,true,true,true,true,false,false] rfl rfl (by kernel_rfl) (fun _ _ _ h=>h) (Or.inl ⟨by rfl,?_⟩) hHeld ?_ ?_
      rotate_left
      · rintro w' ⟨hs0,hs1⟩
        go_simp
        with_reducible rfl
      rotate_left
      · simp only[Act.put,List.setIfInBounds_toArray,List.set_cons_zero,List.set_cons_succ]
        rfl
      refine dD (i:=7) (N:=some 23) (v:=?_) (a':=?_) #[true,true,true,true,true,true,true,true,false] rfl rfl (by kernel_rfl) (fun _ _ _ h=>h) (Or.inl ⟨by rfl,?_⟩) hHeld ?_ ?_
      rotate_left
      · rintro w' ⟨hs0,hs1⟩
        go_simp
        with_reducible rfl
      rotate_left
      · simp only[Act.put,List.setIfInBounds_toArray,List.set_cons_zero,List.set_cons_succ]
        rfl
      refine dD (i:=8) (N:=some 24) (v:=?_) (a':=?_) #[true,true,true,true,true,true,true,true,true] rfl rfl (by kernel_rfl) (fun _ _ _ h=>h) (Or.inl ⟨by rfl,?_⟩) hHeld ?_ ?_
      rotate_left
      · rintro w' ⟨hs0,hs1⟩
        go_simp
        with_reducible rfl
      rotate_left
      · simp only[Act.put,List.setIfInBounds_toArray,List.set_cons_zero,List.set_cons_succ]
        rfl
      refine qg (by kernel_rfl) ?_
      clear hc0 hc1 hHeld
      go_wp2
      · exact hno'.out _ (by simpa using (show(x0 != y0)=true by assumption)) (hu.drew)
      · go_roundw
        case rel=>exact⟨k+1,by omega,by go_num,hstep.out (by simpa using (show(x0 != y0)=false by assumption)),hu.drew⟩
        case measure=>simp[intOf];omega
    · have hj3:k=xs.length:=by omega
      have H3:=Lib.hid hj3
      rw[hj3] at hpre
      clear hj3 hhx hhy
      go_wp2
      exact hyes _ hpre hu
theorem uy{m m':Md}{u v:Value}{xs ys:List Bool}{w:World}(hx:hZ m w u xs)(hy:hZ m' w v ys) : Calls Tryz.prog 221 #[u,v] w (dS (decide (xs=ys)) w):=by
  have hhx:=hx
  have hhy:=hy
  obtain⟨A,c,rfl,hc1,hc2⟩:=hx.shape
  obtain⟨B,c',rfl,eu,iw⟩:=hy.shape
  have hn:xs.length≤9223372036854775807:=by have:=hc2;unfold maxLen at this;omega
  by_cases hl:xs.length=ys.length
  case neg =>
    have hno:∀ W,aF [] w W→dS (decide (xs=ys)) w (.returned (.bool false)) W:=by
      intro W hW
      rw[decide_eq_false (fun h=>hl (by rw[h]))]
      exact⟨rfl,hW⟩
    have hli:((xs.length:Int)!=(ys.length:Int))=true:=by simp;omega
    clear hx hy hhx hhy hl
    go_enter Tryz.func221,Tryz.ntmps221
    go_wp2
    go_ret
    exact hno _ (aF.refl _ _)
  have hno:∀ W k,xs.getD k false≠ys.getD k false→aF [] w W→dS (decide (xs=ys)) w (.returned (.bool false)) W:=by
    intro W k hk hW
    rw[decide_eq_false (rT k hk)]
    exact⟨rfl,hW⟩
  have hyes:∀ W,xs.take xs.length=ys.take xs.length→aF [] w W→dS (decide (xs=ys)) w (.returned (.bool true)) W:=by
    intro W hk hW
    rw[List.take_length,hl,List.take_length] at hk
    rw[decide_eq_true hk]
    exact⟨rfl,hW⟩
  revert hno hyes
  generalize dS (decide (xs=ys)) w=P
  intro hno hyes
  have hli:((xs.length:Int)!=(ys.length:Int))=false:=by simp;omega
  have hL:=Lib.hid hl
  clear hx hy hl
  go_enter Tryz.func221,Tryz.ntmps221
  go_wp2
  go_loopw [13] (fun i wr=>∃ k:Nat,k≤xs.length∧i = .int .i64 (k:Int)∧xs.take k=ys.take k∧aF [] w wr) (fun i _=>xs.length-(intOf i).toNat)
  case atStart=>exact⟨0,by omega,rfl,by simp,aF.refl _ _⟩
  case round =>
    obtain⟨k,hk,rfl,hpre,hu⟩:=hrel
    by_cases hlt:k<xs.length
    · obtain⟨b,off,rfl,cw0⟩:=hZ.at_ hhx k hlt
      obtain⟨b',off',rfl,cw1⟩:=hZ.at_ hhy k (by have:=hL.out;omega)
      have hlt':k<ys.length:=by have:=hL.out;omega
      have hstep:=fun h=>mH (d:=false) hL.out hlt hpre h
      have hno':=fun W h=>hno W k h
      revert cw0 cw1 hstep hno'
      generalize xs.getD k false=x0
      generalize ys.getD k false=y0
      intro cw0 cw1 hstep hno'
      have hc0:=hu.cell (by simp) cw0
      have hc1:=hu.cell (by simp) cw1
      have hstep:=Lib.hid hstep
      have hno':=Lib.hid hno'
      clear cw0 cw1 hhx hhy hpre hno hyes
      have hc0:wr.drew.cell? ⟨b,off+k,none⟩=some (.bool x0):=hc0
      have hc1:wr.drew.cell? ⟨b',off'+k,none⟩=some (.bool y0):=hc1
      go_wp2
      refine oP (S:=fun w'=>w'.cell? ⟨b,off+k,none⟩=some (.bool x0)∧w'.cell? ⟨b',off'+k,none⟩=some (.bool y0)) (n:=9) #[false,false,false,false,false,false,false,false,false] (by kernel_rfl) rfl rfl ⟨hc0,hc1⟩ (fun hHeld=>?_)
      refine dD (i:=0) (N:=some 16) (v:=?_) (a':=?_) #[true,false,false,false,false,false,false,false,false] rfl rfl (by kernel_rfl) (fun _ _ _ h=>h) (Or.inl ⟨by rfl,?_⟩) hHeld ?_ ?_
      rotate_left
      · rintro w' ⟨hs0,hs1⟩
        go_simp
        with_reducible rfl
      rotate_left
      · simp only[Act.put,List.setIfInBounds_toArray,List.set_cons_zero,List.set_cons_succ]
        rfl
      refine dD (i:=1) (N:=some 17) (v:=?_) (a':=?_) #[true,true,false,false,false,false,false,false,false] rfl rfl (by kernel_rfl) (fun _ _ _ h=>h) (Or.inl ⟨by rfl,?_⟩) hHeld ?_ ?_
      rotate_left
      · rintro w' ⟨hs0,hs1⟩
        go_simp
        with_reducible rfl
      rotate_left
      · simp only[Act.put,List.setIfInBounds_toArray,List.set_cons_zero,List.set_cons_succ]
        rfl
      refine dD (i:=2) (N:=some 18) (v:=?_) (a':=?_) #[true,true,true,false,false,false,false,false,false] rfl rfl (by kernel_rfl) (fun _ _ _ h=>h) (Or.inl ⟨by rfl,?_⟩) hHeld ?_ ?_
      rotate_left
      · rintro w' ⟨hs0,hs1⟩
        go_simp
        with_reducible rfl
      rotate_left
      · simp only[Act.put,List.setIfInBounds_toArray,List.set_cons_zero,List.set_cons_succ]
        rfl
      refine dD (i:=3) (N:=some 19) (v:=?_) (a':=?_) #[true,true,true,true,false,false,false,false,false] rfl rfl (by kernel_rfl) (fun _ _ _ h=>h) (Or.inl ⟨by rfl,?_⟩) hHeld ?_ ?_
      rotate_left
      · rintro w' ⟨hs0,hs1⟩
        go_simp
        with_reducible rfl
      rotate_left
      · simp only[Act.put,List.setIfInBounds_toArray,List.set_cons_zero,List.set_cons_succ]
        rfl
      refine dD (i:=4) (N:=some 20) (v:=?_) (a':=?_) #[true,true,true,true,true,false,false,false,false] rfl rfl (by kernel_rfl) (fun _ _ _ h=>h) (Or.inl ⟨by rfl,?_⟩) hHeld ?_ ?_
      rotate_left
      · rintro w' ⟨hs0,hs1⟩
        go_simp
        with_reducible rfl
      rotate_left
      · simp only[Act.put,List.setIfInBounds_toArray,List.set_cons_zero,List.set_cons_succ]
        rfl
      refine dD (i:=5) (N:=some 21) (v:=?_) (a':=?_) #[true,true,true,true,true,true,false,false,false] rfl rfl (by kernel_rfl) (fun _ _ _ h=>h) (Or.inl ⟨by rfl,?_⟩) hHeld ?_ ?_
      rotate_left
      · rintro w' ⟨hs0,hs1⟩
        go_simp
        with_reducible rfl
      rotate_left
      · simp only[Act.put,List.setIfInBounds_toArray,List.set_cons_zero,List.set_cons_succ]
        rfl
      refine dD (i:=6) (N:=some 22) (v:=?_) (a':=?_) #[true,true,true,true,true,true,true,false,false] rfl rfl (by kernel_rfl) (fun _ _ _ h=>h) (Or.inl ⟨by rfl,?_⟩) hHeld ?_ ?_
      rotate_left
      · rintro w' ⟨hs0,hs1⟩
        go_simp
        with_reducible rfl
      rotate_left
      · simp only[Act.put,List.setIfInBounds_toArray,List.set_cons_zero,List.set_cons_succ]
        rfl
      refine dD (i:=7) (N:=some 23) (v:=?_) (a':=?_) #[true,true,true,true,true,true,true,true,false] rfl rfl (by kernel_rfl) (fun _ _ _ h=>h) (Or.inl ⟨by rfl,?_⟩) hHeld ?_ ?_
      rotate_left
      · rintro w' ⟨hs0,hs1⟩
        go_simp
        with_reducible rfl
      rotate_left
      · simp only[Act.put,List.setIfInBounds_toArray,List.set_cons_zero,List.set_cons_succ]
        rfl
      refine dD (i:=8) (N:=some 24) (v:=?_) (a':=?_) #[true,true,true,true,true,true,true,true,true] rfl rfl (by kernel_rfl) (fun _ _ _ h=>h) (Or.inl ⟨by rfl,?_⟩) hHeld ?_ ?_
      rotate_left
      · rintro w' ⟨hs0,hs1⟩
        go_simp
        with_reducible rfl
      rotate_left
      · simp only[Act.put,List.setIfInBounds_toArray,List.set_cons_zero,List.set_cons_succ]
        rfl
      refine qg (by kernel_rfl) ?_
      clear hc0 hc1 hHeld
      go_wp2
      · exact hno'.out _ (by simpa using (show(x0 != y0)=true by assumption)) (hu.drew)
      · go_roundw
        case rel=>exact⟨k+1,by omega,by go_num,hstep.out (by simpa using (show(x0 != y0)=false by assumption)),hu.drew⟩
        case measure=>simp[intOf];omega
    · have hj3:k=xs.length:=by omega
      have H3:=Lib.hid hj3
      rw[hj3] at hpre
      clear hj3 hhx hhy
      go_wp2
      exact hyes _ hpre hu
open Go.RowKit
theorem bh.cells{m:Md}{w:World}{A:Option Addr}{n c:Nat}{xs:List Int}(h:bh m w (.slice A n c) xs) : (A=none∧xs=[])∨xs=[]∨∃ b off,A=some ⟨b,off,none⟩∧∀ i,i<xs.length→w.cell? ⟨b,off+i,none⟩=some (.int .u8 (xs.getD i 0)):=by
  by_cases h0:xs=[]
  · exact .inr (.inl h0)
  · have hl:0<xs.length:=List.length_pos_iff.2 h0
    obtain⟨b,off,rfl,_⟩:=bh.at_ h 0 hl
    refine .inr (.inr ⟨b,off,rfl,fun i hi=>?_⟩)
    obtain⟨b',off',hA,hc,_⟩:=bh.at_ h i hi
    injection hA with hA
    injection hA with h1 h2
    subst h1 h2
    exact hc
theorem qa{m:Md}{w:World}{v:Value}{xs:List Int}(h:bh m w v xs) : (convert 22 9 v).run Tryz.prog w = .ok (.string (strOfNums xs)) w:=by
  have hh:=h
  obtain⟨A,c,rfl,h1,h2,h0,h3⟩:=hh
  rcases Nat.eq_zero_or_pos xs.length with hz|hz
  · obtain rfl:xs=[]:=List.eq_nil_of_length_eq_zero hz
    cases A with
    | none=>exact run_convert_bytes_nil w _ _ Tryz.underlying22 Tryz.underlying5 _ _ _ Tryz.underlying9
    | some a =>
      rw[run_convert_bytes_string w _ _ _ _ _ _ Tryz.underlying22 Tryz.underlying5 Tryz.underlying9]
      rw[run_bytesToString w a _ c [] (by simp[loadCells,loadCellsFrom,Sem.run_pure])]
      rfl
  · obtain⟨b,off,cells,t,fr,rfl,hb,ht,hx⟩:=h3 hz
    exact run_convert_bytes_arg w _ _ Tryz.underlying22 Tryz.underlying5 b off _ c xs rfl (fun i hi=>by
      obtain⟨b',off',hA,hc,_⟩:=bh.at_ h i hi
      injection hA with hA
      injection hA with h1 h2
      subst h1 h2
      exact hc) _ Tryz.underlying9
theorem qu:∀ {xs ys:List Int},(∀ x,x∈xs→0≤x∧x<256)→(∀ x,x∈ys→0≤x∧x<256)→(xs.map fun n=>UInt8.ofNat n.toNat)=(ys.map fun n=>UInt8.ofNat n.toNat)→xs=ys
  | [],[],_,_,_=>rfl
  | [],_ :: _,_,_,h=>by simp at h
  | _ :: _,[],_,_,h=>by simp at h
  | x :: xs,y :: ys,hx,hy,h=>by
    simp only[List.map_cons,List.cons.injEq] at h
    have h1:=hx x (by simp)
    have h2:=hy y (by simp)
    have h3:x=y:=by
      have:=congrArg UInt8.toNat h.1
      simp at this
      omega
    rw[h3,qu (fun z hz=>hx z (by simp[hz])) (fun z hz=>hy z (by simp[hz])) h.2]
theorem qJ{m m':Md}{w w' W:World}{u v:Value}{xs ys:List Int}(hx:bh m w u xs)(hy:bh m' w' v ys) : (binOp .eql 9 (.string (strOfNums xs)) (.string (strOfNums ys))).run Tryz.prog W = .ok (.bool (decide (xs=ys))) W:=by
  have e:((strOfNums xs).toList==(strOfNums ys).toList)=decide (xs=ys):=by
    by_cases h:xs=ys
    · subst h;simp
    · rw[decide_eq_false h,beq_eq_false_iff_ne]
      intro h2
      rw[ByteArray.toList_eq,ByteArray.toList_eq] at h2
      exact h (qu hx.rng hy.rng h2)
  rw[binOp_string_eql,e]
  rfl
theorem uA{A B:dr}:decide (A=B)=(decide (A.file=B.file)&&(decide (A.record=B.record)&&(decide (A.count=B.count)&&decide (A.words=B.words)))):=by
  rw[Bool.eq_iff_iff]
  cases A;cases B
  simp
theorem uR{m m':Md}{ca cb:List Value}{A B:dr}{w:World}(ha:bv m w A ca)(hb:bv m' w B cb) : Calls Tryz.prog 223 #[.agg ca.toArray,.agg cb.toArray] w (dS (decide (A=B)) w):=by
  obtain⟨va,rfl,hwa,hra⟩:=ha
  obtain⟨vb,rfl,hwb,hrb⟩:=hb
  rw[uA]
  generalize A.file=f1 at *
  generalize A.record=f2 at *
  generalize A.count=f3 at *
  generalize A.words=f4 at *
  generalize B.file=g1 at *
  generalize B.record=g2 at *
  generalize B.count=g3 at *
  generalize B.words=g4 at *
  clear hra hrb
  have hpost:∀ W,aF [] w W→dS (decide (f1=g1)&&(decide (f2=g2)&&(decide (f3=g3)&&decide (f4=g4)))) w (.returned (.bool (decide (f1=g1)&&(decide (f2=g2)&&(decide (f3=g3)&&decide (f4=g4)))))) W:=fun W h=>⟨rfl,h⟩
  revert hpost
  generalize dS (decide (f1=g1)&&(decide (f2=g2)&&(decide (f3=g3)&&decide (f4=g4)))) w=P
  intro hpost
  by_cases h1:f1=g1
  case neg =>
    have e:(decide (f1=g1)&&(decide (f2=g2)&&(decide (f3=g3)&&decide (f4=g4))))=false:=by simp[h1]
    rw[e] at hpost
    have e1:(f1==g1)=false:=by simpa using h1
    clear h1 e hwa hwb
    replace hpost:=Lib.hid hpost
    go_enter Tryz.func223,Tryz.ntmps223
    go_wp2
    exact hpost.out _ (((aF.refl [] w).alloc _).alloc _)
  subst h1
  by_cases h1:f2=g2
  case neg =>
    have e:(decide (f1=f1)&&(decide (f2=g2)&&(decide (f3=g3)&&decide (f4=g4))))=false:=by simp[h1]
    rw[e] at hpost
    have e1:(f2==g2)=false:=by simpa using h1
    clear h1 e hwa hwb
    replace hpost:=Lib.hid hpost
    go_enter Tryz.func223,Tryz.ntmps223
    go_wp2
    exact hpost.out _ (((aF.refl [] w).alloc _).alloc _)
  subst h1
  by_cases h1:f3=g3
  case neg =>
    have e:(decide (f1=f1)&&(decide (f2=f2)&&(decide (f3=g3)&&decide (f4=g4))))=false:=by simp[h1]
    rw[e] at hpost
    have e1:(f3==g3)=false:=by simpa using h1
    clear h1 e hwa hwb
    replace hpost:=Lib.hid hpost
    go_enter Tryz.func223,Tryz.ntmps223
    go_wp2
    exact hpost.out _ (((aF.refl [] w).alloc _).alloc _)
  subst h1
  have e:(decide (f1=f1)&&(decide (f2=f2)&&(decide (f3=f3)&&decide (f4=g4))))=decide (f4=g4):=by simp
  rw[e] at hpost
  clear e
  have hcall:=fun(W:World) (h:aF [] w W)=>qx (hwa.old h) (hwb.old h)
  replace hpost:=Lib.hid hpost
  go_enter Tryz.func223,Tryz.ntmps223
  go_wp2_with (go_at_call 220;refine(hcall _ (((aF.refl [] w).alloc _).alloc _)).mono ?_;rintro e w1 ⟨rfl,hu1⟩)
  exact hpost.out _ ((((aF.refl [] w).alloc _).alloc _).step hu1)
theorem uw{A B:Obj}:decide (A=B)=(decide (A.id=B.id)&&decide (A.value=B.value)):=by
  rw[Bool.eq_iff_iff]
  cases A;cases B
  simp
theorem p9{m m':Md}{ca cb:List Value}{A B:Obj}{w:World}(ha:dp m w A ca)(hb:dp m' w B cb) : Calls Tryz.prog 225 #[.agg ca.toArray,.agg cb.toArray] w (dS (decide (A=B)) w):=by
  obtain⟨va,rfl,hwa,hra⟩:=ha
  obtain⟨vb,rfl,hwb,hrb⟩:=hb
  rw[uw]
  generalize A.id=f1 at *
  generalize A.value=f4 at *
  generalize B.id=g1 at *
  generalize B.value=g4 at *
  clear hra hrb
  have hpost:∀ W,aF [] w W→dS (decide (f1=g1)&&decide (f4=g4)) w (.returned (.bool (decide (f1=g1)&&decide (f4=g4)))) W:=fun W h=>⟨rfl,h⟩
  revert hpost
  generalize dS (decide (f1=g1)&&decide (f4=g4)) w=P
  intro hpost
  by_cases h1:f1=g1
  case neg =>
    have e:(decide (f1=g1)&&decide (f4=g4))=false:=by simp[h1]
    rw[e] at hpost
    have e1:(f1==g1)=false:=by simpa using h1
    clear h1 e hwa hwb
    replace hpost:=Lib.hid hpost
    go_enter Tryz.func225,Tryz.ntmps225
    go_wp2
    exact hpost.out _ (((aF.refl [] w).alloc _).alloc _)
  subst h1
  have e:(decide (f1=f1)&&decide (f4=g4))=decide (f4=g4):=by simp
  rw[e] at hpost
  have hu0:aF [] w ((w.alloc (.cells #[.int .u8 f1,va] 111)).alloc (.cells #[.int .u8 f1,vb] 111)):=((aF.refl [] w).alloc _).alloc _
  have c1:=qa (hwa.old hu0)
  have c2:=qa (hwb.old hu0)
  have c3:=qJ (hwa.old hu0) (hwb.old hu0) (W:=(w.alloc (.cells #[.int .u8 f1,va] 111)).alloc (.cells #[.int .u8 f1,vb] 111))
  replace hpost:=hpost _ hu0
  generalize strOfNums f4=s1 at *
  generalize strOfNums g4=s2 at *
  generalize decide (f4=g4)=D at *
  clear hu0 hwa hwb e
  rw[binOp_string_eql] at c3
  have c4:(s1.toList==s2.toList)=D:=by simpa [Sem.run_pure] using c3
  clear c3
  replace hpost:=Lib.hid hpost
  go_enter Tryz.func225,Tryz.ntmps225
  go_wp2
  exact hpost.out
open Go.RowKit
theorem aS.at_{α:Type}{m:Md}{e:TypeId}{sz:Nat}{R:World→α→List Value→Prop}{w:World}{A:Option Addr}{n c:Nat}{xs:List α}(h:aS m e sz R w (.slice A n c) xs)(d:α)(j:Nat)(hj:j<xs.length) :
    ∃ b off cs,A=some ⟨b,off,none⟩∧w.rangeAt b (off+j*sz) cs∧R w (xs.getD j d) cs∧cs.length=sz:=by
  obtain⟨A',c',hv,h1,h2,h0,h3⟩:=h
  injection hv with e1 e2 e3
  subst e1 e3
  obtain⟨b,off,cells,t,fr,rfl,hb,ht,hx⟩:=h3 (by omega)
  obtain⟨cs,h4,h5,h6⟩:=hx j (xs.getD j d) (by simp[List.getD_eq_getElem?_getD,List.getElem?_eq_getElem hj])
  exact⟨b,off,cs,rfl,fun i u hi=>by rw[bB hb];exact h6 i u hi,h5,h4⟩
theorem bv.upd0{m:Md}{w w':World}(hu:aF [] w w'){r:dr}{cs:List Value}(h:bv m w r cs) : bv m w' r cs:=bv.upd hu (dm.nil _ _ _) r cs h
theorem dp.upd0{m:Md}{w w':World}(hu:aF [] w w'){r:Obj}{cs:List Value}(h:dp m w r cs) : dp m w' r cs:=dp.upd hu (dm.nil _ _ _) r cs h
theorem fB{w w':World}{b o:Nat}{cs:List Value}(h:w.rangeAt b o cs){S:List Nat}(hu:aF S w w')(hb:b∉S) : w'.rangeAt b o cs:=fun j v hj=>hu.cell hb (h j v hj)
theorem oB:(Tryz.prog.info? 109).map (·.zero)=some (some (.agg #[.int .u16 0,.int .u16 0,.int .u16 0,.slice none 0 0])):=by kernel_rfl
theorem gn:(Tryz.prog.info? 109).map (·.size)=some 4:=by kernel_rfl
theorem nJ:(Tryz.prog.info? 111).map (·.zero)=some (some (.agg #[.int .u8 0,.slice none 0 0])):=by kernel_rfl
theorem gt:(Tryz.prog.info? 111).map (·.size)=some 2:=by kernel_rfl
theorem bv.one{m:Md}{w:World}{r:dr}{cs:List Value}(h:bv m w r cs) : cs.toArray.all (·.oneCell')=true∧cs.length=4:=by
  obtain⟨v,rfl,h1,_⟩:=h
  obtain⟨A,c,rfl,_⟩:=h1
  exact⟨by simp[Value.oneCell'],rfl⟩
theorem dp.one{m:Md}{w:World}{r:Obj}{cs:List Value}(h:dp m w r cs) : cs.toArray.all (·.oneCell')=true∧cs.length=2:=by
  obtain⟨v,rfl,h1,_⟩:=h
  obtain⟨A,c,rfl,_⟩:=h1
  exact⟨by simp[Value.oneCell'],rfl⟩
theorem vn{m m':Md}{u v:Value}{xs ys:List dr}{w:World}(hx:kZ m w u xs)(hy:kZ m' w v ys) :
    Calls Tryz.prog 222 #[u,v,.func (.func 223) #[] #[]] w (dS (decide (xs=ys)) w):=by
  have hhx:=hx
  have hhy:=hy
  obtain⟨A,c,rfl,hc1,hc2⟩:=hx.shape
  obtain⟨B,c',rfl,eu,iw⟩:=hy.shape
  have hn:xs.length≤9223372036854775807:=by have:=hc2;unfold maxLen at this;omega
  by_cases hl:xs.length=ys.length
  case neg =>
    have hno:∀ W,aF [] w W→dS (decide (xs=ys)) w (.returned (.bool false)) W:=by
      intro W hW
      rw[decide_eq_false (fun h=>hl (by rw[h]))]
      exact⟨rfl,hW⟩
    have hli:((xs.length:Int)!=(ys.length:Int))=true:=by simp;omega
    clear hx hy hhx hhy hl
    go_enter Tryz.func222,Tryz.ntmps222
    go_wp2
    go_ret
    exact hno _ (aF.refl _ _)
  have hno:∀ W k,xs.getD k ⟨0,0,0,[]⟩≠ys.getD k ⟨0,0,0,[]⟩→aF [] w W→dS (decide (xs=ys)) w (.returned (.bool false)) W:=by
    intro W k hk hW
    rw[decide_eq_false (rT k hk)]
    exact⟨rfl,hW⟩
  have hyes:∀ W,xs.take xs.length=ys.take xs.length→aF [] w W→dS (decide (xs=ys)) w (.returned (.bool true)) W:=by
    intro W hk hW
    rw[List.take_length,hl,List.take_length] at hk
    rw[decide_eq_true hk]
    exact⟨rfl,hW⟩
  revert hno hyes
  generalize dS (decide (xs=ys)) w=P
  intro hno hyes
  have hli:((xs.length:Int)!=(ys.length:Int))=false:=by simp;omega
  have hL:=Lib.hid hl
  clear hx hy hl
  go_enter Tryz.func222,Tryz.ntmps222
  go_wp2
  go_loopw [17] (fun i wr=>∃ k:Nat,k≤xs.length∧i = .int .i64 (k:Int)∧xs.take k=ys.take k∧aF [] w wr) (fun i _=>xs.length-(intOf i).toNat)
  case atStart=>exact⟨0,by omega,rfl,by simp,aF.refl _ _⟩
  case round =>
    obtain⟨k,hk,rfl,hpre,hu⟩:=hrel
    by_cases hlt:k<xs.length
    · obtain⟨b,off,ca,rfl,cw0,hr0,hl0⟩:=aS.at_ hhx ⟨0,0,0,[]⟩ k hlt
      obtain⟨b',off',cb,rfl,cw1,hr1,hl1⟩:=aS.at_ hhy ⟨0,0,0,[]⟩ k (by have:=hL.out;omega)
      have hlt':k<ys.length:=by have:=hL.out;omega
      have hstep:=fun h=>mH (d:=⟨0,0,0,[]⟩) hL.out hlt hpre h
      have hno':=fun W h=>hno W k h
      revert hstep hno' hr0 hr1
      generalize xs.getD k ⟨0,0,0,[]⟩=x0
      generalize ys.getD k ⟨0,0,0,[]⟩=y0
      intro hr0 hr1 hstep hno'
      have hc0:=Lib.hid (fB cw0 hu (by simp))
      have hc1:=Lib.hid (fB cw1 hu (by simp))
      replace hstep:=Lib.hid hstep
      replace hno':=Lib.hid hno'
      have ha:=Lib.hid hr0
      have hb:=Lib.hid hr1
      clear cw0 cw1 hhx hhy hpre hno hyes hr0 hr1
      have tok1_0:True:=trivial
      have tok1_1:True:=trivial
      have tok1_2:True:=trivial
      have tok1_3:True:=trivial
      have tok1_4:True:=trivial
      have tok1_5:True:=trivial
      have tok1_6:True:=trivial
      have tok1_7:True:=trivial
      have tok1_8:True:=trivial
      go_wp2_with (first | (have _t:=tok1_0;refine wpList_load_mid rfl 109 _ rfl b (off+k*4) rfl ca _ hc0.out Tryz.underlying109 rfl (by rw[hl0];exact gn) ?_;clear _t tok1_0) | (have _t:=tok1_1;refine gv rfl 109 rfl _ oB ?_;intro g1 w1 hg1 hB1 hu1;clear _t tok1_1) | (have _t:=tok1_2;refine gl rfl 109 _ _ rfl g1 rfl ca.toArray rfl _ _ hB1 (by simp only[List.size_toArray,hl0];exact gn) (by simp only[List.size_toArray,hl0];rfl) (bv.one ha.out).1 ?_;intro w2 hB2 hu2;have U2:=hu1.fresh1 hu2 hg1;clear _t tok1_2) | (have _t:=tok1_3;refine wpList_load_mid rfl 109 _ rfl b' (off'+k*4) rfl cb _ (fB hc1.out U2 (by simp)) Tryz.underlying109 rfl (by rw[hl1];exact gn) ?_;clear _t tok1_3) | (have _t:=tok1_4;refine gv rfl 109 rfl _ oB ?_;intro g3 w3 hg3 hB3 hu3;clear _t tok1_4) | (have _t:=tok1_5;refine gl rfl 109 _ _ rfl g3 rfl cb.toArray rfl _ _ hB3 (by simp only[List.size_toArray,hl1];exact gn) (by simp only[List.size_toArray,hl1];rfl) (bv.one hb.out).1 ?_;intro w4 hB4 hu4;have U4:=hu3.fresh1 hu4 hg3;have a:=U4.blk (by simp) hB2;have V4:=hu.step (U2.step U4);clear _t tok1_5) | (have _t:=tok1_6;refine wpList_load_row rfl 109 _ rfl g1 rfl _ _ _ _ a Tryz.underlying109 rfl (by simp only[List.size_toArray,hl0];exact gn) ?_;clear _t tok1_6) | (have _t:=tok1_7;refine wpList_load_row rfl 109 _ rfl g3 rfl _ _ _ _ hB4 Tryz.underlying109 rfl (by simp only[List.size_toArray,hl1];exact gn) ?_;clear _t tok1_7) | (have _t:=tok1_8;go_at_call 223;refine(uR (bv.upd0 V4 ha.out) (bv.upd0 V4 hb.out)).mono ?_;rintro e w5 ⟨rfl,hu5⟩;generalize hD:decide (x0=y0)=D;have HD:=Lib.hid hD;clear hD a hB4;clear _t tok1_8))
      · have hD0:(!D)=true:=by assumption
        exact hno'.out _ (by have:=HD.out;intro h;rw[← this,h] at hD0;simp at hD0) (V4.step hu5)
      · have hD0:(!D)=false:=by assumption
        have hxy:x0=y0:=by have:=HD.out;rw[← this] at hD0;simpa using hD0
        go_roundw
        case rel=>exact⟨k+1,by omega,by go_num,hstep.out hxy,V4.step hu5⟩
        case measure=>simp[intOf];omega
    · have hj3:k=xs.length:=by omega
      have H3:=Lib.hid hj3
      rw[hj3] at hpre
      clear hj3 hhx hhy
      go_wp2
      exact hyes _ hpre hu
theorem uq{m m':Md}{u v:Value}{xs ys:List Obj}{w:World}(hx:mj m w u xs)(hy:mj m' w v ys) :
    Calls Tryz.prog 224 #[u,v,.func (.func 225) #[] #[]] w (dS (decide (xs=ys)) w):=by
  have hhx:=hx
  have hhy:=hy
  obtain⟨A,c,rfl,hc1,hc2⟩:=hx.shape
  obtain⟨B,c',rfl,eu,iw⟩:=hy.shape
  have hn:xs.length≤9223372036854775807:=by have:=hc2;unfold maxLen at this;omega
  by_cases hl:xs.length=ys.length
  case neg =>
    have hno:∀ W,aF [] w W→dS (decide (xs=ys)) w (.returned (.bool false)) W:=by
      intro W hW
      rw[decide_eq_false (fun h=>hl (by rw[h]))]
      exact⟨rfl,hW⟩
    have hli:((xs.length:Int)!=(ys.length:Int))=true:=by simp;omega
    clear hx hy hhx hhy hl
    go_enter Tryz.func224,Tryz.ntmps224
    go_wp2
    go_ret
    exact hno _ (aF.refl _ _)
  have hno:∀ W k,xs.getD k ⟨0,[]⟩≠ys.getD k ⟨0,[]⟩→aF [] w W→dS (decide (xs=ys)) w (.returned (.bool false)) W:=by
    intro W k hk hW
    rw[decide_eq_false (rT k hk)]
    exact⟨rfl,hW⟩
  have hyes:∀ W,xs.take xs.length=ys.take xs.length→aF [] w W→dS (decide (xs=ys)) w (.returned (.bool true)) W:=by
    intro W hk hW
    rw[List.take_length,hl,List.take_length] at hk
    rw[decide_eq_true hk]
    exact⟨rfl,hW⟩
  revert hno hyes
  generalize dS (decide (xs=ys)) w=P
  intro hno hyes
  have hli:((xs.length:Int)!=(ys.length:Int))=false:=by simp;omega
  have hL:=Lib.hid hl
  clear hx hy hl
  go_enter Tryz.func224,Tryz.ntmps224
  go_wp2
  go_loopw [17] (fun i wr=>∃ k:Nat,k≤xs.length∧i = .int .i64 (k:Int)∧xs.take k=ys.take k∧aF [] w wr) (fun i _=>xs.length-(intOf i).toNat)
  case atStart=>exact⟨0,by omega,rfl,by simp,aF.refl _ _⟩
  case round =>
    obtain⟨k,hk,rfl,hpre,hu⟩:=hrel
    by_cases hlt:k<xs.length
    · obtain⟨b,off,ca,rfl,cw0,hr0,hl0⟩:=aS.at_ hhx ⟨0,[]⟩ k hlt
      obtain⟨b',off',cb,rfl,cw1,hr1,hl1⟩:=aS.at_ hhy ⟨0,[]⟩ k (by have:=hL.out;omega)
      have hlt':k<ys.length:=by have:=hL.out;omega
      have hstep:=fun h=>mH (d:=⟨0,[]⟩) hL.out hlt hpre h
      have hno':=fun W h=>hno W k h
      revert hstep hno' hr0 hr1
      generalize xs.getD k ⟨0,[]⟩=x0
      generalize ys.getD k ⟨0,[]⟩=y0
      intro hr0 hr1 hstep hno'
      have hc0:=Lib.hid (fB cw0 hu (by simp))
      have hc1:=Lib.hid (fB cw1 hu (by simp))
      replace hstep:=Lib.hid hstep
      replace hno':=Lib.hid hno'
      have ha:=Lib.hid hr0
      have hb:=Lib.hid hr1
      clear cw0 cw1 hhx hhy hpre hno hyes hr0 hr1
      have tok2_0:True:=trivial
      have tok2_1:True:=trivial
      have tok2_2:True:=trivial
      have tok2_3:True:=trivial
      have tok2_4:True:=trivial
      have tok2_5:True:=trivial
      have tok2_6:True:=trivial
      have tok2_7:True:=trivial
      have tok2_8:True:=trivial
      go_wp2_with (first | (have _t:=tok2_0;refine wpList_load_mid rfl 111 _ rfl b (off+k*2) rfl ca _ hc0.out Tryz.underlying111 rfl (by rw[hl0];exact gt) ?_;clear _t tok2_0) | (have _t:=tok2_1;refine gv rfl 111 rfl _ nJ ?_;intro g1 w1 hg1 hB1 hu1;clear _t tok2_1) | (have _t:=tok2_2;refine gl rfl 111 _ _ rfl g1 rfl ca.toArray rfl _ _ hB1 (by simp only[List.size_toArray,hl0];exact gt) (by simp only[List.size_toArray,hl0];rfl) (dp.one ha.out).1 ?_;intro w2 hB2 hu2;have U2:=hu1.fresh1 hu2 hg1;clear _t tok2_2) | (have _t:=tok2_3;refine wpList_load_mid rfl 111 _ rfl b' (off'+k*2) rfl cb _ (fB hc1.out U2 (by simp)) Tryz.underlying111 rfl (by rw[hl1];exact gt) ?_;clear _t tok2_3) | (have _t:=tok2_4;refine gv rfl 111 rfl _ nJ ?_;intro g3 w3 hg3 hB3 hu3;clear _t tok2_4) | (have _t:=tok2_5;refine gl rfl 111 _ _ rfl g3 rfl cb.toArray rfl _ _ hB3 (by simp only[List.size_toArray,hl1];exact gt) (by simp only[List.size_toArray,hl1];rfl) (dp.one hb.out).1 ?_;intro w4 hB4 hu4;have U4:=hu3.fresh1 hu4 hg3;have a:=U4.blk (by simp) hB2;have V4:=hu.step (U2.step U4);clear _t tok2_5) | (have _t:=tok2_6;refine wpList_load_row rfl 111 _ rfl g1 rfl _ _ _ _ a Tryz.underlying111 rfl (by simp only[List.size_toArray,hl0];exact gt) ?_;clear _t tok2_6) | (have _t:=tok2_7;refine wpList_load_row rfl 111 _ rfl g3 rfl _ _ _ _ hB4 Tryz.underlying111 rfl (by simp only[List.size_toArray,hl1];exact gt) ?_;clear _t tok2_7) | (have _t:=tok2_8;go_at_call 225;refine(p9 (dp.upd0 V4 ha.out) (dp.upd0 V4 hb.out)).mono ?_;rintro e w5 ⟨rfl,hu5⟩;generalize hD:decide (x0=y0)=D;have HD:=Lib.hid hD;clear hD a hB4;clear _t tok2_8))
      · have hD0:(!D)=true:=by assumption
        exact hno'.out _ (by have:=HD.out;intro h;rw[← this,h] at hD0;simp at hD0) (V4.step hu5)
      · have hD0:(!D)=false:=by assumption
        have hxy:x0=y0:=by have:=HD.out;rw[← this] at hD0;simpa using hD0
        go_roundw
        case rel=>exact⟨k+1,by omega,by go_num,hstep.out hxy,V4.step hu5⟩
        case measure=>simp[intOf];omega
    · have hj3:k=xs.length:=by omega
      have H3:=Lib.hid hj3
      rw[hj3] at hpre
      clear hj3 hhx hhy
      go_wp2
      exact hyes _ hpre hu
open Go.RowKit
def ec (M:aQ) : List Int:=[M.code,M.fail,M.addr,M.count,M.value,M.and_,M.or_,M.addr2,M.sub,M.status,M.events,M.messages,M.mei*256+M.kind,M.level*256+M.more,M.next]
def gV (M:aQ) : Array Value:=((ec M).map (Value.int .u16)).toArray
theorem p7:(Tryz.prog.info? 225).map (·.zero)=some (some (.agg ((List.replicate 15 (Value.int .u16 0)).toArray))):=by kernel_rfl
theorem kH:(Tryz.prog.info? 225).map (·.size)=some 15:=by kernel_rfl
theorem nY(a0 a1 a2 a3 a4 a5 a6 a7 a8 a9 a b c d e:Int)(w:World) : (Instr.build 225 #[(0,.int .u16 a0),(1,.int .u16 a1),(2,.int .u16 a2),(3,.int .u16 a3),(4,.int .u16 a4),(5,.int .u16 a5),(6,.int .u16 a6),(7,.int .u16 a7),(8,.int .u16 a8),(9,.int .u16 a9),(10,.int .u16 a),(11,.int .u16 b),(12,.int .u16 c),(13,.int .u16 d),(14,.int .u16 e)]).run Tryz.prog w
    = .ok (.agg #[.int .u16 a0,.int .u16 a1,.int .u16 a2,.int .u16 a3,.int .u16 a4,.int .u16 a5,.int .u16 a6,.int .u16 a7,.int .u16 a8,.int .u16 a9,.int .u16 a,.int .u16 b,.int .u16 c,.int .u16 d,.int .u16 e]) w:=by kernel_rfl
theorem tu{P:Program}{fn:Func}{p:Tmp}{ty:TypeId}(h:fn.results = #[.cell p ty]){R:Ending→World→Prop}{a:Act}{w:World}(hd0:a.defers=[])(g:Nat)(t:TypeId)(cs:Array Value)(fr:Nat × Nat)(d:TypeDesc)
    (hp:a.tmps.getD p undef = .pointer (some ⟨g,0,none⟩)) (hg:w.heap[g]? = some (.cells cs t fr))
    (hu:P.underlying ty=some d) (hd:(match d with | .struct _ | .array _ _=>true | _=>false)=true) (hi:(P.info? ty).map (·.size)=some cs.size)
    (hR:R (.returned (.agg cs)) w) : bodyPost P fn R .ret a w:=by
  have hp':a.tmps[p]?.getD undef = .pointer (some ⟨g,0,none⟩):=by simpa using hp
  exact bodyPost_ret (by simp[results,h,hp',asAddr,run_loadVar_row w g t ty cs fr d hg hu hd hi]) hd0 hR
theorem mA{m:Md}{cs:Array Value}{M:aQ}{w:World}(h:aN m w cs.toList M) : Calls Tryz.prog 219 #[.agg cs] w (dM (.agg (gV M)) w):=by
  obtain⟨vw,vb,vd,vr,vo,h0,_,_,_,_,_,hR⟩:=h
  obtain⟨c0,c1,c2,c3,c4,c5,c6,c7,c8,c9,f,i,l1,l2,l3,l4,a,c,b,d,e,l5⟩:=M
  obtain⟨r0,r1,r2,r3,r4,r5,r6,r7,r8,r9,o,p,j,k,l,n,q⟩:=hR
  simp only[B8,dB] at r0 r1 r2 r3 r4 r5 r6 r7 r8 r9 o p j k l n q
  have hpost:∀ W,aF [] w W→dM (.agg (gV ⟨c0,c1,c2,c3,c4,c5,c6,c7,c8,c9,f,i,l1,l2,l3,l4,a,c,b,d,e,l5⟩)) w (.returned (.agg #[.int .u16 c0,.int .u16 c1,.int .u16 c2,.int .u16 c3,.int .u16 c4,.int .u16 c5,.int .u16 c6,.int .u16 c7,.int .u16 c8,.int .u16 c9,.int .u16 f,.int .u16 i,.int .u16 (a*256+c),.int .u16 (b*256+d),.int .u16 e])) W:=fun W hW=>⟨rfl,hW⟩
  revert hpost
  generalize dM (.agg (gV ⟨c0,c1,c2,c3,c4,c5,c6,c7,c8,c9,f,i,l1,l2,l3,l4,a,c,b,d,e,l5⟩)) w=P
  intro hpost
  replace hpost:=Lib.hid hpost
  have w0:IntKind.u16.wrap c0=c0:=by show c0%65536=c0;omega
  have w1:IntKind.u16.wrap c1=c1:=by show c1%65536=c1;omega
  have r:IntKind.u16.wrap a=a:=by show a%65536=a;omega
  have s:IntKind.u16.wrap c=c:=by show c%65536=c;omega
  have t:IntKind.u16.wrap b=b:=by show b%65536=b;omega
  have u:IntKind.u16.wrap d=d:=by show d%65536=d;omega
  have v:IntKind.u16.wrap e=e:=by show e%65536=e;omega
  have x1:IntKind.u16.wrap (a*256)=a*256:=by show(a*256)%65536=a*256;omega
  have x2:IntKind.u16.wrap (b*256)=b*256:=by show(b*256)%65536=b*256;omega
  have o1:=nc j k
  have o2:=nc l n
  have hcs:cs = #[.int .u8 c0,.int .u8 c1,.int .u16 c2,.int .u16 c3,.int .u16 c4,.int .u16 c5,.int .u16 c6,.int .u16 c7,.int .u16 c8,.int .u16 c9,.int .u16 f,.int .u16 i,vw,vb,vd,vr,.int .u8 a,.int .u8 c,.int .u8 b,.int .u8 d,.int .u8 e,vo]:=by
    apply Array.toList_inj.1
    exact h0
  subst hcs
  have hbp:=nY
  clear h0 r0 r1 r2 r3 r4 r5 r6 r7 r8 r9 o p j k l n q
  go_enter Tryz.func219,Tryz.ntmps219
  have tok1_0:True:=trivial
  have tok1_1:True:=trivial
  have tok1_2:True:=trivial
  go_wp2_with (first | (have _t:=tok1_0;refine uY rfl 30 _ rfl (.agg #[.int .u8 c0,.int .u8 c1,.int .u16 c2,.int .u16 c3,.int .u16 c4,.int .u16 c5,.int .u16 c6,.int .u16 c7,.int .u16 c8,.int .u16 c9,.int .u16 f,.int .u16 i,vw,vb,vd,vr,.int .u8 a,.int .u8 c,.int .u8 b,.int .u8 d,.int .u8 e,vo]) rfl ?_;intro g w1 hg hB hu1;clear _t tok1_0) | (have _t:=tok1_1;refine gv rfl 225 rfl _ p7 ?_;intro gp w2 hgp hBp hu2;replace hB:=hu2.blk (by simp) hB;have k0:w2.cell? ⟨g,0,none⟩=some (.int .u8 c0):=(bB hB 0).trans rfl;have k1:w2.cell? ⟨g,1,none⟩=some (.int .u8 c1):=(bB hB 1).trans rfl;have k2:w2.cell? ⟨g,2,none⟩=some (.int .u16 c2):=(bB hB 2).trans rfl;have k3:w2.cell? ⟨g,3,none⟩=some (.int .u16 c3):=(bB hB 3).trans rfl;have k4:w2.cell? ⟨g,4,none⟩=some (.int .u16 c4):=(bB hB 4).trans rfl;have k5:w2.cell? ⟨g,5,none⟩=some (.int .u16 c5):=(bB hB 5).trans rfl;have k6:w2.cell? ⟨g,6,none⟩=some (.int .u16 c6):=(bB hB 6).trans rfl;have k7:w2.cell? ⟨g,7,none⟩=some (.int .u16 c7):=(bB hB 7).trans rfl;have k8:w2.cell? ⟨g,8,none⟩=some (.int .u16 c8):=(bB hB 8).trans rfl;have k9:w2.cell? ⟨g,9,none⟩=some (.int .u16 c9):=(bB hB 9).trans rfl;have x:w2.cell? ⟨g,10,none⟩=some (.int .u16 f):=(bB hB 10).trans rfl;have y:w2.cell? ⟨g,11,none⟩=some (.int .u16 i):=(bB hB 11).trans rfl;have z:w2.cell? ⟨g,16,none⟩=some (.int .u8 a):=(bB hB 16).trans rfl;have A:w2.cell? ⟨g,17,none⟩=some (.int .u8 c):=(bB hB 17).trans rfl;have B:w2.cell? ⟨g,18,none⟩=some (.int .u8 b):=(bB hB 18).trans rfl;have C:w2.cell? ⟨g,19,none⟩=some (.int .u8 d):=(bB hB 19).trans rfl;have D:w2.cell? ⟨g,20,none⟩=some (.int .u8 e):=(bB hB 20).trans rfl;clear hB;clear _t tok1_1) | (have _t:=tok1_2;refine gl rfl 225 _ _ rfl gp rfl _ rfl _ _ hBp kH rfl (by simp[Value.oneCell']) ?_;intro w3 hB3 hu3;clear _t tok1_2))
  refine tu rfl rfl gp _ _ _ _ rfl hB3 Tryz.underlying225 rfl kH ?_
  exact hpost.out _ (hu1.step (hu2.fresh1 hu3 hgp))
open Go.RowKit
theorem iz:∀ (xs ys:List Int),xs.length=ys.length→((List.range xs.length).all fun i=>xs.getD i 0==ys.getD i 0)=(xs==ys)
  | [],[],_=>rfl
  | x :: xs,y :: ys,h=>by
    have ih:=iz xs ys (by simpa using h)
    rw[List.length_cons,List.range_succ_eq_map,List.all_cons,List.all_map]
    simp only[List.getD_cons_zero,Function.comp_def,List.getD_cons_succ,ih]
    simp[List.cons_beq_cons]
  | [],_ :: _,h=>by simp at h
  | _ :: _,[],h=>by simp at h
theorem n0{P:Program}(w:World)(t e:TypeId)(k:IntKind)(n:Nat)(ht:P.underlying t=some (.array n e))(he:P.underlying e=some (.int k))(hsz:∀ w,(sizeOf e).run P w = .ok 1 w)
    (xs ys:List Int) (hx:xs.length=n) (hy:ys.length=n) :
    (binOp .eql t (.agg (xs.map (Value.int k)).toArray) (.agg (ys.map (Value.int k)).toArray)).run P w = .ok (.bool (xs==ys)) w:=by
  rw[run_eql_struct]
  suffices h:(Op.equalIn 10000 t (.agg (xs.map (Value.int k)).toArray) (.agg (ys.map (Value.int k)).toArray)).run P w = .ok (xs==ys) w by
    rw[h]
    rfl
  rw[show(10000:Nat)=9998+2 from rfl]
  rw[← iz xs ys (hx.trans hy.symm),hx,List.range_eq_range',Op.equalIn]
  simp only[Sem.run_bind,run_underlying ht,Result.andThen_ok,hsz,Std.Legacy.Range.forIn_eq_forIn_range',Std.Legacy.Range.size,Nat.sub_zero,Nat.add_sub_cancel,Nat.div_one]
  have hl:∀ i∈List.range' 0 n 1,i<n:=fun i hi=>by simpa using (List.mem_range'_1.1 hi).2
  generalize List.range' 0 n 1=l at hl ⊢
  induction l with
  | nil=>simp
  | cons i l ih =>
    have hi:i<n:=hl i (by simp)
    have px:(part e (xs.map (Value.int k)).toArray (i*1)).run P w = .ok (Value.int k (xs.getD i 0)) w:=by
      simp[part,isAgg,run_underlying he,List.getD,List.getElem?_eq_getElem (show i<xs.length by omega)]
    have py:(part e (ys.map (Value.int k)).toArray (i*1)).run P w = .ok (Value.int k (ys.getD i 0)) w:=by
      simp[part,isAgg,run_underlying he,List.getD,List.getElem?_eq_getElem (show i<ys.length by omega)]
    have pe:(Op.equalIn (9998+1) e (Value.int k (xs.getD i 0)) (Value.int k (ys.getD i 0))).run P w = .ok (xs.getD i 0==ys.getD i 0) w:=run_equalIn_int w 9998 e k k _ _ he
    simp only[List.forIn_cons,Sem.run_bind,px,py,pe,Result.andThen_ok,List.all_cons]
    cases hb:(xs.getD i 0==ys.getD i 0)
    · simp
    · simp only[Bool.not_true,Bool.false_eq_true,if_false,Sem.run_pure,Result.andThen_ok,Bool.true_and]
      exact ih fun j hj=>hl j (by simp[hj])
theorem sU{A B:aQ}(ha:fs A)(hb:fs B) : ec A=ec B↔A = { B with words:=A.words,bits:=A.bits,data:=A.data,recs:=A.recs,objects:=A.objects }:=by
  obtain⟨_,_,_,_,_,_,_,_,_,_,_,_,a1,a2,a3,a4,_⟩:=ha
  obtain⟨_,_,_,_,_,_,_,_,_,_,_,_,b1,b2,b3,b4,_⟩:=hb
  cases A;cases B
  simp only[B8] at a1 a2 a3 a4 b1 b2 b3 b4
  simp only[ec,List.cons.injEq,and_true,aQ.mk.injEq,true_and]
  constructor
  · rintro⟨h1,h2,h3,h4,h5,h6,h7,h8,h9,a,b,c,e,f,d⟩
    refine⟨h1,h2,h3,h4,h5,h6,h7,h8,h9,a,b,c,?_,?_,?_,?_,d⟩<;>omega
  · rintro⟨h1,h2,h3,h4,h5,h6,h7,h8,h9,a,b,c,e,f,d,h,g⟩
    refine⟨h1,h2,h3,h4,h5,h6,h7,h8,h9,a,b,c,?_,?_,g⟩<;>omega
theorem wN{A B:aQ}(ha:fs A)(hb:fs B) : A=B↔ec A=ec B∧A.words=B.words∧A.bits=B.bits∧A.data=B.data∧A.recs=B.recs∧A.objects=B.objects:=by
  rw[sU ha hb]
  constructor
  · rintro rfl
    exact⟨rfl,rfl,rfl,rfl,rfl,rfl⟩
  · rintro⟨h1,h2,h3,h4,h5,h6⟩
    rw[h1,h2,h3,h4,h5,h6]
open Go.RowKit
theorem nW{ev:Operand→Value}{o:Oper}{x y:Operand}{t:TypeId}{A B:aQ}{w:World}(ho:o.op = .binOp .eql 225 x y t)(hx:ev x = .agg (gV A))(hy:ev y = .agg (gV B)) :
    (execOp ev o).run Tryz.prog w = .ok (.value (.bool (ec A==ec B))) w:=by
  have hg:(eqGuard .eql 225 x y (.agg (gV A)) (.agg (gV B))).run Tryz.prog w = .ok () w:=run_eqGuard_agg w .eql _ x y _ _ (by kernel_rfl)
  have he:(binOp .eql 225 (.agg (gV A)) (.agg (gV B))).run Tryz.prog w = .ok (.bool (ec A==ec B)) w:=n0 (P:=Tryz.prog) w 225 24 .u16 15 Tryz.underlying225 Tryz.underlying24 (fun w=>by kernel_rfl) (ec A) (ec B) rfl rfl
  unfold execOp
  simp only[ho,hx,hy,Sem.run_bind,hg,he,Sem.run_pure,Result.andThen]
theorem gw{A B:aQ}(ha:fs A)(hb:fs B) : decide (A=B)=(ec A==ec B&&(decide (A.words=B.words)&&(decide (A.bits=B.bits)&&(decide (A.data=B.data)&&(decide (A.recs=B.recs)&&decide (A.objects=B.objects)))))):=by
  rw[Bool.eq_iff_iff]
  simp only[Bool.and_eq_true,decide_eq_true_eq,beq_iff_eq]
  exact wN ha hb
theorem gC{m m':Md}{pc qc:Array Value}{A B:aQ}{w:World}(ha:aN m w pc.toList A)(hb:aN m' w qc.toList B) :
    Calls Tryz.prog 165 #[.agg pc,.agg qc] w (dS (decide (A=B)) w):=by
 have pM:=ha
 obtain⟨pvw,pvb,pvd,pvr,pvo,ph0,phw,phb,phd,phr,pho,pR⟩:=ha
 obtain rfl:pc=(bu A pvw pvb pvd pvr pvo).toArray:=by apply Array.toList_inj.1;simpa using ph0
 clear ph0
 obtain⟨pw,pkw,rfl,_,_⟩:=phw.shape
 obtain⟨pb,pkb,rfl,_,_⟩:=phb.shape
 obtain⟨pd,pkd,rfl,_,_⟩:=phd.shape
 obtain⟨pr,pkr,rfl,_,_⟩:=phr.shape
 obtain⟨po,pko,rfl,_,_⟩:=pho.shape
 have qM:=hb
 obtain⟨qvw,qvb,qvd,qvr,qvo,qh0,qhw,qhb,qhd,qhr,qho,qR⟩:=hb
 obtain rfl:qc=(bu B qvw qvb qvd qvr qvo).toArray:=by apply Array.toList_inj.1;simpa using qh0
 clear qh0
 obtain⟨qw,qkw,rfl,_,_⟩:=qhw.shape
 obtain⟨qb,qkb,rfl,_,_⟩:=qhb.shape
 obtain⟨qd,qkd,rfl,_,_⟩:=qhd.shape
 obtain⟨qr,qkr,rfl,_,_⟩:=qhr.shape
 obtain⟨qo,qko,rfl,_,_⟩:=qho.shape
 refine en 47 Tryz.func165 rfl<|sg<|L0<|dv (mG A.code A.fail A.addr A.count A.value A.and_ A.or_ A.addr2 A.sub A.status A.events A.messages (.slice pw A.words.length pkw) (.slice pb A.bits.length pkb) (.slice pd A.data.length pkd) (.slice pr A.recs.length pkr) A.mei A.kind A.level A.more A.next (.slice po A.objects.length pko)) fun k aj ak ab ac=>L0<|dv (mG B.code B.fail B.addr B.count B.value B.and_ B.or_ B.addr2 B.sub B.status B.events B.messages (.slice qw B.words.length qkw) (.slice qb B.bits.length qkb) (.slice qd B.data.length qkd) (.slice qr B.recs.length qkr) B.mei B.kind B.level B.more B.next (.slice qo B.objects.length qko)) fun l al am ad X=>Pl 1<|nt<|sq<|Rg 43 (fun w'=>w'.heap[k]? = some (.cells (mG A.code A.fail A.addr A.count A.value A.and_ A.or_ A.addr2 A.sub A.status A.events A.messages (.slice pw A.words.length pkw) (.slice pb A.bits.length pkb) (.slice pd A.data.length pkd) (.slice pr A.recs.length pkr) A.mei A.kind A.level A.more A.next (.slice po A.objects.length pko)) 30 (0,0))∧w'.heap[l]? = some (.cells (mG B.code B.fail B.addr B.count B.value B.and_ B.or_ B.addr2 B.sub B.status B.events B.messages (.slice qw B.words.length qkw) (.slice qb B.bits.length qkb) (.slice qd B.data.length qkd) (.slice qr B.recs.length qkr) B.mei B.kind B.level B.more B.next (.slice qo B.objects.length qko)) 30 (0,0))∧w'.cell? ⟨k,12,none⟩=some (.slice pw A.words.length pkw)∧w'.cell? ⟨l,12,none⟩=some (.slice qw B.words.length qkw)∧w'.cell? ⟨k,13,none⟩=some (.slice pb A.bits.length pkb)∧w'.cell? ⟨l,13,none⟩=some (.slice qb B.bits.length qkb)∧w'.cell? ⟨k,14,none⟩=some (.slice pd A.data.length pkd)∧bh false w' (.slice pd A.data.length pkd) A.data∧w'.cell? ⟨l,14,none⟩=some (.slice qd B.data.length qkd)∧bh false w' (.slice qd B.data.length qkd) B.data∧w'.cell? ⟨k,15,none⟩=some (.slice pr A.recs.length pkr)∧w'.cell? ⟨l,15,none⟩=some (.slice qr B.recs.length qkr)∧w'.cell? ⟨k,21,none⟩=some (.slice po A.objects.length pko)∧w'.cell? ⟨l,21,none⟩=some (.slice qo B.objects.length qko)) fun an U=>?_
 have o:=ub (aG X U) ab
 have p:=ub U ad
 have Q:=aG (aG ac X) U
 have Y:=bh.old phd Q
 have Z:=bh.old qhd Q
 refine bj ⟨o,p,(ah o rfl),(ah p rfl),(ah o rfl),(ah p rfl),(ah o rfl),(aS.any Y (fun _ _ h=>h)),(ah p rfl),(aS.any Z (fun _ _ h=>h)),(ah o rfl),(ah p rfl),(ah o rfl),(ah p rfl)⟩ fun a0=>Rr 0 a0 (.agg (mG A.code A.fail A.addr A.count A.value A.and_ A.or_ A.addr2 A.sub A.status A.events A.messages (.slice pw A.words.length pkw) (.slice pb A.bits.length pkb) (.slice pd A.data.length pkd) (.slice pr A.recs.length pkr) A.mei A.kind A.level A.more A.next (.slice po A.objects.length pko))) (fun w' hs=>mu (g:=k) (off:=0) [.int .u8 A.code,.int .u8 A.fail,.int .u16 A.addr,.int .u16 A.count,.int .u16 A.value,.int .u16 A.and_,.int .u16 A.or_,.int .u16 A.addr2,.int .u16 A.sub,.int .u16 A.status,.int .u16 A.events,.int .u16 A.messages,.slice pw A.words.length pkw,.slice pb A.bits.length pkb,.slice pd A.data.length pkd,.slice pr A.recs.length pkr,.int .u8 A.mei,.int .u8 A.kind,.int .u8 A.level,.int .u8 A.more,.int .u8 A.next,.slice po A.objects.length pko] rfl (by kernel_rfl) hs.1 (by kernel_rfl) (by kernel_rfl) rfl)<|Rr 2 a0 (.agg (mG B.code B.fail B.addr B.count B.value B.and_ B.or_ B.addr2 B.sub B.status B.events B.messages (.slice qw B.words.length qkw) (.slice qb B.bits.length qkb) (.slice qd B.data.length qkd) (.slice qr B.recs.length qkr) B.mei B.kind B.level B.more B.next (.slice qo B.objects.length qko))) (fun w' hs=>mu (g:=l) (off:=0) [.int .u8 B.code,.int .u8 B.fail,.int .u16 B.addr,.int .u16 B.count,.int .u16 B.value,.int .u16 B.and_,.int .u16 B.or_,.int .u16 B.addr2,.int .u16 B.sub,.int .u16 B.status,.int .u16 B.events,.int .u16 B.messages,.slice qw B.words.length qkw,.slice qb B.bits.length qkb,.slice qd B.data.length qkd,.slice qr B.recs.length qkr,.int .u8 B.mei,.int .u8 B.kind,.int .u8 B.level,.int .u8 B.more,.int .u8 B.next,.slice qo B.objects.length qko] rfl (by kernel_rfl) hs.2.1 (by kernel_rfl) (by kernel_rfl) rfl)<|?_
 refine R0 1 rfl<|Oc<|m1 (mA (aN.old pM Q)) fun ao I=>?_
 have q:=ub I o
 have r:=ub I p
 have a1:=bh.old Y I
 have a2:=bh.old Z I
 refine bj ⟨q,r,(ah q rfl),(ah r rfl),(ah q rfl),(ah r rfl),(ah q rfl),(aS.any a1 (fun _ _ h=>h)),(ah r rfl),(aS.any a2 (fun _ _ h=>h)),(ah q rfl),(ah r rfl),(ah q rfl),(ah r rfl)⟩ fun ap=>?_
 have a3:=aG Q I
 refine R0 3 rfl<|Oc<|m1 (mA (aN.old qM a3)) fun aq J=>?_
 have s:=ub J q
 have t:=ub J r
 have a4:=bh.old a1 J
 have a5:=bh.old a2 J
 refine bj ⟨s,t,(ah s rfl),(ah t rfl),(ah s rfl),(ah t rfl),(ah s rfl),(aS.any a4 (fun _ _ h=>h)),(ah t rfl),(aS.any a5 (fun _ _ h=>h)),(ah s rfl),(ah t rfl),(ah s rfl),(ah t rfl)⟩ fun e=>Rr 4 e (.bool (ec A==ec B)) (fun _ _=>nW rfl (by kernel_rfl) (by kernel_rfl))<|Rt 5 e<|?_
 have R:=aG a3 J
 refine si 10 ((ec A==ec B)) (fun u=>?_) (fun u=>?_)
 refine Rt 6 e<|Rl 7 e (fun _ hs=>hs.2.2.1)<|Rt 8 e<|Rl 9 e (fun _ hs=>hs.2.2.2.1)<|?_
 refine R0 10 rfl<|Oc<|m1 (qx (dP.old phw R) (dP.old qhw R)) fun ar K=>?_
 have v:=ub K s
 have x:=ub K t
 have a6:=bh.old a4 K
 have a7:=bh.old a5 K
 refine bj ⟨v,x,(ah v rfl),(ah x rfl),(ah v rfl),(ah x rfl),(ah v rfl),(aS.any a6 (fun _ _ h=>h)),(ah x rfl),(aS.any a7 (fun _ _ h=>h)),(ah v rfl),(ah x rfl),(ah v rfl),(ah x rfl)⟩ fun f=>Rt 11 f<|Rt 12 f<|?_
 have S:=aG R K
 refine si 17 ((decide (A.words=B.words))) (fun j=>?_) (fun j=>?_)
 have ae:=of_decide_eq_true j
 refine Rt 13 f<|Rl 14 f (fun _ hs=>hs.2.2.2.2.1)<|Rt 15 f<|Rl 16 f (fun _ hs=>hs.2.2.2.2.2.1)<|?_
 refine R0 17 rfl<|Oc<|m1 (uy (hZ.old phb S) (hZ.old qhb S)) fun au L=>?_
 have y:=ub L v
 have z:=ub L x
 have V:=bh.old a6 L
 have W:=bh.old a7 L
 refine bj ⟨y,z,(ah y rfl),(ah z rfl),(ah y rfl),(ah z rfl),(ah y rfl),(aS.any V (fun _ _ h=>h)),(ah z rfl),(aS.any W (fun _ _ h=>h)),(ah y rfl),(ah z rfl),(ah y rfl),(ah z rfl)⟩ fun d=>Rt 18 d<|Rt 19 d<|?_
 have M:=aG S L
 refine si 24 ((decide (A.bits=B.bits))) (fun C=>?_) (fun C=>?_)
 have af:=of_decide_eq_true C
 refine Rt 20 d<|Rl 21 d (fun _ hs=>hs.2.2.2.2.2.2.1)<|Rr 22 d (.string (strOfNums A.data)) (fun _ hs=>eV (A:=pd) (n:=A.data.length) (c:=pkd) rfl (by kernel_rfl) Tryz.underlying22 Tryz.underlying5 Tryz.underlying9 hs.2.2.2.2.2.2.2.1)<|Rt 23 d<|Rl 24 d (fun _ hs=>hs.2.2.2.2.2.2.2.2.1)<|Rr 25 d (.string (strOfNums B.data)) (fun _ hs=>eV (A:=qd) (n:=B.data.length) (c:=qkd) rfl (by kernel_rfl) Tryz.underlying22 Tryz.underlying5 Tryz.underlying9 hs.2.2.2.2.2.2.2.2.2.1)<|Rr 26 d (.bool (decide (A.data=B.data))) (fun _ _=>kL (a:=(strOfNums A.data)) (b:=(strOfNums B.data)) rfl (by kernel_rfl) (by kernel_rfl) (pJ V W))<|Rt 27 d<|Rt 28 d<|si 33 ((decide (A.data=B.data))) (fun F=>?_) (fun F=>?_)
 have ag:=of_decide_eq_true F
 refine Rt 29 d<|Rl 30 d (fun _ hs=>hs.2.2.2.2.2.2.2.2.2.2.1)<|Rt 31 d<|Rl 32 d (fun _ hs=>hs.2.2.2.2.2.2.2.2.2.2.2.1)<|?_
 refine R0 33 rfl<|Oc<|m1 (vn (kZ.old phr M) (kZ.old qhr M)) fun av N=>?_
 have D:=ub N y
 have E:=ub N z
 have a8:=bh.old V N
 have a9:=bh.old W N
 refine bj ⟨D,E,(ah D rfl),(ah E rfl),(ah D rfl),(ah E rfl),(ah D rfl),(aS.any a8 (fun _ _ h=>h)),(ah E rfl),(aS.any a9 (fun _ _ h=>h)),(ah D rfl),(ah E rfl),(ah D rfl),(ah E rfl)⟩ fun i=>Rt 34 i<|Rt 35 i<|?_
 have T:=aG M N
 refine si 40 ((decide (A.recs=B.recs))) (fun O=>?_) (fun O=>?_)
 have ai:=of_decide_eq_true O
 refine Rt 36 i<|Rl 37 i (fun _ hs=>hs.2.2.2.2.2.2.2.2.2.2.2.2.1)<|Rt 38 i<|Rl 39 i (fun _ hs=>hs.2.2.2.2.2.2.2.2.2.2.2.2.2)<|?_
 refine R0 40 rfl<|Oc<|m1 (uq (mj.old pho T) (mj.old qho T)) fun aw P=>?_
 have G:=ub P D
 have H:=ub P E
 refine bj ⟨G,H,(ah G rfl),(ah H rfl),(ah G rfl),(ah H rfl),(ah G rfl),(aS.any (bh.old a8 P) (fun _ _ h=>h)),(ah H rfl),(aS.any (bh.old a9 P) (fun _ _ h=>h)),(ah G rfl),(ah H rfl),(ah G rfl),(ah H rfl)⟩ fun aa=>Rt 41 aa<|Rt 42 aa<|re<|tn<|rt<|rr (.bool (decide (A.objects=B.objects)))<|?_
 have hs:decide (A=B)=(decide (A.objects=B.objects)):=by
   rw[gw pR qR]
   (try simp only[u,j,C,F,O,bs,if_true,if_false,decide_true,decide_false])
 rw[hs]
 exact⟨rfl,(aG T P)⟩
 have ai:=of_decide_eq_false O
 refine Ro 36 i<|Ro 37 i<|Ro 38 i<|Ro 39 i<|Ro 40 i<|Rt 41 i<|Rt 42 i<|re<|tn<|rt<|rr (.bool false)<|?_
 have hs:decide (A=B)=false:=by
   rw[gw pR qR]
   (try simp only[u,j,C,F,O,bs,if_true,if_false,decide_true,decide_false])
 rw[hs]
 exact⟨rfl,T⟩
 have ag:=of_decide_eq_false F
 refine Ro 29 d<|Ro 30 d<|Ro 31 d<|Ro 32 d<|Ro 33 d<|Rt 34 d<|Rt 35 d<|Ro 36 d<|Ro 37 d<|Ro 38 d<|Ro 39 d<|Ro 40 d<|Rt 41 d<|Rt 42 d<|?_
 refine re<|tn<|rt<|rr (.bool false)<|?_
 have hs:decide (A=B)=false:=by
   rw[gw pR qR]
   (try simp only[u,j,C,F,bs,if_true,if_false,decide_true,decide_false])
 rw[hs]
 exact⟨rfl,M⟩
 have af:=of_decide_eq_false C
 refine Ro 20 d<|Ro 21 d<|Ro 22 d<|Ro 23 d<|Ro 24 d<|Ro 25 d<|Ro 26 d<|Rt 27 d<|Rt 28 d<|Ro 29 d<|Ro 30 d<|Ro 31 d<|Ro 32 d<|Ro 33 d<|?_
 refine Rt 34 d<|Rt 35 d<|Ro 36 d<|Ro 37 d<|Ro 38 d<|Ro 39 d<|Ro 40 d<|Rt 41 d<|Rt 42 d<|re<|tn<|rt<|rr (.bool false)<|?_
 have hs:decide (A=B)=false:=by
   rw[gw pR qR]
   (try simp only[u,j,C,bs,if_true,if_false,decide_true,decide_false])
 rw[hs]
 exact⟨rfl,M⟩
 have ae:=of_decide_eq_false j
 refine Ro 13 f<|Ro 14 f<|Ro 15 f<|Ro 16 f<|Ro 17 f<|Rt 18 f<|Rt 19 f<|Ro 20 f<|Ro 21 f<|Ro 22 f<|Ro 23 f<|Ro 24 f<|Ro 25 f<|Ro 26 f<|?_
 refine Rt 27 f<|Rt 28 f<|Ro 29 f<|Ro 30 f<|Ro 31 f<|Ro 32 f<|Ro 33 f<|Rt 34 f<|Rt 35 f<|Ro 36 f<|Ro 37 f<|Ro 38 f<|Ro 39 f<|Ro 40 f<|?_
 refine Rt 41 f<|Rt 42 f<|re<|tn<|rt<|rr (.bool false)<|?_
 have hs:decide (A=B)=false:=by
   rw[gw pR qR]
   (try simp only[u,j,bs,if_true,if_false,decide_true,decide_false])
 rw[hs]
 exact⟨rfl,S⟩
 refine Ro 6 e<|Ro 7 e<|Ro 8 e<|Ro 9 e<|Ro 10 e<|Rt 11 e<|Rt 12 e<|Ro 13 e<|Ro 14 e<|Ro 15 e<|Ro 16 e<|Ro 17 e<|Rt 18 e<|Rt 19 e<|?_
 refine Ro 20 e<|Ro 21 e<|Ro 22 e<|Ro 23 e<|Ro 24 e<|Ro 25 e<|Ro 26 e<|Rt 27 e<|Rt 28 e<|Ro 29 e<|Ro 30 e<|Ro 31 e<|Ro 32 e<|Ro 33 e<|?_
 refine Rt 34 e<|Rt 35 e<|Ro 36 e<|Ro 37 e<|Ro 38 e<|Ro 39 e<|Ro 40 e<|Rt 41 e<|Rt 42 e<|re<|tn<|rt<|rr (.bool false)<|?_
 have hs:decide (A=B)=false:=by
   rw[gw pR qR]
   (try simp only[u,bs,if_true,if_false,decide_true,decide_false])
 rw[hs]
 exact⟨rfl,R⟩
open Go.RowKit
def iI (Q:World→Ending→World→Prop)(w:World)(e:Ending)(w':World) : Prop:=∃ F free,e = .returned (.func (.func F) #[] free)∧xH Tryz.prog F=some (false,true)∧aF [] w w'∧Calls Tryz.prog F free w' (Q w')
theorem ma{g:Nat}{C:aj}{w:World}{a most:Int}(hC:ap w g C)(ha:0≤a∧a<65536) :
    Calls Tryz.prog 237 #[.pointer (some ⟨g,0,none⟩),.int .u16 a,.int .i64 most] w (my g .i64 65536 C.wordV (bJ C a most) w):=by
 have hlen:=hC.len
 have hrr:=hC.wordV
 refine en 26 Tryz.func237 rfl<|sg<|Pl 1<|ng<|Pl 1<|L0<|Oc<|m3 (cg hC) fun l d e m=>L0<|Oi C.wordV<|Pl 1<|nt<|?_
 refine sg<|Pl 4<|cu 4 [14] 18 (((decide (1≤C.wordV))&&(decide (C.wordV≤most)))) (fun K c=>?_) ?_
 refine bl 14 ((decide (1≤C.wordV))) (fun b=>?_) (fun b=>?_)
 have f:=of_decide_eq_true b
 exact Pl 4<|ce c (decide (C.wordV≤most)) (by rw[b];rfl)
 have f:=of_decide_eq_false b
 exact Pl 4<|ce c false (by rw[b];rfl)
 refine L0<|Oc<|m2 (bg (((decide (1≤C.wordV))&&(decide (C.wordV≤most)))) 5 d) fun o h i=>ng<|Pl 3<|L0<|Oc<|mq (iG (a:=a) (n:=C.wordV) (by omega))<|L0<|Oc<|m2 (bg ((dH a C.wordV)) 7 h) fun p j k=>ng<|Pl 2<|nl<|?_
 refine tn<|rt<|rr (.int .i64 C.wordV)<|?_
 have hs:bJ C a most=(((C.wordsC 1).need ((decide (1≤C.wordV))&&(decide (C.wordV≤most))) 5).need (dH a C.wordV) 7):=by
   unfold bJ
   (try simp only[bs,if_true,if_false,decide_true,decide_false,reduceIte])
   all_goals rfl
 rw[hs]
 exact⟨rfl,j,(u1 e (u1 i k im) im),hrr⟩
theorem jH{g:Nat}{C:aj}{w:World}{n:Int}(hC:ap w g C)(hn:0≤n∧n<65536) :
    Calls Tryz.prog 242 #[.pointer (some ⟨g,0,none⟩),.int .i64 n] w (fun e w'=>∃ v,e = .returned v∧ka w.heap.size w' v ((db C n).wordsR n)∧ap w' g ((db C n).wordsC n)∧aF [g] w w'):=by
 have hlen:=hC.len
 refine en 16 Tryz.func242 rfl<|sg<|Pl 1<|ng<|Pl 2<|L0<|Oc<|m3 (ch hC) fun l c a m=>L0<|Oi C.byteV<|Pl 1<|L0<|Oi (2*n)<|Pl 1<|L0<|Oc<|m2 (bg ((C.byteV==(2*n))) 5 c) fun o d b=>?_
 refine ng<|Pl 2<|L0<|Oc<|mS (eo (n:=n) d) fun f h p i q r j k=>Pl 1<|nt<|rt<|rr (.slice f ((((C.bytesC 1).need (C.byteV==(2*n)) 5).wordsR n).length) h)<|?_
 have hs:db C n=((C.bytesC 1).need (C.byteV==(2*n)) 5):=by
   unfold db
   (try simp only[bs,if_true,if_false,decide_true,decide_false,reduceIte])
   all_goals rfl
 rw[hs]
 exact⟨_,rfl,(aW.weaken i (le a.size b.size)),j,(u1 a (u1 b k im) im)⟩
theorem ir{most:Int}{g gm:Nat}{c:Int}{C:aj}{w:World}(hcode:B8 c)(hC:ap w g C)(hm:w.heap[gm]? = some (.cells (mC c) 30 (0,0)))(hne:g≠gm){bc:Nat}{bm:Nat}(hbc:w.heap[bc]? = some (.cells #[.pointer (some ⟨g,0,none⟩)] 113 (0,0)))(n_bc_g:bc≠g)(n_bc_gm:bc≠gm)(hbm:w.heap[bm]? = some (.cells #[.pointer (some ⟨gm,0,none⟩)] 161 (0,0)))(n_bm_g:bm≠g)(n_bm_gm:bm≠gm) :
    Calls Tryz.prog 236 #[.int .i64 most,.pointer (some ⟨bc,0,none⟩),.pointer (some ⟨bm,0,none⟩)] w (p2 g gm (bJ (C.wordsC 1) C.wordV most) (mG c 0 C.wordV (C.wordsC 1).wordV 0 0 0 0 0 0 0 0 nS nS nS nS 0 0 0 0 0 nS) w):=by
 obtain⟨hcode1,hcode2⟩:=hcode
 have hlen:=hC.len
 refine en 20 Tryz.func236 rfl<|sq<|Rg 6 (fun w'=>w'.cell? ⟨bm,0,none⟩=some (.pointer (some ⟨gm,0,none⟩))∧w'.cell? ⟨bc,0,none⟩=some (.pointer (some ⟨g,0,none⟩))) fun I d=>?_
 have m:=ub d hbm
 have n:=ub d hbc
 refine bj ⟨(ah m rfl),(ah n rfl)⟩ fun o=>Rl 0 o (fun _ hs=>hs.1)<|Rl 1 o (fun _ hs=>hs.2)<|?_
 refine R0 2 rfl<|Oc<|m3 (cg (ap.old hC d)) fun J F i K=>?_
 have p:=b6 i n_bm_g m
 have q:=b6 i n_bc_g n
 refine bj ⟨(ah p rfl),(ah q rfl)⟩ fun r=>Rt 3 r<|Rt 4 r<|?_
 have s:=uz d i
 have t:=b6 s (Ne.symm hne) hm
 refine R0 5 rfl<|cj t 2 (mG c 0 C.wordV 0 0 0 0 0 0 0 0 0 nS nS nS nS 0 0 0 0 0 nS) fun L G j=>?_
 have u:=b6 j n_bm_gm p
 have v:=b6 j n_bc_gm q
 refine bj ⟨(ah u rfl),(ah v rfl)⟩ fun M=>re<|tn<|Rg 12 (fun w'=>w'.cell? ⟨bm,0,none⟩=some (.pointer (some ⟨gm,0,none⟩))∧w'.cell? ⟨bc,0,none⟩=some (.pointer (some ⟨g,0,none⟩))∧w'.cell? ⟨gm,2,none⟩=some (.int .u16 C.wordV)) fun N e=>?_
 have x:=ub e u
 have y:=ub e v
 have z:=ub e G
 refine bj ⟨(ah x rfl),(ah y rfl),(ah z rfl)⟩ fun b=>Rl 0 b (fun _ hs=>hs.1)<|Rl 1 b (fun _ hs=>hs.2.1)<|Rl 2 b (fun _ hs=>hs.1)<|Rt 3 b<|Rt 4 b<|Rl 5 b (fun _ hs=>hs.2.2)<|Rt 6 b<|?_
 have A:=aG j e
 refine R0 7 rfl<|Oc<|m3 (ma (a:=C.wordV) (most:=most) (ap.upd F A (aa hne aA) (ax (aY t (by decide)) aK)) (by omega)) fun O H f P=>?_
 have B:=b6 f n_bm_g x
 have D:=b6 f n_bc_g y
 have k:=b6 f (Ne.symm hne) z
 refine bj ⟨(ah B rfl),(ah D rfl),(ah k rfl)⟩ fun l=>Rr 8 l (.int .u16 ((C.wordsC 1).wordV)) (fun _ _=>bZ (.int .u16 (IntKind.u16.wrap ((C.wordsC 1).wordV))) (by kernel_rfl) (congrArg (Value.int .u16) (iO (by omega))))<|Rt 9 l<|Rt 10 l<|R0 11 rfl<|cj k 3 (mG c 0 C.wordV ((C.wordsC 1).wordV) 0 0 0 0 0 0 0 0 nS nS nS nS 0 0 0 0 0 nS) fun Q E h=>?_
 refine bj ⟨(ah (b6 h n_bm_gm B) rfl),(ah (b6 h n_bc_gm D) rfl),(ah E rfl)⟩ fun R=>re<|rm (.tuple #[])<|?_
 exact⟨rfl,(ap.upd H h (aa hne aA) (ax (aY k (by decide)) aK)),E,(ui s (ui A (us f h)))⟩
theorem z0{g gm:Nat}{c:Int}{C:aj}{w:World}(hcode:B8 c)(hC:ap w g C)(hm:w.heap[gm]? = some (.cells (mC c) 30 (0,0)))(hne:g≠gm){bc:Nat}{bm:Nat}{bw:Nat}(hbc:w.heap[bc]? = some (.cells #[.pointer (some ⟨g,0,none⟩)] 113 (0,0)))(n_bc_g:bc≠g)(n_bc_gm:bc≠gm)(hbm:w.heap[bm]? = some (.cells #[.pointer (some ⟨gm,0,none⟩)] 161 (0,0)))(n_bm_g:bm≠g)(n_bm_gm:bm≠gm)(hbw:w.heap[bw]? = some (.cells #[.func (.func 236) #[] #[.pointer (some ⟨bc,0,none⟩),.pointer (some ⟨bm,0,none⟩)]] 239 (0,0)))(n_bw_g:bw≠g)(n_bw_gm:bw≠gm) :
    Calls Tryz.prog 238 #[.pointer (some ⟨bw,0,none⟩)] w (cP g gm (bL 125 c C).1 (bL 125 c C).2 w):=by
 obtain⟨hcode1,hcode2⟩:=hcode
 have hlen:=hC.len
 refine en 3 Tryz.func238 rfl<|go<|L0<|aP hbw 0<|L0<|gx #[] #[.pointer (some ⟨bc,0,none⟩),.pointer (some ⟨bm,0,none⟩)] (args:=#[.int .i64 125,.pointer (some ⟨bc,0,none⟩),.pointer (some ⟨bm,0,none⟩)])<|m3 (ir (most:=125) ⟨hcode1,hcode2⟩ hC hm hne hbc n_bc_g n_bc_gm hbm n_bm_g n_bm_gm) fun e a b d=>?_
 have f:=(hC).wordV
 have h:=bT (cT (hC).rng 1)
 refine nl<|rm (.tuple #[])<|?_
 have hs:bL 125 c C=((bJ (C.wordsC 1) C.wordV 125),(aQ.mk c 0 C.wordV ((C.wordsC 1).wordV) 0 0 0 0 0 0 0 0 [] [] [] [] 0 0 0 0 0 [])):=by
   unfold bL
   (try simp only[bs,if_true,if_false,decide_true,decide_false,reduceIte])
   all_goals rfl
 rw[hs]
 exact⟨rfl,a,⟨_,⟨b,rfl⟩,⟨_,_,_,_,_,rfl,aS.nil ..,aS.nil ..,aS.nil ..,aS.nil ..,aS.nil ..,⟨(b8 (x:=c) (by omega)),(b8 (x:=0) (by omega)),(aD (x:=C.wordV) (by omega)),(aD (x:=(C.wordsC 1).wordV) (by omega)),(aD (x:=0) (by omega)),(aD (x:=0) (by omega)),(aD (x:=0) (by omega)),(aD (x:=0) (by omega)),(aD (x:=0) (by omega)),(aD (x:=0) (by omega)),(aD (x:=0) (by omega)),(aD (x:=0) (by omega)),(b8 (x:=0) (by omega)),(b8 (x:=0) (by omega)),(b8 (x:=0) (by omega)),(b8 (x:=0) (by omega)),(b8 (x:=0) (by omega))⟩⟩⟩,d⟩
theorem yi{g gm:Nat}{c:Int}{C:aj}{w:World}(hcode:B8 c)(hC:ap w g C)(hm:w.heap[gm]? = some (.cells (mC c) 30 (0,0)))(hne:g≠gm){bc:Nat}{bm:Nat}(hbc:w.heap[bc]? = some (.cells #[.pointer (some ⟨g,0,none⟩)] 113 (0,0)))(n_bc_g:bc≠g)(n_bc_gm:bc≠gm)(hbm:w.heap[bm]? = some (.cells #[.pointer (some ⟨gm,0,none⟩)] 161 (0,0)))(n_bm_g:bm≠g)(n_bm_gm:bm≠gm) :
    Calls Tryz.prog 239 #[.pointer (some ⟨bc,0,none⟩),.pointer (some ⟨bm,0,none⟩)] w (cP g gm (bU c C).1 (bU c C).2 w):=by
 obtain⟨hcode1,hcode2⟩:=hcode
 have hlen:=hC.len
 refine en 26 Tryz.func239 rfl<|sg<|L0<|aP hbc 0<|L0<|Oc<|m3 (ch hC) fun N B k O=>L0<|Oi C.byteV<|Pl 1<|ng<|?_
 have l:=b6 k n_bc_g hbc
 refine L0<|aP l 0<|Pl 1<|L0<|Oe (.int .i64 (Int.tmod C.byteV 2)) (.int .i64 (C.byteV%2)) (congrArg (Value.int .i64) (Int.tmod_eq_emod_of_nonneg (by omega)))<|Pl 2<|cu 3 [10] 13 ((((C.byteV%2)==0)&&(decide (2≤C.byteV)))) (fun K m=>?_) ?_
 refine bl 10 (((C.byteV%2)==0)) (fun a=>?_) (fun a=>?_)
 have D:=ae a
 exact Pl 3<|ce m (decide (2≤C.byteV)) (by rw[a];rfl)
 have D:=ak a
 exact Pl 3<|ce m false (by rw[a];rfl)
 refine Pl 1<|cu 3 [14] 17 (((((C.byteV%2)==0)&&(decide (2≤C.byteV)))&&(decide (C.byteV≤250)))) (fun K o=>?_) ?_
 refine bl 14 ((((C.byteV%2)==0)&&(decide (2≤C.byteV)))) (fun b=>?_) (fun b=>?_)
 have E:=(aZ b).1
 have F:=(aZ b).2
 have P:=ae E
 have Q:=of_decide_eq_true F
 exact Pl 3<|ce o (decide (C.byteV≤250)) (by rw[b];rfl)
 exact Pl 3<|ce o false (by rw[b];rfl)
 refine L0<|Oc<|m2 (bg (((((C.byteV%2)==0)&&(decide (2≤C.byteV)))&&(decide (C.byteV≤250)))) 5 B) fun R G H=>nt<|Rg 8 (fun w'=>w'.cell? ⟨bm,0,none⟩=some (.pointer (some ⟨gm,0,none⟩))∧w'.cell? ⟨bc,0,none⟩=some (.pointer (some ⟨g,0,none⟩))) fun S p=>?_
 have q:=aG H p
 have i:=u1 k q im
 have r:=b6 i n_bm_g hbm
 have s:=b6 q n_bc_g l
 refine bj ⟨(ah r rfl),(ah s rfl)⟩ fun f=>Rl 0 f (fun _ hs=>hs.1)<|Rl 1 f (fun _ hs=>hs.2)<|Rt 2 f<|Rr 3 f (.int .i64 (C.byteV/2)) (fun _ _=>bZ (.int .i64 (IntKind.i64.wrap (Int.tdiv C.byteV 2))) (by kernel_rfl) (congrArg (Value.int .i64) (fU (by omega) (by omega))))<|?_
 refine R0 4 rfl<|Oc<|mS (eo (n:=(C.byteV/2)) (ap.old G p)) fun I J T t U V L j=>?_
 have u:=b6 j n_bm_g r
 have v:=b6 j n_bc_g s
 refine bj ⟨(ah u rfl),(ah v rfl)⟩ fun y=>Rt 5 y<|Rt 6 y<|?_
 have z:=u1 i j im
 have A:=b6 z (Ne.symm hne) hm
 refine R0 7 rfl<|cj A 12 (mG c 0 0 0 0 0 0 0 0 0 0 0 (.slice I ((((C.bytesC 1).need ((((C.byteV%2)==0)&&(decide (2≤C.byteV)))&&(decide (C.byteV≤250))) 5).wordsR (C.byteV/2)).length) J) nS nS nS 0 0 0 0 0 nS) fun W M d=>?_
 refine bj ⟨(ah (b6 d n_bm_gm u) rfl),(ah (b6 d n_bc_gm v) rfl)⟩ fun X=>re<|rm (.tuple #[])<|?_
 have hs:bU c C=((((C.bytesC 1).need ((((C.byteV%2)==0)&&(decide (2≤C.byteV)))&&(decide (C.byteV≤250))) 5).wordsC (C.byteV/2)),(aQ.mk c 0 0 0 0 0 0 0 0 0 0 0 (((C.bytesC 1).need ((((C.byteV%2)==0)&&(decide (2≤C.byteV)))&&(decide (C.byteV≤250))) 5).wordsR (C.byteV/2)) [] [] [] 0 0 0 0 0 [])):=by
   unfold bU jL i2
   (try simp only[bs,if_true,if_false,decide_true,decide_false,reduceIte])
   all_goals rfl
 rw[hs]
 exact⟨rfl,(ap.upd L d (aa hne aA) (ax (aY A (by decide)) aK)),⟨_,⟨M,rfl⟩,⟨_,_,_,_,_,rfl,((aq t d (fun x hx=>(aa (fun e=>(aB (au hm) i.size t) (e▸hx)) aA)) (fun _ _ h=>h))).rd,aS.nil ..,aS.nil ..,aS.nil ..,aS.nil ..,⟨(b8 (x:=c) (by omega)),(b8 (x:=0) (by omega)),(aD (x:=0) (by omega)),(aD (x:=0) (by omega)),(aD (x:=0) (by omega)),(aD (x:=0) (by omega)),(aD (x:=0) (by omega)),(aD (x:=0) (by omega)),(aD (x:=0) (by omega)),(aD (x:=0) (by omega)),(aD (x:=0) (by omega)),(aD (x:=0) (by omega)),(b8 (x:=0) (by omega)),(b8 (x:=0) (by omega)),(b8 (x:=0) (by omega)),(b8 (x:=0) (by omega)),(b8 (x:=0) (by omega))⟩⟩⟩,(us z d)⟩
theorem yW{g gm:Nat}{c:Int}{C:aj}{w:World}(hcode:B8 c)(hC:ap w g C)(hm:w.heap[gm]? = some (.cells (mC c) 30 (0,0)))(hne:g≠gm){bc:Nat}{bm:Nat}(hbc:w.heap[bc]? = some (.cells #[.pointer (some ⟨g,0,none⟩)] 113 (0,0)))(n_bc_g:bc≠g)(n_bc_gm:bc≠gm)(hbm:w.heap[bm]? = some (.cells #[.pointer (some ⟨gm,0,none⟩)] 161 (0,0)))(n_bm_g:bm≠g)(n_bm_gm:bm≠gm) :
    Calls Tryz.prog 240 #[.pointer (some ⟨bc,0,none⟩),.pointer (some ⟨bm,0,none⟩)] w (cP g gm (d8 c C).1 (d8 c C).2 w):=by
 obtain⟨hcode1,hcode2⟩:=hcode
 have hlen:=hC.len
 refine en 12 Tryz.func240 rfl<|Rg 12 (fun w'=>w'.cell? ⟨bm,0,none⟩=some (.pointer (some ⟨gm,0,none⟩))∧w'.cell? ⟨bc,0,none⟩=some (.pointer (some ⟨g,0,none⟩))) fun B a=>?_
 have i:=ub a hbm
 have j:=ub a hbc
 refine bj ⟨(ah i rfl),(ah j rfl)⟩ fun b=>Rl 0 b (fun _ hs=>hs.1)<|Rl 1 b (fun _ hs=>hs.1)<|Rl 2 b (fun _ hs=>hs.2)<|Rl 4 b (fun _ hs=>hs.2)<|?_
 refine R0 3 rfl<|Oc<|m3 (cg (ap.old hC a)) fun D v d E=>?_
 have k:=b6 d n_bm_g i
 have l:=b6 d n_bc_g j
 refine bj ⟨(ah k rfl),(ah l rfl)⟩ fun F=>R0 5 rfl<|Oc<|m3 (cg v) fun G y e H=>?_
 have m:=b6 e n_bm_g k
 have n:=b6 e n_bc_g l
 refine bj ⟨(ah m rfl),(ah n rfl)⟩ fun o=>Rt 6 o<|Rt 7 o<|?_
 have p:=uz a (u1 d e im)
 have q:=b6 p (Ne.symm hne) hm
 refine R0 8 rfl<|cj q 2 (mG c 0 C.wordV 0 0 0 0 0 0 0 0 0 nS nS nS nS 0 0 0 0 0 nS) fun I z f=>?_
 have r:=b6 f n_bm_gm m
 have s:=b6 f n_bc_gm n
 refine bj ⟨(ah r rfl),(ah s rfl)⟩ fun t=>Rt 9 t<|Rt 10 t<|R0 11 rfl<|cj z 4 (mG c 0 C.wordV 0 ((C.wordsC 1).wordV) 0 0 0 0 0 0 0 nS nS nS nS 0 0 0 0 0 nS) fun J A h=>?_
 refine bj ⟨(ah (b6 h n_bm_gm r) rfl),(ah (b6 h n_bc_gm s) rfl)⟩ fun K=>re<|rm (.tuple #[])<|?_
 have hs:d8 c C=(((C.wordsC 1).wordsC 1),(aQ.mk c 0 C.wordV 0 ((C.wordsC 1).wordV) 0 0 0 0 0 0 0 [] [] [] [] 0 0 0 0 0 [])):=by
   unfold d8
   (try simp only[bs,if_true,if_false,decide_true,decide_false,reduceIte])
   all_goals rfl
 rw[hs]
 have u:=u1 f h im
 exact⟨rfl,(ap.upd y u (aa hne aA) (ax (aY q (by decide)) aK)),⟨_,⟨A,rfl⟩,⟨_,_,_,_,_,rfl,aS.nil ..,aS.nil ..,aS.nil ..,aS.nil ..,aS.nil ..,⟨(b8 (x:=c) (by omega)),(b8 (x:=0) (by omega)),(aD (x:=C.wordV) (by omega)),(aD (x:=0) (by omega)),(aD (x:=(C.wordsC 1).wordV) (by omega)),(aD (x:=0) (by omega)),(aD (x:=0) (by omega)),(aD (x:=0) (by omega)),(aD (x:=0) (by omega)),(aD (x:=0) (by omega)),(aD (x:=0) (by omega)),(aD (x:=0) (by omega)),(b8 (x:=0) (by omega)),(b8 (x:=0) (by omega)),(b8 (x:=0) (by omega)),(b8 (x:=0) (by omega)),(b8 (x:=0) (by omega))⟩⟩⟩,(us p u)⟩
theorem yL{ask:Bool}{g gm:Nat}{c:Int}{C:aj}{w:World}(hcode:B8 c)(hC:ap w g C)(hm:w.heap[gm]? = some (.cells (mC c) 30 (0,0)))(hne:g≠gm){bc:Nat}{bm:Nat}{bw:Nat}{ba:Nat}(hbc:w.heap[bc]? = some (.cells #[.pointer (some ⟨g,0,none⟩)] 113 (0,0)))(n_bc_g:bc≠g)(n_bc_gm:bc≠gm)(hbm:w.heap[bm]? = some (.cells #[.pointer (some ⟨gm,0,none⟩)] 161 (0,0)))(n_bm_g:bm≠g)(n_bm_gm:bm≠gm)(hbw:w.heap[bw]? = some (.cells #[.func (.func 236) #[] #[.pointer (some ⟨bc,0,none⟩),.pointer (some ⟨bm,0,none⟩)]] 239 (0,0)))(n_bw_g:bw≠g)(n_bw_gm:bw≠gm)(hba:w.heap[ba]? = some (.cells #[.bool ask] 4 (0,0)))(n_ba_g:ba≠g)(n_ba_gm:ba≠gm)(hask:ask=true) :
    Calls Tryz.prog 241 #[.pointer (some ⟨bw,0,none⟩),.pointer (some ⟨ba,0,none⟩),.pointer (some ⟨bc,0,none⟩),.pointer (some ⟨bm,0,none⟩)] w (cP g gm (cA c C).1 (cA c C).2 w):=by
 obtain⟨hcode1,hcode2⟩:=hcode
 have hlen:=hC.len
 refine en 17 Tryz.func241 rfl<|sg<|L0<|aP hbw 0<|L0<|gx #[] #[.pointer (some ⟨bc,0,none⟩),.pointer (some ⟨bm,0,none⟩)] (args:=#[.int .i64 123,.pointer (some ⟨bc,0,none⟩),.pointer (some ⟨bm,0,none⟩)])<|m3 (ir (most:=123) ⟨hcode1,hcode2⟩ hC hm hne hbc n_bc_g n_bc_gm hbm n_bm_g n_bm_gm) fun B u v k=>?_
 have D:=(hC).wordV
 have E:=bT (cT (hC).rng 1)
 refine ng<|?_
 refine L0<|aP (aF.blk k (aa n_ba_g (aa n_ba_gm aA)) hba) 0<|nt<|ct hask<|Rg 11 (fun w'=>w'.cell? ⟨bm,0,none⟩=some (.pointer (some ⟨gm,0,none⟩))∧w'.cell? ⟨bc,0,none⟩=some (.pointer (some ⟨g,0,none⟩))∧w'.cell? ⟨gm,3,none⟩=some (.int .u16 ((C.wordsC 1).wordV))) fun F i=>?_
 have d:=aG k i
 have l:=aF.blk d (aa n_bm_g (aa n_bm_gm aA)) hbm
 have m:=aF.blk d (aa n_bc_g (aa n_bc_gm aA)) hbc
 have o:=ub i v
 refine bj ⟨(ah l rfl),(ah m rfl),(ah o rfl)⟩ fun a=>Rl 0 a (fun _ hs=>hs.1)<|Rl 1 a (fun _ hs=>hs.2.1)<|Rl 2 a (fun _ hs=>hs.1)<|Rt 3 a<|Rt 4 a<|Rl 5 a (fun _ hs=>hs.2.2)<|Rr 6 a (.int .i64 ((C.wordsC 1).wordV)) (fun _ _=>bZ (.int .i64 (IntKind.i64.wrap ((C.wordsC 1).wordV))) (by kernel_rfl) (congrArg (Value.int .i64) (i64_in (by omega))))<|?_
 refine R0 7 rfl<|Oc<|mS (jH (n:=(C.wordsC 1).wordV) (ap.old u i) (by omega)) fun y z G p H I A f=>?_
 have q:=b6 f n_bm_g l
 have r:=b6 f n_bc_g m
 have j:=b6 f (Ne.symm hne) o
 refine bj ⟨(ah q rfl),(ah r rfl),(ah j rfl)⟩ fun s=>Rt 8 s<|Rt 9 s<|R0 10 rfl<|cj j 12 (mG c 0 C.wordV ((C.wordsC 1).wordV) 0 0 0 0 0 0 0 0 (.slice y (((db (bJ (C.wordsC 1) C.wordV 123) ((C.wordsC 1).wordV)).wordsR ((C.wordsC 1).wordV)).length) z) nS nS nS 0 0 0 0 0 nS) fun J t b=>?_
 refine bj ⟨(ah (b6 b n_bm_gm q) rfl),(ah (b6 b n_bc_gm r) rfl),(ah t rfl)⟩ fun K=>re<|rm (.tuple #[])<|?_
 have hs:cA c C=(((db (bJ (C.wordsC 1) C.wordV 123) ((C.wordsC 1).wordV)).wordsC ((C.wordsC 1).wordV)),(aQ.mk c 0 C.wordV ((C.wordsC 1).wordV) 0 0 0 0 0 0 0 0 ((db (bJ (C.wordsC 1) C.wordV 123) ((C.wordsC 1).wordV)).wordsR ((C.wordsC 1).wordV)) [] [] [] 0 0 0 0 0 [])):=by
   unfold cA i3
   (try simp only[hask,bs,if_true,if_false,decide_true,decide_false,reduceIte])
   all_goals rfl
 rw[hs]
 exact⟨rfl,(ap.upd A b (aa hne aA) (ax (aY j (by decide)) aK)),⟨_,⟨t,rfl⟩,⟨_,_,_,_,_,rfl,((aq p b (fun x hx=>(aa (fun e=>(aB (au hm) d.size p) (e▸hx)) aA)) (fun _ _ h=>h))).rd,aS.nil ..,aS.nil ..,aS.nil ..,aS.nil ..,⟨(b8 (x:=c) (by omega)),(b8 (x:=0) (by omega)),(aD (x:=C.wordV) (by omega)),(aD (x:=(C.wordsC 1).wordV) (by omega)),(aD (x:=0) (by omega)),(aD (x:=0) (by omega)),(aD (x:=0) (by omega)),(aD (x:=0) (by omega)),(aD (x:=0) (by omega)),(aD (x:=0) (by omega)),(aD (x:=0) (by omega)),(aD (x:=0) (by omega)),(b8 (x:=0) (by omega)),(b8 (x:=0) (by omega)),(b8 (x:=0) (by omega)),(b8 (x:=0) (by omega)),(b8 (x:=0) (by omega))⟩⟩⟩,(ut d (us f b) (ac im (ac im av)))⟩
theorem yG{ask:Bool}{g gm:Nat}{c:Int}{C:aj}{w:World}(hcode:B8 c)(hC:ap w g C)(hm:w.heap[gm]? = some (.cells (mC c) 30 (0,0)))(hne:g≠gm){bc:Nat}{bm:Nat}{bw:Nat}{ba:Nat}(hbc:w.heap[bc]? = some (.cells #[.pointer (some ⟨g,0,none⟩)] 113 (0,0)))(n_bc_g:bc≠g)(n_bc_gm:bc≠gm)(hbm:w.heap[bm]? = some (.cells #[.pointer (some ⟨gm,0,none⟩)] 161 (0,0)))(n_bm_g:bm≠g)(n_bm_gm:bm≠gm)(hbw:w.heap[bw]? = some (.cells #[.func (.func 236) #[] #[.pointer (some ⟨bc,0,none⟩),.pointer (some ⟨bm,0,none⟩)]] 239 (0,0)))(n_bw_g:bw≠g)(n_bw_gm:bw≠gm)(hba:w.heap[ba]? = some (.cells #[.bool ask] 4 (0,0)))(n_ba_g:ba≠g)(n_ba_gm:ba≠gm)(hask:ask=false) :
    Calls Tryz.prog 241 #[.pointer (some ⟨bw,0,none⟩),.pointer (some ⟨ba,0,none⟩),.pointer (some ⟨bc,0,none⟩),.pointer (some ⟨bm,0,none⟩)] w (cP g gm (bL 123 c C).1 (bL 123 c C).2 w):=by
 obtain⟨hcode1,hcode2⟩:=hcode
 have hlen:=hC.len
 refine en 17 Tryz.func241 rfl<|sg<|L0<|aP hbw 0<|L0<|gx #[] #[.pointer (some ⟨bc,0,none⟩),.pointer (some ⟨bm,0,none⟩)] (args:=#[.int .i64 123,.pointer (some ⟨bc,0,none⟩),.pointer (some ⟨bm,0,none⟩)])<|m3 (ir (most:=123) ⟨hcode1,hcode2⟩ hC hm hne hbc n_bc_g n_bc_gm hbm n_bm_g n_bm_gm) fun e b d a=>?_
 have f:=(hC).wordV
 have h:=bT (cT (hC).rng 1)
 refine ng<|?_
 refine L0<|aP (aF.blk a (aa n_ba_g (aa n_ba_gm aA)) hba) 0<|nt<|cf hask<|sk<|rm (.tuple #[])<|?_
 have hs:bL 123 c C=((bJ (C.wordsC 1) C.wordV 123),(aQ.mk c 0 C.wordV ((C.wordsC 1).wordV) 0 0 0 0 0 0 0 0 [] [] [] [] 0 0 0 0 0 [])):=by
   unfold bL
   (try simp only[hask,bs,if_true,if_false,decide_true,decide_false,reduceIte])
   all_goals rfl
 rw[hs]
 exact⟨rfl,b,⟨_,⟨d,rfl⟩,⟨_,_,_,_,_,rfl,aS.nil ..,aS.nil ..,aS.nil ..,aS.nil ..,aS.nil ..,⟨(b8 (x:=c) (by omega)),(b8 (x:=0) (by omega)),(aD (x:=C.wordV) (by omega)),(aD (x:=(C.wordsC 1).wordV) (by omega)),(aD (x:=0) (by omega)),(aD (x:=0) (by omega)),(aD (x:=0) (by omega)),(aD (x:=0) (by omega)),(aD (x:=0) (by omega)),(aD (x:=0) (by omega)),(aD (x:=0) (by omega)),(aD (x:=0) (by omega)),(b8 (x:=0) (by omega)),(b8 (x:=0) (by omega)),(b8 (x:=0) (by omega)),(b8 (x:=0) (by omega)),(b8 (x:=0) (by omega))⟩⟩⟩,a⟩
theorem yY{g gm:Nat}{c:Int}{C:aj}{w:World}(hcode:B8 c)(hC:ap w g C)(hm:w.heap[gm]? = some (.cells (mC c) 30 (0,0)))(hne:g≠gm){bc:Nat}{bm:Nat}(hbc:w.heap[bc]? = some (.cells #[.pointer (some ⟨g,0,none⟩)] 113 (0,0)))(n_bc_g:bc≠g)(n_bc_gm:bc≠gm)(hbm:w.heap[bm]? = some (.cells #[.pointer (some ⟨gm,0,none⟩)] 161 (0,0)))(n_bm_g:bm≠g)(n_bm_gm:bm≠gm) :
    Calls Tryz.prog 243 #[.pointer (some ⟨bc,0,none⟩),.pointer (some ⟨bm,0,none⟩)] w (cP g gm (cm c C).1 (cm c C).2 w):=by
 obtain⟨hcode1,hcode2⟩:=hcode
 have hlen:=hC.len
 refine en 17 Tryz.func243 rfl<|Rg 18 (fun w'=>w'.cell? ⟨bm,0,none⟩=some (.pointer (some ⟨gm,0,none⟩))∧w'.cell? ⟨bc,0,none⟩=some (.pointer (some ⟨g,0,none⟩))) fun L b=>?_
 have k:=ub b hbm
 have l:=ub b hbc
 refine bj ⟨(ah k rfl),(ah l rfl)⟩ fun a=>Rl 0 a (fun _ hs=>hs.1)<|Rl 1 a (fun _ hs=>hs.1)<|Rl 2 a (fun _ hs=>hs.1)<|Rl 3 a (fun _ hs=>hs.2)<|Rl 5 a (fun _ hs=>hs.2)<|Rl 7 a (fun _ hs=>hs.2)<|?_
 refine R0 4 rfl<|Oc<|m3 (cg (ap.old hC b)) fun M F d N=>?_
 have m:=b6 d n_bm_g k
 have n:=b6 d n_bc_g l
 refine bj ⟨(ah m rfl),(ah n rfl)⟩ fun O=>R0 6 rfl<|Oc<|m3 (cg F) fun P G e Q=>?_
 have o:=b6 e n_bm_g m
 have p:=b6 e n_bc_g n
 refine bj ⟨(ah o rfl),(ah p rfl)⟩ fun R=>R0 8 rfl<|Oc<|m3 (cg G) fun S H f T=>?_
 have q:=b6 f n_bm_g o
 have r:=b6 f n_bc_g p
 refine bj ⟨(ah q rfl),(ah r rfl)⟩ fun s=>Rt 9 s<|Rt 10 s<|?_
 have t:=uz b (u1 d (u1 e f im) im)
 have u:=b6 t (Ne.symm hne) hm
 refine R0 11 rfl<|cj u 2 (mG c 0 C.wordV 0 0 0 0 0 0 0 0 0 nS nS nS nS 0 0 0 0 0 nS) fun U I h=>?_
 have v:=b6 h n_bm_gm q
 have y:=b6 h n_bc_gm r
 refine bj ⟨(ah v rfl),(ah y rfl)⟩ fun z=>Rt 12 z<|Rt 13 z<|R0 14 rfl<|cj I 5 (mG c 0 C.wordV 0 0 ((C.wordsC 1).wordV) 0 0 0 0 0 0 nS nS nS nS 0 0 0 0 0 nS) fun V J i=>?_
 have A:=b6 i n_bm_gm v
 have B:=b6 i n_bc_gm y
 refine bj ⟨(ah A rfl),(ah B rfl)⟩ fun D=>Rt 15 D<|Rt 16 D<|R0 17 rfl<|cj J 6 (mG c 0 C.wordV 0 0 ((C.wordsC 1).wordV) (((C.wordsC 1).wordsC 1).wordV) 0 0 0 0 0 nS nS nS nS 0 0 0 0 0 nS) fun W K j=>?_
 refine bj ⟨(ah (b6 j n_bm_gm A) rfl),(ah (b6 j n_bc_gm B) rfl)⟩ fun X=>re<|rm (.tuple #[])<|?_
 have hs:cm c C=((((C.wordsC 1).wordsC 1).wordsC 1),(aQ.mk c 0 C.wordV 0 0 ((C.wordsC 1).wordV) (((C.wordsC 1).wordsC 1).wordV) 0 0 0 0 0 [] [] [] [] 0 0 0 0 0 [])):=by
   unfold cm
   (try simp only[bs,if_true,if_false,decide_true,decide_false,reduceIte])
   all_goals rfl
 rw[hs]
 have E:=u1 h (u1 i j im) im
 exact⟨rfl,(ap.upd H E (aa hne aA) (ax (aY u (by decide)) aK)),⟨_,⟨K,rfl⟩,⟨_,_,_,_,_,rfl,aS.nil ..,aS.nil ..,aS.nil ..,aS.nil ..,aS.nil ..,⟨(b8 (x:=c) (by omega)),(b8 (x:=0) (by omega)),(aD (x:=C.wordV) (by omega)),(aD (x:=0) (by omega)),(aD (x:=0) (by omega)),(aD (x:=(C.wordsC 1).wordV) (by omega)),(aD (x:=((C.wordsC 1).wordsC 1).wordV) (by omega)),(aD (x:=0) (by omega)),(aD (x:=0) (by omega)),(aD (x:=0) (by omega)),(aD (x:=0) (by omega)),(aD (x:=0) (by omega)),(b8 (x:=0) (by omega)),(b8 (x:=0) (by omega)),(b8 (x:=0) (by omega)),(b8 (x:=0) (by omega)),(b8 (x:=0) (by omega))⟩⟩⟩,(us t E)⟩
theorem zh{g gm:Nat}{c:Int}{C:aj}{w:World}(hcode:B8 c)(hC:ap w g C)(hm:w.heap[gm]? = some (.cells (mC c) 30 (0,0)))(hne:g≠gm){bc:Nat}{bm:Nat}{bw:Nat}(hbc:w.heap[bc]? = some (.cells #[.pointer (some ⟨g,0,none⟩)] 113 (0,0)))(n_bc_g:bc≠g)(n_bc_gm:bc≠gm)(hbm:w.heap[bm]? = some (.cells #[.pointer (some ⟨gm,0,none⟩)] 161 (0,0)))(n_bm_g:bm≠g)(n_bm_gm:bm≠gm)(hbw:w.heap[bw]? = some (.cells #[.func (.func 236) #[] #[.pointer (some ⟨bc,0,none⟩),.pointer (some ⟨bm,0,none⟩)]] 239 (0,0)))(n_bw_g:bw≠g)(n_bw_gm:bw≠gm) :
    Calls Tryz.prog 244 #[.pointer (some ⟨bw,0,none⟩),.pointer (some ⟨bc,0,none⟩),.pointer (some ⟨bm,0,none⟩)] w (cP g gm (cE c C).1 (cE c C).2 w):=by
 obtain⟨hcode1,hcode2⟩:=hcode
 have hlen:=hC.len
 refine en 21 Tryz.func244 rfl<|sg<|L0<|aP hbw 0<|L0<|gx #[] #[.pointer (some ⟨bc,0,none⟩),.pointer (some ⟨bm,0,none⟩)] (args:=#[.int .i64 125,.pointer (some ⟨bc,0,none⟩),.pointer (some ⟨bm,0,none⟩)])<|m3 (ir (most:=125) ⟨hcode1,hcode2⟩ hC hm hne hbc n_bc_g n_bc_gm hbm n_bm_g n_bm_gm) fun X P Q q=>?_
 have Y:=(hC).wordV
 have Z:=bT (cT (hC).rng 1)
 refine nt<|sq<|Rg 6 (fun w'=>w'.cell? ⟨bm,0,none⟩=some (.pointer (some ⟨gm,0,none⟩))∧w'.cell? ⟨bc,0,none⟩=some (.pointer (some ⟨g,0,none⟩))) fun a0 k=>?_
 have o:=aG q k
 have r:=aF.blk o (aa n_bm_g (aa n_bm_gm aA)) hbm
 have s:=aF.blk o (aa n_bc_g (aa n_bc_gm aA)) hbc
 refine bj ⟨(ah r rfl),(ah s rfl)⟩ fun t=>Rl 0 t (fun _ hs=>hs.1)<|Rl 1 t (fun _ hs=>hs.2)<|?_
 refine R0 2 rfl<|Oc<|m3 (cg (ap.old P k)) fun a1 R d a2=>?_
 have u:=b6 d n_bm_g r
 have v:=b6 d n_bc_g s
 refine bj ⟨(ah u rfl),(ah v rfl)⟩ fun y=>Rt 3 y<|Rt 4 y<|?_
 have z:=b6 (uz k d) (Ne.symm hne) Q
 refine R0 5 rfl<|cj z 7 (mG c 0 C.wordV ((C.wordsC 1).wordV) 0 0 0 ((bJ (C.wordsC 1) C.wordV 125).wordV) 0 0 0 0 nS nS nS nS 0 0 0 0 0 nS) fun a3 S l=>?_
 have A:=b6 l n_bm_gm u
 have B:=b6 l n_bc_gm v
 refine bj ⟨(ah A rfl),(ah B rfl)⟩ fun a4=>re<|tn<|Rg 12 (fun w'=>w'.cell? ⟨bm,0,none⟩=some (.pointer (some ⟨gm,0,none⟩))∧w'.cell? ⟨bc,0,none⟩=some (.pointer (some ⟨g,0,none⟩))∧w'.cell? ⟨gm,7,none⟩=some (.int .u16 ((bJ (C.wordsC 1) C.wordV 125).wordV))) fun a5 f=>?_
 have D:=ub f A
 have E:=ub f B
 have F:=ub f S
 refine bj ⟨(ah D rfl),(ah E rfl),(ah F rfl)⟩ fun b=>Rl 0 b (fun _ hs=>hs.1)<|Rl 1 b (fun _ hs=>hs.2.1)<|Rl 2 b (fun _ hs=>hs.2.1)<|Rl 3 b (fun _ hs=>hs.1)<|Rt 4 b<|Rt 5 b<|Rl 6 b (fun _ hs=>hs.2.2)<|?_
 have G:=aG l f
 refine R0 7 rfl<|Oc<|m3 (ma (a:=(bJ (C.wordsC 1) C.wordV 125).wordV) (most:=121) (ap.upd R G (aa hne aA) (ax (aY z (by decide)) aK)) (by omega)) fun a6 T i a7=>?_
 have H:=b6 i n_bm_g D
 have I:=b6 i n_bc_g E
 have J:=b6 i (Ne.symm hne) F
 refine bj ⟨(ah H rfl),(ah I rfl),(ah J rfl)⟩ fun a8=>R0 8 rfl<|Oc<|mS (jH (n:=((bJ (C.wordsC 1) C.wordV 125).wordsC 1).wordV) T (by omega)) fun U V a9 K ab ad W m=>?_
 have L:=b6 m n_bm_g H
 have M:=b6 m n_bc_g I
 have p:=b6 m (Ne.symm hne) J
 refine bj ⟨(ah L rfl),(ah M rfl),(ah p rfl)⟩ fun N=>Rt 9 N<|Rt 10 N<|R0 11 rfl<|cj p 12 (mG c 0 C.wordV ((C.wordsC 1).wordV) 0 0 0 ((bJ (C.wordsC 1) C.wordV 125).wordV) 0 0 0 0 (.slice U (((db (bJ ((bJ (C.wordsC 1) C.wordV 125).wordsC 1) ((bJ (C.wordsC 1) C.wordV 125).wordV) 121) (((bJ (C.wordsC 1) C.wordV 125).wordsC 1).wordV)).wordsR (((bJ (C.wordsC 1) C.wordV 125).wordsC 1).wordV)).length) V) nS nS nS 0 0 0 0 0 nS) fun ae O j=>?_
 refine bj ⟨(ah (b6 j n_bm_gm L) rfl),(ah (b6 j n_bc_gm M) rfl),(ah O rfl)⟩ fun af=>re<|rm (.tuple #[])<|?_
 have hs:cE c C=(((db (bJ ((bJ (C.wordsC 1) C.wordV 125).wordsC 1) ((bJ (C.wordsC 1) C.wordV 125).wordV) 121) (((bJ (C.wordsC 1) C.wordV 125).wordsC 1).wordV)).wordsC (((bJ (C.wordsC 1) C.wordV 125).wordsC 1).wordV)),(aQ.mk c 0 C.wordV ((C.wordsC 1).wordV) 0 0 0 ((bJ (C.wordsC 1) C.wordV 125).wordV) 0 0 0 0 ((db (bJ ((bJ (C.wordsC 1) C.wordV 125).wordsC 1) ((bJ (C.wordsC 1) C.wordV 125).wordV) 121) (((bJ (C.wordsC 1) C.wordV 125).wordsC 1).wordV)).wordsR (((bJ (C.wordsC 1) C.wordV 125).wordsC 1).wordV)) [] [] [] 0 0 0 0 0 [])):=by
   unfold cE gP oD fH
   (try simp only[bs,if_true,if_false,decide_true,decide_false,reduceIte])
   all_goals rfl
 rw[hs]
 exact⟨rfl,(ap.upd W j (aa hne aA) (ax (aY p (by decide)) aK)),⟨_,⟨O,rfl⟩,⟨_,_,_,_,_,rfl,((aq K j (fun x hx=>(aa (fun e=>(aB (au hm) (le (le (le (le (le q.size k.size) d.size) l.size) f.size) i.size) K) (e▸hx)) aA)) (fun _ _ h=>h))).rd,aS.nil ..,aS.nil ..,aS.nil ..,aS.nil ..,⟨(b8 (x:=c) (by omega)),(b8 (x:=0) (by omega)),(aD (x:=C.wordV) (by omega)),(aD (x:=(C.wordsC 1).wordV) (by omega)),(aD (x:=0) (by omega)),(aD (x:=0) (by omega)),(aD (x:=0) (by omega)),(aD (x:=(bJ (C.wordsC 1) C.wordV 125).wordV) (by omega)),(aD (x:=0) (by omega)),(aD (x:=0) (by omega)),(aD (x:=0) (by omega)),(aD (x:=0) (by omega)),(b8 (x:=0) (by omega)),(b8 (x:=0) (by omega)),(b8 (x:=0) (by omega)),(b8 (x:=0) (by omega)),(b8 (x:=0) (by omega))⟩⟩⟩,(ut o (ui d (ui G (ui i (us m j)))) (ac im (ac im av)))⟩
theorem z9{g gm:Nat}{c:Int}{C:aj}{w:World}(hcode:B8 c)(hC:ap w g C)(hm:w.heap[gm]? = some (.cells (mC c) 30 (0,0)))(hne:g≠gm){bc:Nat}{bm:Nat}(hbc:w.heap[bc]? = some (.cells #[.pointer (some ⟨g,0,none⟩)] 113 (0,0)))(n_bc_g:bc≠g)(n_bc_gm:bc≠gm)(hbm:w.heap[bm]? = some (.cells #[.pointer (some ⟨gm,0,none⟩)] 161 (0,0)))(n_bm_g:bm≠g)(n_bm_gm:bm≠gm) :
    Calls Tryz.prog 245 #[.pointer (some ⟨bc,0,none⟩),.pointer (some ⟨bm,0,none⟩)] w (cP g gm (cC c C).1 (cC c C).2 w):=by
 obtain⟨hcode1,hcode2⟩:=hcode
 have hlen:=hC.len
 refine en 7 Tryz.func245 rfl<|Rg 6 (fun w'=>w'.cell? ⟨bm,0,none⟩=some (.pointer (some ⟨gm,0,none⟩))∧w'.cell? ⟨bc,0,none⟩=some (.pointer (some ⟨g,0,none⟩))) fun p a=>?_
 have e:=ub a hbm
 have f:=ub a hbc
 refine bj ⟨(ah e rfl),(ah f rfl)⟩ fun h=>Rl 0 h (fun _ hs=>hs.1)<|Rl 1 h (fun _ hs=>hs.2)<|?_
 refine R0 2 rfl<|Oc<|m3 (cg (ap.old hC a)) fun q n d r=>?_
 have i:=b6 d n_bm_g e
 have j:=b6 d n_bc_g f
 refine bj ⟨(ah i rfl),(ah j rfl)⟩ fun k=>Rt 3 k<|Rt 4 k<|?_
 have l:=uz a d
 have m:=b6 l (Ne.symm hne) hm
 refine R0 5 rfl<|cj m 2 (mG c 0 C.wordV 0 0 0 0 0 0 0 0 0 nS nS nS nS 0 0 0 0 0 nS) fun s o b=>?_
 refine bj ⟨(ah (b6 b n_bm_gm i) rfl),(ah (b6 b n_bc_gm j) rfl)⟩ fun t=>re<|rm (.tuple #[])<|?_
 have hs:cC c C=((C.wordsC 1),(aQ.mk c 0 C.wordV 0 0 0 0 0 0 0 0 0 [] [] [] [] 0 0 0 0 0 [])):=by
   unfold cC
   (try simp only[bs,if_true,if_false,decide_true,decide_false,reduceIte])
   all_goals rfl
 rw[hs]
 exact⟨rfl,(ap.upd n b (aa hne aA) (ax (aY m (by decide)) aK)),⟨_,⟨o,rfl⟩,⟨_,_,_,_,_,rfl,aS.nil ..,aS.nil ..,aS.nil ..,aS.nil ..,aS.nil ..,⟨(b8 (x:=c) (by omega)),(b8 (x:=0) (by omega)),(aD (x:=C.wordV) (by omega)),(aD (x:=0) (by omega)),(aD (x:=0) (by omega)),(aD (x:=0) (by omega)),(aD (x:=0) (by omega)),(aD (x:=0) (by omega)),(aD (x:=0) (by omega)),(aD (x:=0) (by omega)),(aD (x:=0) (by omega)),(aD (x:=0) (by omega)),(b8 (x:=0) (by omega)),(b8 (x:=0) (by omega)),(b8 (x:=0) (by omega)),(b8 (x:=0) (by omega)),(b8 (x:=0) (by omega))⟩⟩⟩,(us l b)⟩
theorem zb{g gm:Nat}{c:Int}{C:aj}{w:World}(hcode:B8 c)(hC:ap w g C)(hm:w.heap[gm]? = some (.cells (mC c) 30 (0,0)))(hne:g≠gm){bc:Nat}{bm:Nat}(hbc:w.heap[bc]? = some (.cells #[.pointer (some ⟨g,0,none⟩)] 113 (0,0)))(n_bc_g:bc≠g)(n_bc_gm:bc≠gm)(hbm:w.heap[bm]? = some (.cells #[.pointer (some ⟨gm,0,none⟩)] 161 (0,0)))(n_bm_g:bm≠g)(n_bm_gm:bm≠gm) :
    Calls Tryz.prog 246 #[.pointer (some ⟨bc,0,none⟩),.pointer (some ⟨bm,0,none⟩)] w (cP g gm (i6 c C).1 (i6 c C).2 w):=by
 obtain⟨hcode1,hcode2⟩:=hcode
 have hlen:=hC.len
 refine en 36 Tryz.func246 rfl<|sg<|L0<|aP hbc 0<|L0<|Oc<|m3 (cg hC) fun T G k U=>L0<|Oi C.wordV<|Pl 1<|ng<|?_
 have l:=b6 k n_bc_g hbc
 refine L0<|aP l 0<|Pl 1<|L0<|Oe (.int .i64 (Int.tmod C.wordV 2)) (.int .i64 (C.wordV%2)) (congrArg (Value.int .i64) (Int.tmod_eq_emod_of_nonneg (by omega)))<|Pl 2<|cu 3 [11] 14 ((((C.wordV%2)==0)&&(decide (2≤C.wordV)))) (fun K m=>?_) ?_
 refine bl 11 (((C.wordV%2)==0)) (fun a=>?_) (fun a=>?_)
 have H:=ae a
 exact Pl 3<|ce m (decide (2≤C.wordV)) (by rw[a];rfl)
 have H:=ak a
 exact Pl 3<|ce m false (by rw[a];rfl)
 refine Pl 1<|cu 3 [15] 18 (((((C.wordV%2)==0)&&(decide (2≤C.wordV)))&&(decide (C.wordV≤64)))) (fun K o=>?_) ?_
 refine bl 15 ((((C.wordV%2)==0)&&(decide (2≤C.wordV)))) (fun b=>?_) (fun b=>?_)
 have I:=(aZ b).1
 have J:=(aZ b).2
 have V:=ae I
 have W:=of_decide_eq_true J
 exact Pl 3<|ce o (decide (C.wordV≤64)) (by rw[b];rfl)
 exact Pl 3<|ce o false (by rw[b];rfl)
 refine L0<|Oc<|m2 (bg (((((C.wordV%2)==0)&&(decide (2≤C.wordV)))&&(decide (C.wordV≤64)))) 5 G) fun X L p=>ng<|?_
 have q:=b6 p n_bc_g l
 refine L0<|aP q 0<|L0<|Oc<|m3 (cg L) fun Y M r Z=>L0<|Oi (((C.wordsC 1).need ((((C.wordV%2)==0)&&(decide (2≤C.wordV)))&&(decide (C.wordV≤64))) 5).wordV)<|Pl 1<|ng<|?_
 have s:=b6 r n_bc_g q
 refine L0<|aP s 0<|Pl 1<|L0<|Oi (2*(((C.wordsC 1).need ((((C.wordV%2)==0)&&(decide (2≤C.wordV)))&&(decide (C.wordV≤64))) 5).wordV))<|L0<|Oi (2+(2*(((C.wordsC 1).need ((((C.wordV%2)==0)&&(decide (2≤C.wordV)))&&(decide (C.wordV≤64))) 5).wordV)))<|Pl 2<|L0<|Oc<|m2 (bg (((2+(2*(((C.wordsC 1).need ((((C.wordV%2)==0)&&(decide (2≤C.wordV)))&&(decide (C.wordV≤64))) 5).wordV)))==C.wordV)) 5 M) fun a0 N O=>nt<|Rg 7 (fun w'=>w'.cell? ⟨bm,0,none⟩=some (.pointer (some ⟨gm,0,none⟩))∧w'.cell? ⟨bc,0,none⟩=some (.pointer (some ⟨g,0,none⟩))) fun a1 t=>?_
 have u:=aG O t
 have f:=u1 k (u1 p (u1 r u im) im) im
 have v:=b6 f n_bm_g hbm
 have y:=b6 u n_bc_g s
 refine bj ⟨(ah v rfl),(ah y rfl)⟩ fun i=>Rl 0 i (fun _ hs=>hs.1)<|Rl 1 i (fun _ hs=>hs.2)<|Rt 2 i<|?_
 refine R0 3 rfl<|Oc<|mS (eo (n:=((C.wordsC 1).need ((((C.wordV%2)==0)&&(decide (2≤C.wordV)))&&(decide (C.wordV≤64))) 5).wordV) (ap.old N t)) fun P Q a2 z a3 a4 R j=>?_
 have A:=b6 j n_bm_g v
 have B:=b6 j n_bc_g y
 refine bj ⟨(ah A rfl),(ah B rfl)⟩ fun D=>Rt 4 D<|Rt 5 D<|?_
 have E:=u1 f j im
 have F:=b6 E (Ne.symm hne) hm
 refine R0 6 rfl<|cj F 12 (mG c 0 0 0 0 0 0 0 0 0 0 0 (.slice P ((((((C.wordsC 1).need ((((C.wordV%2)==0)&&(decide (2≤C.wordV)))&&(decide (C.wordV≤64))) 5).wordsC 1).need ((2+(2*(((C.wordsC 1).need ((((C.wordV%2)==0)&&(decide (2≤C.wordV)))&&(decide (C.wordV≤64))) 5).wordV)))==C.wordV) 5).wordsR (((C.wordsC 1).need ((((C.wordV%2)==0)&&(decide (2≤C.wordV)))&&(decide (C.wordV≤64))) 5).wordV)).length) Q) nS nS nS 0 0 0 0 0 nS) fun a5 S d=>?_
 refine bj ⟨(ah (b6 d n_bm_gm A) rfl),(ah (b6 d n_bc_gm B) rfl)⟩ fun a6=>re<|rm (.tuple #[])<|?_
 have hs:i6 c C=((((((C.wordsC 1).need ((((C.wordV%2)==0)&&(decide (2≤C.wordV)))&&(decide (C.wordV≤64))) 5).wordsC 1).need ((2+(2*(((C.wordsC 1).need ((((C.wordV%2)==0)&&(decide (2≤C.wordV)))&&(decide (C.wordV≤64))) 5).wordV)))==C.wordV) 5).wordsC (((C.wordsC 1).need ((((C.wordV%2)==0)&&(decide (2≤C.wordV)))&&(decide (C.wordV≤64))) 5).wordV)),(aQ.mk c 0 0 0 0 0 0 0 0 0 0 0 (((((C.wordsC 1).need ((((C.wordV%2)==0)&&(decide (2≤C.wordV)))&&(decide (C.wordV≤64))) 5).wordsC 1).need ((2+(2*(((C.wordsC 1).need ((((C.wordV%2)==0)&&(decide (2≤C.wordV)))&&(decide (C.wordV≤64))) 5).wordV)))==C.wordV) 5).wordsR (((C.wordsC 1).need ((((C.wordV%2)==0)&&(decide (2≤C.wordV)))&&(decide (C.wordV≤64))) 5).wordV)) [] [] [] 0 0 0 0 0 [])):=by
   unfold i6 vk qA i2
   (try simp only[bs,if_true,if_false,decide_true,decide_false,reduceIte])
   all_goals rfl
 rw[hs]
 exact⟨rfl,(ap.upd R d (aa hne aA) (ax (aY F (by decide)) aK)),⟨_,⟨S,rfl⟩,⟨_,_,_,_,_,rfl,((aq z d (fun x hx=>(aa (fun e=>(aB (au hm) f.size z) (e▸hx)) aA)) (fun _ _ h=>h))).rd,aS.nil ..,aS.nil ..,aS.nil ..,aS.nil ..,⟨(b8 (x:=c) (by omega)),(b8 (x:=0) (by omega)),(aD (x:=0) (by omega)),(aD (x:=0) (by omega)),(aD (x:=0) (by omega)),(aD (x:=0) (by omega)),(aD (x:=0) (by omega)),(aD (x:=0) (by omega)),(aD (x:=0) (by omega)),(aD (x:=0) (by omega)),(aD (x:=0) (by omega)),(aD (x:=0) (by omega)),(b8 (x:=0) (by omega)),(b8 (x:=0) (by omega)),(b8 (x:=0) (by omega)),(b8 (x:=0) (by omega)),(b8 (x:=0) (by omega))⟩⟩⟩,(us E d)⟩
open Go.RowKit
theorem qQ{g gm:Nat}{C:aj}{w:World}(hC:ap w g C)(hm:w.heap[gm]? = some (.cells (mC 3) 30 (0,0)))(hne:g≠gm) : Calls Tryz.prog 204 #[.int .i64 0,.pointer (some ⟨gm,0,none⟩),.pointer (some ⟨g,0,none⟩)] w (iI (fun W=>cP g gm (bL 125 3 C).1 (bL 125 3 C).2 W) w):=by
 refine en 67 Tryz.func204 rfl<|sg<|L0<|dv #[.pointer (some ⟨gm,0,none⟩)] fun n D f o a=>L0<|dv #[.pointer (some ⟨g,0,none⟩)] fun p E h q b=>Pl 1<|ng<|Pl 1<|L0<|bO #[.nilFunc] fun r F d s t=>L0<|cj s 0 #[.func (.func 236) #[] #[.pointer (some ⟨p,0,none⟩),.pointer (some ⟨n,0,none⟩)]] fun G u v=>nl<|?_
 refine tn<|sg<|Pl 2<|L0<|bO #[.bool false] fun H I x y z=>L0<|cj y 0 #[.bool true] fun J A B=>nt<|sq<|sg<|?_
 have i:=ud z B x
 have j:=ud t (aG v i) d
 have k:=aG b j
 have l:=ub k o
 refine L0<|aP l 0<|Pl 2<|?_
 have e:=aG a k
 have m:=ub e hm
 refine L0<|aP m 0<|Pl 1<|nt<|bk<|sg<|L0<|aP A 0<|Pl 9<|nt<|c1<|sg<|?_
 refine Pl 2<|nt<|rt<|br<|tr<|rr (.func (.func 238) #[] #[.pointer (some ⟨r,0,none⟩)])<|?_
 exact⟨_,_,rfl,by kernel_rfl,e,z0 (c:=3) ⟨by decide,by decide⟩ (ap.old hC e) m hne (ub j q) (Ne.symm (nb (ap.lt hC) a.size h)) (Ne.symm (nb (au hm) a.size h)) l (Ne.symm (nb (ap.lt hC) lr f)) (Ne.symm (nb (au hm) lr f)) (ub i u) (Ne.symm (nb (ap.lt hC) (le a.size b.size) d)) (Ne.symm (nb (au hm) (le a.size b.size) d))⟩
theorem ru{g gm:Nat}{C:aj}{w:World}(hC:ap w g C)(hm:w.heap[gm]? = some (.cells (mC 4) 30 (0,0)))(hne:g≠gm) : Calls Tryz.prog 204 #[.int .i64 0,.pointer (some ⟨gm,0,none⟩),.pointer (some ⟨g,0,none⟩)] w (iI (fun W=>cP g gm (bL 125 4 C).1 (bL 125 4 C).2 W) w):=by
 refine en 67 Tryz.func204 rfl<|sg<|L0<|dv #[.pointer (some ⟨gm,0,none⟩)] fun n D f o a=>L0<|dv #[.pointer (some ⟨g,0,none⟩)] fun p E h q b=>Pl 1<|ng<|Pl 1<|L0<|bO #[.nilFunc] fun r F d s t=>L0<|cj s 0 #[.func (.func 236) #[] #[.pointer (some ⟨p,0,none⟩),.pointer (some ⟨n,0,none⟩)]] fun G u v=>nl<|?_
 refine tn<|sg<|Pl 2<|L0<|bO #[.bool false] fun H I x y z=>L0<|cj y 0 #[.bool true] fun J A B=>nt<|sq<|sg<|?_
 have i:=ud z B x
 have j:=ud t (aG v i) d
 have k:=aG b j
 have l:=ub k o
 refine L0<|aP l 0<|Pl 2<|?_
 have e:=aG a k
 have m:=ub e hm
 refine L0<|aP m 0<|Pl 1<|nt<|bk<|sg<|L0<|aP A 0<|Pl 9<|nt<|c1<|sg<|?_
 refine Pl 2<|nt<|rt<|br<|tr<|rr (.func (.func 238) #[] #[.pointer (some ⟨r,0,none⟩)])<|?_
 exact⟨_,_,rfl,by kernel_rfl,e,z0 (c:=4) ⟨by decide,by decide⟩ (ap.old hC e) m hne (ub j q) (Ne.symm (nb (ap.lt hC) a.size h)) (Ne.symm (nb (au hm) a.size h)) l (Ne.symm (nb (ap.lt hC) lr f)) (Ne.symm (nb (au hm) lr f)) (ub i u) (Ne.symm (nb (ap.lt hC) (le a.size b.size) d)) (Ne.symm (nb (au hm) (le a.size b.size) d))⟩
theorem s3{g gm:Nat}{C:aj}{w:World}(hC:ap w g C)(hm:w.heap[gm]? = some (.cells (mC 3) 30 (0,0)))(hne:g≠gm) : Calls Tryz.prog 204 #[.int .i64 1,.pointer (some ⟨gm,0,none⟩),.pointer (some ⟨g,0,none⟩)] w (iI (fun W=>cP g gm (bU 3 C).1 (bU 3 C).2 W) w):=by
 refine en 67 Tryz.func204 rfl<|sg<|L0<|dv #[.pointer (some ⟨gm,0,none⟩)] fun d z e m a=>L0<|dv #[.pointer (some ⟨g,0,none⟩)] fun f A h n o=>Pl 1<|ng<|Pl 1<|L0<|bO #[.nilFunc] fun B D p q r=>L0<|cj q 0 #[.func (.func 236) #[] #[.pointer (some ⟨f,0,none⟩),.pointer (some ⟨d,0,none⟩)]] fun E F s=>nl<|?_
 refine tn<|sg<|Pl 2<|L0<|bO #[.bool false] fun G H t u v=>L0<|cj u 0 #[.bool false] fun I x y=>nt<|sq<|sg<|?_
 have i:=ud r (aG s (ud v y t)) p
 have j:=aG o i
 have k:=ub j m
 refine L0<|aP k 0<|Pl 2<|?_
 have b:=aG a j
 have l:=ub b hm
 refine L0<|aP l 0<|Pl 1<|nt<|bk<|sg<|L0<|aP x 0<|Pl 9<|nt<|c0<|sq<|sq<|?_
 refine go<|Pl 3<|nt<|c1<|bp<|c1<|sg<|Pl 2<|nt<|rt<|?_
 refine br<|tr<|rr (.func (.func 239) #[] #[.pointer (some ⟨f,0,none⟩),.pointer (some ⟨d,0,none⟩)])<|?_
 exact⟨_,_,rfl,by kernel_rfl,b,yi (c:=3) ⟨by decide,by decide⟩ (ap.old hC b) l hne (ub i n) (Ne.symm (nb (ap.lt hC) a.size h)) (Ne.symm (nb (au hm) a.size h)) k (Ne.symm (nb (ap.lt hC) lr e)) (Ne.symm (nb (au hm) lr e))⟩
theorem rC{g gm:Nat}{C:aj}{w:World}(hC:ap w g C)(hm:w.heap[gm]? = some (.cells (mC 4) 30 (0,0)))(hne:g≠gm) : Calls Tryz.prog 204 #[.int .i64 1,.pointer (some ⟨gm,0,none⟩),.pointer (some ⟨g,0,none⟩)] w (iI (fun W=>cP g gm (bU 4 C).1 (bU 4 C).2 W) w):=by
 refine en 67 Tryz.func204 rfl<|sg<|L0<|dv #[.pointer (some ⟨gm,0,none⟩)] fun d z e m a=>L0<|dv #[.pointer (some ⟨g,0,none⟩)] fun f A h n o=>Pl 1<|ng<|Pl 1<|L0<|bO #[.nilFunc] fun B D p q r=>L0<|cj q 0 #[.func (.func 236) #[] #[.pointer (some ⟨f,0,none⟩),.pointer (some ⟨d,0,none⟩)]] fun E F s=>nl<|?_
 refine tn<|sg<|Pl 2<|L0<|bO #[.bool false] fun G H t u v=>L0<|cj u 0 #[.bool false] fun I x y=>nt<|sq<|sg<|?_
 have i:=ud r (aG s (ud v y t)) p
 have j:=aG o i
 have k:=ub j m
 refine L0<|aP k 0<|Pl 2<|?_
 have b:=aG a j
 have l:=ub b hm
 refine L0<|aP l 0<|Pl 1<|nt<|bk<|sg<|L0<|aP x 0<|Pl 9<|nt<|c0<|sq<|sq<|?_
 refine go<|Pl 3<|nt<|c0<|sg<|Pl 3<|nt<|c1<|bp<|c1<|?_
 refine sg<|Pl 2<|nt<|rt<|br<|tr<|rr (.func (.func 239) #[] #[.pointer (some ⟨f,0,none⟩),.pointer (some ⟨d,0,none⟩)])<|?_
 exact⟨_,_,rfl,by kernel_rfl,b,yi (c:=4) ⟨by decide,by decide⟩ (ap.old hC b) l hne (ub i n) (Ne.symm (nb (ap.lt hC) a.size h)) (Ne.symm (nb (au hm) a.size h)) k (Ne.symm (nb (ap.lt hC) lr e)) (Ne.symm (nb (au hm) lr e))⟩
theorem qZ{g gm:Nat}{C:aj}{w:World}(hC:ap w g C)(hm:w.heap[gm]? = some (.cells (mC 6) 30 (0,0)))(hne:g≠gm) : Calls Tryz.prog 204 #[.int .i64 0,.pointer (some ⟨gm,0,none⟩),.pointer (some ⟨g,0,none⟩)] w (iI (fun W=>cP g gm (d8 6 C).1 (d8 6 C).2 W) w):=by
 refine en 67 Tryz.func204 rfl<|sg<|L0<|dv #[.pointer (some ⟨gm,0,none⟩)] fun d z e m a=>L0<|dv #[.pointer (some ⟨g,0,none⟩)] fun f A h n o=>Pl 1<|ng<|Pl 1<|L0<|bO #[.nilFunc] fun B D p q r=>L0<|cj q 0 #[.func (.func 236) #[] #[.pointer (some ⟨f,0,none⟩),.pointer (some ⟨d,0,none⟩)]] fun E F s=>nl<|?_
 refine tn<|sg<|Pl 2<|L0<|bO #[.bool false] fun G H t u v=>L0<|cj u 0 #[.bool true] fun I x y=>nt<|sq<|sg<|?_
 have i:=ud r (aG s (ud v y t)) p
 have j:=aG o i
 have k:=ub j m
 refine L0<|aP k 0<|Pl 2<|?_
 have b:=aG a j
 have l:=ub b hm
 refine L0<|aP l 0<|Pl 1<|nt<|bk<|sg<|L0<|aP x 0<|Pl 9<|nt<|c0<|sq<|sq<|?_
 refine go<|Pl 3<|nt<|c0<|sg<|Pl 3<|nt<|c0<|go<|Pl 7<|nl<|?_
 refine tn<|c0<|sg<|Pl 3<|nt<|c1<|sg<|Pl 2<|nt<|rt<|?_
 refine br<|tr<|rr (.func (.func 240) #[] #[.pointer (some ⟨f,0,none⟩),.pointer (some ⟨d,0,none⟩)])<|?_
 exact⟨_,_,rfl,by kernel_rfl,b,yW (c:=6) ⟨by decide,by decide⟩ (ap.old hC b) l hne (ub i n) (Ne.symm (nb (ap.lt hC) a.size h)) (Ne.symm (nb (au hm) a.size h)) k (Ne.symm (nb (ap.lt hC) lr e)) (Ne.symm (nb (au hm) lr e))⟩
theorem rN{g gm:Nat}{C:aj}{w:World}(hC:ap w g C)(hm:w.heap[gm]? = some (.cells (mC 6) 30 (0,0)))(hne:g≠gm) : Calls Tryz.prog 204 #[.int .i64 1,.pointer (some ⟨gm,0,none⟩),.pointer (some ⟨g,0,none⟩)] w (iI (fun W=>cP g gm (d8 6 C).1 (d8 6 C).2 W) w):=by
 refine en 67 Tryz.func204 rfl<|sg<|L0<|dv #[.pointer (some ⟨gm,0,none⟩)] fun d z e m a=>L0<|dv #[.pointer (some ⟨g,0,none⟩)] fun f A h n o=>Pl 1<|ng<|Pl 1<|L0<|bO #[.nilFunc] fun B D p q r=>L0<|cj q 0 #[.func (.func 236) #[] #[.pointer (some ⟨f,0,none⟩),.pointer (some ⟨d,0,none⟩)]] fun E F s=>nl<|?_
 refine tn<|sg<|Pl 2<|L0<|bO #[.bool false] fun G H t u v=>L0<|cj u 0 #[.bool false] fun I x y=>nt<|sq<|sg<|?_
 have i:=ud r (aG s (ud v y t)) p
 have j:=aG o i
 have k:=ub j m
 refine L0<|aP k 0<|Pl 2<|?_
 have b:=aG a j
 have l:=ub b hm
 refine L0<|aP l 0<|Pl 1<|nt<|bk<|sg<|L0<|aP x 0<|Pl 9<|nt<|c0<|sq<|sq<|?_
 refine go<|Pl 3<|nt<|c0<|sg<|Pl 3<|nt<|c0<|go<|Pl 7<|nl<|?_
 refine tn<|c0<|sg<|Pl 3<|nt<|c1<|sg<|Pl 2<|nt<|rt<|?_
 refine br<|tr<|rr (.func (.func 240) #[] #[.pointer (some ⟨f,0,none⟩),.pointer (some ⟨d,0,none⟩)])<|?_
 exact⟨_,_,rfl,by kernel_rfl,b,yW (c:=6) ⟨by decide,by decide⟩ (ap.old hC b) l hne (ub i n) (Ne.symm (nb (ap.lt hC) a.size h)) (Ne.symm (nb (au hm) a.size h)) k (Ne.symm (nb (ap.lt hC) lr e)) (Ne.symm (nb (au hm) lr e))⟩
theorem pY{g gm:Nat}{C:aj}{w:World}(hC:ap w g C)(hm:w.heap[gm]? = some (.cells (mC 16) 30 (0,0)))(hne:g≠gm) : Calls Tryz.prog 204 #[.int .i64 0,.pointer (some ⟨gm,0,none⟩),.pointer (some ⟨g,0,none⟩)] w (iI (fun W=>cP g gm (cA 16 C).1 (cA 16 C).2 W) w):=by
 refine en 67 Tryz.func204 rfl<|sg<|L0<|dv #[.pointer (some ⟨gm,0,none⟩)] fun j E k t a=>L0<|dv #[.pointer (some ⟨g,0,none⟩)] fun l F m u b=>Pl 1<|ng<|Pl 1<|L0<|bO #[.nilFunc] fun v G d x e=>L0<|cj x 0 #[.func (.func 236) #[] #[.pointer (some ⟨l,0,none⟩),.pointer (some ⟨j,0,none⟩)]] fun H y f=>nl<|?_
 refine tn<|sg<|Pl 2<|L0<|bO #[.bool false] fun z I h A B=>L0<|cj A 0 #[.bool true] fun J n D=>nt<|sq<|sg<|?_
 have o:=ud B D h
 have p:=ud e (aG f o) d
 have q:=aG b p
 have r:=ub q t
 refine L0<|aP r 0<|Pl 2<|?_
 have i:=aG a q
 have s:=ub i hm
 refine L0<|aP s 0<|Pl 1<|nt<|bk<|sg<|L0<|aP n 0<|Pl 9<|nt<|c0<|sq<|sq<|?_
 refine go<|Pl 3<|nt<|c0<|sg<|Pl 3<|nt<|c0<|go<|Pl 7<|nl<|?_
 refine tn<|c0<|sg<|Pl 3<|nt<|c0<|sg<|Pl 3<|nt<|c1<|?_
 refine sg<|Pl 2<|nt<|rt<|br<|tr<|rr (.func (.func 241) #[] #[.pointer (some ⟨v,0,none⟩),.pointer (some ⟨z,0,none⟩),.pointer (some ⟨l,0,none⟩),.pointer (some ⟨j,0,none⟩)])<|?_
 exact⟨_,_,rfl,by kernel_rfl,i,yL (c:=16) ⟨by decide,by decide⟩ (ap.old hC i) s hne (ub p u) (Ne.symm (nb (ap.lt hC) a.size m)) (Ne.symm (nb (au hm) a.size m)) r (Ne.symm (nb (ap.lt hC) lr k)) (Ne.symm (nb (au hm) lr k)) (ub o y) (Ne.symm (nb (ap.lt hC) (le a.size b.size) d)) (Ne.symm (nb (au hm) (le a.size b.size) d)) n (Ne.symm (nb (ap.lt hC) (le (le (le a.size b.size) e.size) f.size) h)) (Ne.symm (nb (au hm) (le (le (le a.size b.size) e.size) f.size) h)) rfl⟩
theorem pS{g gm:Nat}{C:aj}{w:World}(hC:ap w g C)(hm:w.heap[gm]? = some (.cells (mC 16) 30 (0,0)))(hne:g≠gm) : Calls Tryz.prog 204 #[.int .i64 1,.pointer (some ⟨gm,0,none⟩),.pointer (some ⟨g,0,none⟩)] w (iI (fun W=>cP g gm (bL 123 16 C).1 (bL 123 16 C).2 W) w):=by
 refine en 67 Tryz.func204 rfl<|sg<|L0<|dv #[.pointer (some ⟨gm,0,none⟩)] fun j E k t a=>L0<|dv #[.pointer (some ⟨g,0,none⟩)] fun l F m u b=>Pl 1<|ng<|Pl 1<|L0<|bO #[.nilFunc] fun v G d x e=>L0<|cj x 0 #[.func (.func 236) #[] #[.pointer (some ⟨l,0,none⟩),.pointer (some ⟨j,0,none⟩)]] fun H y f=>nl<|?_
 refine tn<|sg<|Pl 2<|L0<|bO #[.bool false] fun z I h A B=>L0<|cj A 0 #[.bool false] fun J n D=>nt<|sq<|sg<|?_
 have o:=ud B D h
 have p:=ud e (aG f o) d
 have q:=aG b p
 have r:=ub q t
 refine L0<|aP r 0<|Pl 2<|?_
 have i:=aG a q
 have s:=ub i hm
 refine L0<|aP s 0<|Pl 1<|nt<|bk<|sg<|L0<|aP n 0<|Pl 9<|nt<|c0<|sq<|sq<|?_
 refine go<|Pl 3<|nt<|c0<|sg<|Pl 3<|nt<|c0<|go<|Pl 7<|nl<|?_
 refine tn<|c0<|sg<|Pl 3<|nt<|c0<|sg<|Pl 3<|nt<|c1<|?_
 refine sg<|Pl 2<|nt<|rt<|br<|tr<|rr (.func (.func 241) #[] #[.pointer (some ⟨v,0,none⟩),.pointer (some ⟨z,0,none⟩),.pointer (some ⟨l,0,none⟩),.pointer (some ⟨j,0,none⟩)])<|?_
 exact⟨_,_,rfl,by kernel_rfl,i,yG (c:=16) ⟨by decide,by decide⟩ (ap.old hC i) s hne (ub p u) (Ne.symm (nb (ap.lt hC) a.size m)) (Ne.symm (nb (au hm) a.size m)) r (Ne.symm (nb (ap.lt hC) lr k)) (Ne.symm (nb (au hm) lr k)) (ub o y) (Ne.symm (nb (ap.lt hC) (le a.size b.size) d)) (Ne.symm (nb (au hm) (le a.size b.size) d)) n (Ne.symm (nb (ap.lt hC) (le (le (le a.size b.size) e.size) f.size) h)) (Ne.symm (nb (au hm) (le (le (le a.size b.size) e.size) f.size) h)) rfl⟩
theorem pj{g gm:Nat}{C:aj}{w:World}(hC:ap w g C)(hm:w.heap[gm]? = some (.cells (mC 22) 30 (0,0)))(hne:g≠gm) : Calls Tryz.prog 204 #[.int .i64 0,.pointer (some ⟨gm,0,none⟩),.pointer (some ⟨g,0,none⟩)] w (iI (fun W=>cP g gm (cm 22 C).1 (cm 22 C).2 W) w):=by
 refine en 67 Tryz.func204 rfl<|sg<|L0<|dv #[.pointer (some ⟨gm,0,none⟩)] fun d z e m a=>L0<|dv #[.pointer (some ⟨g,0,none⟩)] fun f A h n o=>Pl 1<|ng<|Pl 1<|L0<|bO #[.nilFunc] fun B D p q r=>L0<|cj q 0 #[.func (.func 236) #[] #[.pointer (some ⟨f,0,none⟩),.pointer (some ⟨d,0,none⟩)]] fun E F s=>nl<|?_
 refine tn<|sg<|Pl 2<|L0<|bO #[.bool false] fun G H t u v=>L0<|cj u 0 #[.bool true] fun I x y=>nt<|sq<|sg<|?_
 have i:=ud r (aG s (ud v y t)) p
 have j:=aG o i
 have k:=ub j m
 refine L0<|aP k 0<|Pl 2<|?_
 have b:=aG a j
 have l:=ub b hm
 refine L0<|aP l 0<|Pl 1<|nt<|bk<|sg<|L0<|aP x 0<|Pl 9<|nt<|c0<|sq<|sq<|?_
 refine go<|Pl 3<|nt<|c0<|sg<|Pl 3<|nt<|c0<|go<|Pl 7<|nl<|?_
 refine tn<|c0<|sg<|Pl 3<|nt<|c0<|sg<|Pl 3<|nt<|c0<|?_
 refine sg<|Pl 3<|nt<|c1<|sg<|Pl 2<|nt<|rt<|br<|tr<|?_
 refine rr (.func (.func 243) #[] #[.pointer (some ⟨f,0,none⟩),.pointer (some ⟨d,0,none⟩)])<|?_
 exact⟨_,_,rfl,by kernel_rfl,b,yY (c:=22) ⟨by decide,by decide⟩ (ap.old hC b) l hne (ub i n) (Ne.symm (nb (ap.lt hC) a.size h)) (Ne.symm (nb (au hm) a.size h)) k (Ne.symm (nb (ap.lt hC) lr e)) (Ne.symm (nb (au hm) lr e))⟩
theorem pF{g gm:Nat}{C:aj}{w:World}(hC:ap w g C)(hm:w.heap[gm]? = some (.cells (mC 22) 30 (0,0)))(hne:g≠gm) : Calls Tryz.prog 204 #[.int .i64 1,.pointer (some ⟨gm,0,none⟩),.pointer (some ⟨g,0,none⟩)] w (iI (fun W=>cP g gm (cm 22 C).1 (cm 22 C).2 W) w):=by
 refine en 67 Tryz.func204 rfl<|sg<|L0<|dv #[.pointer (some ⟨gm,0,none⟩)] fun d z e m a=>L0<|dv #[.pointer (some ⟨g,0,none⟩)] fun f A h n o=>Pl 1<|ng<|Pl 1<|L0<|bO #[.nilFunc] fun B D p q r=>L0<|cj q 0 #[.func (.func 236) #[] #[.pointer (some ⟨f,0,none⟩),.pointer (some ⟨d,0,none⟩)]] fun E F s=>nl<|?_
 refine tn<|sg<|Pl 2<|L0<|bO #[.bool false] fun G H t u v=>L0<|cj u 0 #[.bool false] fun I x y=>nt<|sq<|sg<|?_
 have i:=ud r (aG s (ud v y t)) p
 have j:=aG o i
 have k:=ub j m
 refine L0<|aP k 0<|Pl 2<|?_
 have b:=aG a j
 have l:=ub b hm
 refine L0<|aP l 0<|Pl 1<|nt<|bk<|sg<|L0<|aP x 0<|Pl 9<|nt<|c0<|sq<|sq<|?_
 refine go<|Pl 3<|nt<|c0<|sg<|Pl 3<|nt<|c0<|go<|Pl 7<|nl<|?_
 refine tn<|c0<|sg<|Pl 3<|nt<|c0<|sg<|Pl 3<|nt<|c0<|?_
 refine sg<|Pl 3<|nt<|c1<|sg<|Pl 2<|nt<|rt<|br<|tr<|?_
 refine rr (.func (.func 243) #[] #[.pointer (some ⟨f,0,none⟩),.pointer (some ⟨d,0,none⟩)])<|?_
 exact⟨_,_,rfl,by kernel_rfl,b,yY (c:=22) ⟨by decide,by decide⟩ (ap.old hC b) l hne (ub i n) (Ne.symm (nb (ap.lt hC) a.size h)) (Ne.symm (nb (au hm) a.size h)) k (Ne.symm (nb (ap.lt hC) lr e)) (Ne.symm (nb (au hm) lr e))⟩
theorem pL{g gm:Nat}{C:aj}{w:World}(hC:ap w g C)(hm:w.heap[gm]? = some (.cells (mC 23) 30 (0,0)))(hne:g≠gm) : Calls Tryz.prog 204 #[.int .i64 0,.pointer (some ⟨gm,0,none⟩),.pointer (some ⟨g,0,none⟩)] w (iI (fun W=>cP g gm (cE 23 C).1 (cE 23 C).2 W) w):=by
 refine en 67 Tryz.func204 rfl<|sg<|L0<|dv #[.pointer (some ⟨gm,0,none⟩)] fun f D h q a=>L0<|dv #[.pointer (some ⟨g,0,none⟩)] fun i E j r b=>Pl 1<|ng<|Pl 1<|L0<|bO #[.nilFunc] fun s F d t u=>L0<|cj t 0 #[.func (.func 236) #[] #[.pointer (some ⟨i,0,none⟩),.pointer (some ⟨f,0,none⟩)]] fun G v x=>nl<|?_
 refine tn<|sg<|Pl 2<|L0<|bO #[.bool false] fun H I y z A=>L0<|cj z 0 #[.bool true] fun J k B=>nt<|sq<|sg<|?_
 have l:=ud A B y
 have m:=ud u (aG x l) d
 have n:=aG b m
 have o:=ub n q
 refine L0<|aP o 0<|Pl 2<|?_
 have e:=aG a n
 have p:=ub e hm
 refine L0<|aP p 0<|Pl 1<|nt<|bk<|sg<|L0<|aP k 0<|Pl 9<|nt<|c0<|sq<|sq<|?_
 refine go<|Pl 3<|nt<|c0<|sg<|Pl 3<|nt<|c0<|go<|Pl 3<|L1<|aP k 0<|?_
 refine Pl 3<|nt<|c0<|sg<|Pl 3<|nt<|c0<|sg<|Pl 3<|nl<|?_
 refine tn<|c0<|sg<|Pl 3<|nt<|c0<|sg<|Pl 3<|nt<|c1<|?_
 refine sg<|Pl 2<|nt<|rt<|br<|tr<|rr (.func (.func 244) #[] #[.pointer (some ⟨s,0,none⟩),.pointer (some ⟨i,0,none⟩),.pointer (some ⟨f,0,none⟩)])<|?_
 exact⟨_,_,rfl,by kernel_rfl,e,zh (c:=23) ⟨by decide,by decide⟩ (ap.old hC e) p hne (ub m r) (Ne.symm (nb (ap.lt hC) a.size j)) (Ne.symm (nb (au hm) a.size j)) o (Ne.symm (nb (ap.lt hC) lr h)) (Ne.symm (nb (au hm) lr h)) (ub l v) (Ne.symm (nb (ap.lt hC) (le a.size b.size) d)) (Ne.symm (nb (au hm) (le a.size b.size) d))⟩
theorem pC{g gm:Nat}{C:aj}{w:World}(hC:ap w g C)(hm:w.heap[gm]? = some (.cells (mC 23) 30 (0,0)))(hne:g≠gm) : Calls Tryz.prog 204 #[.int .i64 1,.pointer (some ⟨gm,0,none⟩),.pointer (some ⟨g,0,none⟩)] w (iI (fun W=>cP g gm (bU 23 C).1 (bU 23 C).2 W) w):=by
 refine en 67 Tryz.func204 rfl<|sg<|L0<|dv #[.pointer (some ⟨gm,0,none⟩)] fun d z e n a=>L0<|dv #[.pointer (some ⟨g,0,none⟩)] fun f A h o p=>Pl 1<|ng<|Pl 1<|L0<|bO #[.nilFunc] fun B D q r s=>L0<|cj r 0 #[.func (.func 236) #[] #[.pointer (some ⟨f,0,none⟩),.pointer (some ⟨d,0,none⟩)]] fun E F t=>nl<|?_
 refine tn<|sg<|Pl 2<|L0<|bO #[.bool false] fun G H u v x=>L0<|cj v 0 #[.bool false] fun I i y=>nt<|sq<|sg<|?_
 have j:=ud s (aG t (ud x y u)) q
 have k:=aG p j
 have l:=ub k n
 refine L0<|aP l 0<|Pl 2<|?_
 have b:=aG a k
 have m:=ub b hm
 refine L0<|aP m 0<|Pl 1<|nt<|bk<|sg<|L0<|aP i 0<|Pl 9<|nt<|c0<|sq<|sq<|?_
 refine go<|Pl 3<|nt<|c0<|sg<|Pl 3<|nt<|c0<|go<|Pl 3<|L1<|aP i 0<|?_
 refine Pl 3<|nt<|c1<|sg<|Pl 2<|nt<|rt<|br<|tr<|rr (.func (.func 239) #[] #[.pointer (some ⟨f,0,none⟩),.pointer (some ⟨d,0,none⟩)])<|?_
 exact⟨_,_,rfl,by kernel_rfl,b,yi (c:=23) ⟨by decide,by decide⟩ (ap.old hC b) m hne (ub j o) (Ne.symm (nb (ap.lt hC) a.size h)) (Ne.symm (nb (au hm) a.size h)) l (Ne.symm (nb (ap.lt hC) lr e)) (Ne.symm (nb (au hm) lr e))⟩
theorem p5{g gm:Nat}{C:aj}{w:World}(hC:ap w g C)(hm:w.heap[gm]? = some (.cells (mC 24) 30 (0,0)))(hne:g≠gm) : Calls Tryz.prog 204 #[.int .i64 0,.pointer (some ⟨gm,0,none⟩),.pointer (some ⟨g,0,none⟩)] w (iI (fun W=>cP g gm (cC 24 C).1 (cC 24 C).2 W) w):=by
 refine en 67 Tryz.func204 rfl<|sg<|L0<|dv #[.pointer (some ⟨gm,0,none⟩)] fun d z e n a=>L0<|dv #[.pointer (some ⟨g,0,none⟩)] fun f A h o p=>Pl 1<|ng<|Pl 1<|L0<|bO #[.nilFunc] fun B D q r s=>L0<|cj r 0 #[.func (.func 236) #[] #[.pointer (some ⟨f,0,none⟩),.pointer (some ⟨d,0,none⟩)]] fun E F t=>nl<|?_
 refine tn<|sg<|Pl 2<|L0<|bO #[.bool false] fun G H u v x=>L0<|cj v 0 #[.bool true] fun I i y=>nt<|sq<|sg<|?_
 have j:=ud s (aG t (ud x y u)) q
 have k:=aG p j
 have l:=ub k n
 refine L0<|aP l 0<|Pl 2<|?_
 have b:=aG a k
 have m:=ub b hm
 refine L0<|aP m 0<|Pl 1<|nt<|bk<|sg<|L0<|aP i 0<|Pl 9<|nt<|c0<|sq<|sq<|?_
 refine go<|Pl 3<|nt<|c0<|sg<|Pl 3<|nt<|c0<|go<|Pl 7<|nl<|?_
 refine tn<|c0<|sg<|Pl 3<|nt<|c0<|sg<|Pl 3<|nt<|c0<|?_
 refine sg<|Pl 3<|nt<|c0<|sg<|Pl 3<|nt<|c0<|sg<|?_
 refine Pl 3<|L1<|aP i 0<|Pl 2<|nt<|c1<|sg<|Pl 2<|nt<|rt<|br<|tr<|?_
 refine rr (.func (.func 245) #[] #[.pointer (some ⟨f,0,none⟩),.pointer (some ⟨d,0,none⟩)])<|?_
 exact⟨_,_,rfl,by kernel_rfl,b,z9 (c:=24) ⟨by decide,by decide⟩ (ap.old hC b) m hne (ub j o) (Ne.symm (nb (ap.lt hC) a.size h)) (Ne.symm (nb (au hm) a.size h)) l (Ne.symm (nb (ap.lt hC) lr e)) (Ne.symm (nb (au hm) lr e))⟩
theorem oU{g gm:Nat}{C:aj}{w:World}(hC:ap w g C)(hm:w.heap[gm]? = some (.cells (mC 24) 30 (0,0)))(hne:g≠gm) : Calls Tryz.prog 204 #[.int .i64 1,.pointer (some ⟨gm,0,none⟩),.pointer (some ⟨g,0,none⟩)] w (iI (fun W=>cP g gm (i6 24 C).1 (i6 24 C).2 W) w):=by
 refine en 67 Tryz.func204 rfl<|sg<|L0<|dv #[.pointer (some ⟨gm,0,none⟩)] fun d z e n a=>L0<|dv #[.pointer (some ⟨g,0,none⟩)] fun f A h o p=>Pl 1<|ng<|Pl 1<|L0<|bO #[.nilFunc] fun B D q r s=>L0<|cj r 0 #[.func (.func 236) #[] #[.pointer (some ⟨f,0,none⟩),.pointer (some ⟨d,0,none⟩)]] fun E F t=>nl<|?_
 refine tn<|sg<|Pl 2<|L0<|bO #[.bool false] fun G H u v x=>L0<|cj v 0 #[.bool false] fun I i y=>nt<|sq<|sg<|?_
 have j:=ud s (aG t (ud x y u)) q
 have k:=aG p j
 have l:=ub k n
 refine L0<|aP l 0<|Pl 2<|?_
 have b:=aG a k
 have m:=ub b hm
 refine L0<|aP m 0<|Pl 1<|nt<|bk<|sg<|L0<|aP i 0<|Pl 9<|nt<|c0<|sq<|sq<|?_
 refine go<|Pl 3<|nt<|c0<|sg<|Pl 3<|nt<|c0<|go<|Pl 7<|nl<|?_
 refine tn<|c0<|sg<|Pl 3<|nt<|c0<|sg<|Pl 3<|nt<|c0<|?_
 refine sg<|Pl 3<|nt<|c0<|sg<|Pl 3<|nt<|c0<|sg<|?_
 refine Pl 3<|L1<|aP i 0<|Pl 2<|nt<|c0<|sg<|Pl 3<|nt<|c1<|sg<|?_
 refine Pl 2<|nt<|rt<|br<|tr<|rr (.func (.func 246) #[] #[.pointer (some ⟨f,0,none⟩),.pointer (some ⟨d,0,none⟩)])<|?_
 exact⟨_,_,rfl,by kernel_rfl,b,zb (c:=24) ⟨by decide,by decide⟩ (ap.old hC b) m hne (ub j o) (Ne.symm (nb (ap.lt hC) a.size h)) (Ne.symm (nb (au hm) a.size h)) l (Ne.symm (nb (ap.lt hC) lr e)) (Ne.symm (nb (au hm) lr e))⟩
theorem pV{c:Int}{g gm:Nat}{C:aj}{w:World}(hC:ap w g C)(hm:w.heap[gm]? = some (.cells (mC c) 30 (0,0)))(hne:g≠gm)(k3:(c==3)=false)(k4:(c==4)=false)(k6:(c==6)=false)(f:(c==16)=false)(h:(c==22)=false)(a:(c==23)=false)(b:(c==24)=false) : Calls Tryz.prog 204 #[.int .i64 0,.pointer (some ⟨gm,0,none⟩),.pointer (some ⟨g,0,none⟩)] w (dM .nilFunc w):=by
 refine en 67 Tryz.func204 rfl<|sg<|L0<|dv #[.pointer (some ⟨gm,0,none⟩)] fun i x y j k=>L0<|dv #[.pointer (some ⟨g,0,none⟩)] fun l z A B m=>Pl 1<|ng<|Pl 1<|L0<|bO #[.nilFunc] fun D E n o p=>L0<|cj o 0 #[.func (.func 236) #[] #[.pointer (some ⟨l,0,none⟩),.pointer (some ⟨i,0,none⟩)]] fun F G q=>nl<|?_
 refine tn<|sg<|Pl 2<|L0<|bO #[.bool false] fun H I r s t=>L0<|cj s 0 #[.bool true] fun J u v=>nt<|sq<|sg<|?_
 have d:=aG m (ud p (aG q (ud t v r)) n)
 refine L0<|aP (ub d j) 0<|Pl 2<|?_
 have e:=aG k d
 refine L0<|aP (ub e hm) 0<|Pl 1<|nt<|bk<|sg<|L0<|aP u 0<|Pl 4<|sy 22 k3<|Pl 5<|nt<|cf k4<|?_
 refine sq<|sg<|Pl 3<|nt<|cf k3<|sg<|Pl 3<|nt<|cf k4<|go<|?_
 refine Pl 3<|sy 35 a<|Pl 4<|nt<|c0<|sg<|Pl 3<|nt<|cf k6<|sg<|?_
 refine Pl 3<|nt<|cf f<|sg<|Pl 3<|nt<|cf h<|sg<|Pl 3<|nl<|?_
 refine tn<|cf a<|sg<|Pl 3<|sy 59 b<|Pl 3<|nt<|c0<|sg<|Pl 3<|nl<|?_
 refine tn<|cf b<|sk<|bn<|tn<|sg<|Pl 1<|nt<|rt<|rr (.nilFunc)<|?_
 exact⟨rfl,e⟩
theorem pX{c:Int}{g gm:Nat}{C:aj}{w:World}(hC:ap w g C)(hm:w.heap[gm]? = some (.cells (mC c) 30 (0,0)))(hne:g≠gm)(k3:(c==3)=false)(k4:(c==4)=false)(k6:(c==6)=false)(f:(c==16)=false)(h:(c==22)=false)(a:(c==23)=false)(b:(c==24)=false) : Calls Tryz.prog 204 #[.int .i64 1,.pointer (some ⟨gm,0,none⟩),.pointer (some ⟨g,0,none⟩)] w (dM .nilFunc w):=by
 refine en 67 Tryz.func204 rfl<|sg<|L0<|dv #[.pointer (some ⟨gm,0,none⟩)] fun i x y j k=>L0<|dv #[.pointer (some ⟨g,0,none⟩)] fun l z A B m=>Pl 1<|ng<|Pl 1<|L0<|bO #[.nilFunc] fun D E n o p=>L0<|cj o 0 #[.func (.func 236) #[] #[.pointer (some ⟨l,0,none⟩),.pointer (some ⟨i,0,none⟩)]] fun F G q=>nl<|?_
 refine tn<|sg<|Pl 2<|L0<|bO #[.bool false] fun H I r s t=>L0<|cj s 0 #[.bool false] fun J u v=>nt<|sq<|sg<|?_
 have d:=aG m (ud p (aG q (ud t v r)) n)
 refine L0<|aP (ub d j) 0<|Pl 2<|?_
 have e:=aG k d
 refine L0<|aP (ub e hm) 0<|Pl 1<|nt<|bk<|sg<|L0<|aP u 0<|Pl 9<|nt<|c0<|sq<|sq<|?_
 refine go<|Pl 3<|nt<|cf k3<|sg<|Pl 3<|nt<|cf k4<|go<|Pl 3<|sy 35 a<|?_
 refine Pl 4<|nt<|c0<|sg<|Pl 3<|nt<|cf k6<|sg<|Pl 3<|nl<|?_
 refine tn<|cf f<|sg<|Pl 3<|nt<|cf h<|sg<|Pl 3<|nt<|cf a<|?_
 refine sg<|Pl 3<|sy 59 b<|Pl 3<|nt<|c0<|sg<|Pl 3<|nt<|cf b<|?_
 refine sk<|bn<|tn<|sg<|Pl 1<|nt<|rt<|rr (.nilFunc)<|?_
 exact⟨rfl,e⟩
theorem kV{dir c:Int}{r:aj × aQ}{g gm:Nat}{C:aj}{w:World}(hC:ap w g C)(hm:w.heap[gm]? = some (.cells (mC c) 30 (0,0)))(hne:g≠gm)(hd:dir=0∨dir=1)(h:aI dir c C=some r) : Calls Tryz.prog 204 #[.int .i64 dir,.pointer (some ⟨gm,0,none⟩),.pointer (some ⟨g,0,none⟩)] w (iI (fun W=>cP g gm r.1 r.2 W) w):=by
  by_cases h3:c=3
  · subst h3
    rcases hd with rfl|rfl
    · obtain rfl:bL 125 3 C=r:=Option.some.inj h
      exact qQ hC hm hne
    · obtain rfl:bU 3 C=r:=Option.some.inj h
      exact s3 hC hm hne
  by_cases h4:c=4
  · subst h4
    rcases hd with rfl|rfl
    · obtain rfl:bL 125 4 C=r:=Option.some.inj h
      exact ru hC hm hne
    · obtain rfl:bU 4 C=r:=Option.some.inj h
      exact rC hC hm hne
  by_cases h6:c=6
  · subst h6
    rcases hd with rfl|rfl
    · obtain rfl:d8 6 C=r:=Option.some.inj h
      exact qZ hC hm hne
    · obtain rfl:d8 6 C=r:=Option.some.inj h
      exact rN hC hm hne
  by_cases a:c=16
  · subst a
    rcases hd with rfl|rfl
    · obtain rfl:cA 16 C=r:=Option.some.inj h
      exact pY hC hm hne
    · obtain rfl:bL 123 16 C=r:=Option.some.inj h
      exact pS hC hm hne
  by_cases b:c=22
  · subst b
    rcases hd with rfl|rfl
    · obtain rfl:cm 22 C=r:=Option.some.inj h
      exact pj hC hm hne
    · obtain rfl:cm 22 C=r:=Option.some.inj h
      exact pF hC hm hne
  by_cases d:c=23
  · subst d
    rcases hd with rfl|rfl
    · obtain rfl:cE 23 C=r:=Option.some.inj h
      exact pL hC hm hne
    · obtain rfl:bU 23 C=r:=Option.some.inj h
      exact pC hC hm hne
  by_cases e:c=24
  · subst e
    rcases hd with rfl|rfl
    · obtain rfl:cC 24 C=r:=Option.some.inj h
      exact p5 hC hm hne
    · obtain rfl:i6 24 C=r:=Option.some.inj h
      exact oU hC hm hne
  exfalso
  unfold aI at h
  simp[h3,h4,h6,a,b,d,e] at h
theorem lq{dir c:Int}{g gm:Nat}{C:aj}{w:World}(hC:ap w g C)(hm:w.heap[gm]? = some (.cells (mC c) 30 (0,0)))(hne:g≠gm)(hd:dir=0∨dir=1)(h:aI dir c C=none) : Calls Tryz.prog 204 #[.int .i64 dir,.pointer (some ⟨gm,0,none⟩),.pointer (some ⟨g,0,none⟩)] w (dM .nilFunc w):=by
  have k3:(c==3)=false:=by
    cases hk:(c==3)
    · rfl
    · obtain rfl:c=3:=by simpa using hk
      rcases hd with rfl|rfl<;>cases h
  have k4:(c==4)=false:=by
    cases hk:(c==4)
    · rfl
    · obtain rfl:c=4:=by simpa using hk
      rcases hd with rfl|rfl<;>cases h
  have k6:(c==6)=false:=by
    cases hk:(c==6)
    · rfl
    · obtain rfl:c=6:=by simpa using hk
      rcases hd with rfl|rfl<;>cases h
  have a:(c==16)=false:=by
    cases hk:(c==16)
    · rfl
    · obtain rfl:c=16:=by simpa using hk
      rcases hd with rfl|rfl<;>cases h
  have b:(c==22)=false:=by
    cases hk:(c==22)
    · rfl
    · obtain rfl:c=22:=by simpa using hk
      rcases hd with rfl|rfl<;>cases h
  have d:(c==23)=false:=by
    cases hk:(c==23)
    · rfl
    · obtain rfl:c=23:=by simpa using hk
      rcases hd with rfl|rfl<;>cases h
  have e:(c==24)=false:=by
    cases hk:(c==24)
    · rfl
    · obtain rfl:c=24:=by simpa using hk
      rcases hd with rfl|rfl<;>cases h
  rcases hd with rfl|rfl
  · exact pV hC hm hne k3 k4 k6 a b d e
  · exact pX hC hm hne k3 k4 k6 a b d e
open Go.RowKit
theorem nA{m:Md}{A:Option Addr}{cp:Nat}{b:List Int}{w:World}{c:Int}(hcode:B8 c)(hsl:bh m w (.slice A b.length cp) b)(hb:b.length≤1048576) :
    Calls Tryz.prog 140 #[.int .i64 0,.int .u8 c,.slice A b.length cp] w (eb (ag aI 0 c b) w):=by
 obtain⟨hcode1,hcode2⟩:=hcode
 have hln:(b.length:Int)≤1048576:=by omega
 refine en 40 Tryz.func140 rfl<|sg<|L0<|bO mZ fun U V l j v=>Pl 1<|nt<|sq<|sg<|Pl 6<|nt<|c0<|?_
 refine bp<|sg<|Pl 2<|L0<|bO mZ fun W X g n K=>L0<|be n (mC c) fun Y x o=>ng<|Pl 1<|?_
 have h:=ud K o g
 have p:=aG v h
 refine L0<|Oc<|e3 (dW (bh.old hsl p) (by omega)) fun Z a0 d y a=>Pl 1<|ng<|Pl 2<|?_
 have z:=aG p a
 refine wo (aI 0 c ⟨b,false,0⟩) (fun hr=>?_) (fun r hr=>?_)
 refine L0<|Oc<|m1 (lq (dir:=0) (c:=c) y (ub a x) (Ne.symm (nb (au n) o.size d)) (Or.inl rfl) hr) fun a1 B=>Pl 1<|nt<|sq<|sg<|Pl 2<|nt<|c1<|sg<|Pl 1<|?_
 refine L0<|be (ub (aG h (aG a B)) j) mZ fun a2 L M=>Pl 1<|nt<|rt<|tr<|bP L (.int .i64 4)<|?_
 have hs:ag aI 0 c b=(aQ.zero,4):=by
   unfold ag
   (try simp only[bs,if_true,if_false,decide_true,decide_false,eq_self,true_or,or_true,or_false,false_or,if_true,if_false,cy,co,cw,cv,reduceIte,hr])
   all_goals rfl
 rw[hs]
 exact cR (ud z (uz B M) l)
 have C:=nb (au n) o.size d
 refine L0<|Oc<|oT (kV (dir:=0) (c:=c) y (ub a x) (Ne.symm C) (Or.inl rfl) hr) fun N D a3 O E hcall51=>Pl 1<|nt<|sq<|sg<|Pl 2<|nt<|c0<|bp<|sq<|?_
 refine go<|Pl 1<|L0<|gx (f:=N) (args:=D) (hf:=O) #[] D<|m3 (hcall51) fun a4 F P G=>?_
 obtain⟨Q,k,q⟩:=P
 refine ng<|Pl 1<|L0<|Oc<|m2 (cG F) fun a5 H s=>nt<|sq<|sg<|Pl 1<|L0<|Oc<|mq (bG H)<|?_
 have a6:=ap.len H
 refine Pl 1<|ng<|Pl 2<|nt<|?_
 have t:=uz E (u1 G s im)
 have I:=ut z t (ac (ni p.size d) (ac (ni v.size g) av))
 refine cb ((r.1.endC.e != 0)) (fun i=>?_) (fun i=>?_)
 have u:=az i
 refine sg<|Pl 2<|?_
 refine L0<|be (ub (ud h (ud a t d) g) j) mZ fun a7 R S=>Pl 1<|nt<|rt<|tr<|bP R (.int .i64 r.1.endC.e)<|?_
 have hs:ag aI 0 c b=aL r.2 r.1:=by
   unfold ag
   (try simp only[i,bs,if_true,if_false,decide_true,decide_false,eq_self,true_or,or_true,or_false,false_or,if_true,if_false,cy,co,cw,cv,reduceIte,hr])
   all_goals rfl
 rw[hs]
 exact bC u (ud I S l)
 have u:=ai i
 refine bp<|sg<|?_
 refine L0<|bS (hz:=(by rw[k.2];exact aO)) (b6 s C k.1)<|?_
 refine L0<|be (hz:=(by rw[k.2];exact aO)) (hv:=q.size) (h1:=q.one) (ub (ud h (ud a t d) g) j) (Q) fun a8 T J=>Pl 1<|nt<|rt<|eJ 22 k.2 T (.int .i64 0)<|?_
 have hs:ag aI 0 c b=aL r.2 r.1:=by
   unfold ag
   (try simp only[i,bs,if_true,if_false,decide_true,decide_false,eq_self,true_or,or_true,or_false,false_or,if_true,if_false,cy,co,cw,cv,reduceIte,hr])
   all_goals rfl
 rw[hs]
 exact bI u (aN.upd q (us s J) (ax (ap.safe F _ (by decide)) (ax (aY (ub (ud h (ud a (uz E G) d) g) j) (by decide)) aK))) (ud I J l)
theorem mQ{m:Md}{A:Option Addr}{cp:Nat}{b:List Int}{w:World}{c:Int}(hcode:B8 c)(hsl:bh m w (.slice A b.length cp) b)(hb:b.length≤1048576) :
    Calls Tryz.prog 140 #[.int .i64 1,.int .u8 c,.slice A b.length cp] w (eb (ag aI 1 c b) w):=by
 obtain⟨hcode1,hcode2⟩:=hcode
 have hln:(b.length:Int)≤1048576:=by omega
 refine en 40 Tryz.func140 rfl<|sg<|L0<|bO mZ fun U V l j v=>Pl 1<|nt<|sq<|sg<|Pl 6<|nt<|c0<|?_
 refine bp<|sg<|Pl 2<|L0<|bO mZ fun W X g n K=>L0<|be n (mC c) fun Y x o=>ng<|Pl 1<|?_
 have h:=ud K o g
 have p:=aG v h
 refine L0<|Oc<|e3 (dW (bh.old hsl p) (by omega)) fun Z a0 d y a=>Pl 1<|ng<|Pl 2<|?_
 have z:=aG p a
 refine wo (aI 1 c ⟨b,false,0⟩) (fun hr=>?_) (fun r hr=>?_)
 refine L0<|Oc<|m1 (lq (dir:=1) (c:=c) y (ub a x) (Ne.symm (nb (au n) o.size d)) (Or.inr rfl) hr) fun a1 B=>Pl 1<|nt<|sq<|sg<|Pl 2<|nt<|c1<|sg<|Pl 1<|?_
 refine L0<|be (ub (aG h (aG a B)) j) mZ fun a2 L M=>Pl 1<|nt<|rt<|tr<|bP L (.int .i64 4)<|?_
 have hs:ag aI 1 c b=(aQ.zero,4):=by
   unfold ag
   (try simp only[bs,if_true,if_false,decide_true,decide_false,eq_self,true_or,or_true,or_false,false_or,if_true,if_false,cy,co,cw,cv,reduceIte,hr])
   all_goals rfl
 rw[hs]
 exact cR (ud z (uz B M) l)
 have C:=nb (au n) o.size d
 refine L0<|Oc<|oT (kV (dir:=1) (c:=c) y (ub a x) (Ne.symm C) (Or.inr rfl) hr) fun N D a3 O E hcall51=>Pl 1<|nt<|sq<|sg<|Pl 2<|nt<|c0<|bp<|sq<|?_
 refine go<|Pl 1<|L0<|gx (f:=N) (args:=D) (hf:=O) #[] D<|m3 (hcall51) fun a4 F P G=>?_
 obtain⟨Q,k,q⟩:=P
 refine ng<|Pl 1<|L0<|Oc<|m2 (cG F) fun a5 H s=>nt<|sq<|sg<|Pl 1<|L0<|Oc<|mq (bG H)<|?_
 have a6:=ap.len H
 refine Pl 1<|ng<|Pl 2<|nt<|?_
 have t:=uz E (u1 G s im)
 have I:=ut z t (ac (ni p.size d) (ac (ni v.size g) av))
 refine cb ((r.1.endC.e != 0)) (fun i=>?_) (fun i=>?_)
 have u:=az i
 refine sg<|Pl 2<|?_
 refine L0<|be (ub (ud h (ud a t d) g) j) mZ fun a7 R S=>Pl 1<|nt<|rt<|tr<|bP R (.int .i64 r.1.endC.e)<|?_
 have hs:ag aI 1 c b=aL r.2 r.1:=by
   unfold ag
   (try simp only[i,bs,if_true,if_false,decide_true,decide_false,eq_self,true_or,or_true,or_false,false_or,if_true,if_false,cy,co,cw,cv,reduceIte,hr])
   all_goals rfl
 rw[hs]
 exact bC u (ud I S l)
 have u:=ai i
 refine bp<|sg<|?_
 refine L0<|bS (hz:=(by rw[k.2];exact aO)) (b6 s C k.1)<|?_
 refine L0<|be (hz:=(by rw[k.2];exact aO)) (hv:=q.size) (h1:=q.one) (ub (ud h (ud a t d) g) j) (Q) fun a8 T J=>Pl 1<|nt<|rt<|eJ 22 k.2 T (.int .i64 0)<|?_
 have hs:ag aI 1 c b=aL r.2 r.1:=by
   unfold ag
   (try simp only[i,bs,if_true,if_false,decide_true,decide_false,eq_self,true_or,or_true,or_false,false_or,if_true,if_false,cy,co,cw,cv,reduceIte,hr])
   all_goals rfl
 rw[hs]
 exact bI u (aN.upd q (us s J) (ax (ap.safe F _ (by decide)) (ax (aY (ub (ud h (ud a (uz E G) d) g) j) (by decide)) aK))) (ud I J l)
theorem mW{m:Md}{A:Option Addr}{cp:Nat}{b:List Int}{w:World}{dir c:Int}(hcode:B8 c)(hsl:bh m w (.slice A b.length cp) b)(hb:b.length≤1048576)(hd:¬ (dir=0∨dir=1)) :
    Calls Tryz.prog 140 #[.int .i64 dir,.int .u8 c,.slice A b.length cp] w (eb (ag aI dir c b) w):=by
 obtain⟨hcode1,hcode2⟩:=hcode
 have hln:(b.length:Int)≤1048576:=by omega
 have e0:(dir != 0)=true:=by simp;omega
 have e1:(dir != 1)=true:=by simp;omega
 refine en 40 Tryz.func140 rfl<|sg<|L0<|bO mZ fun g h a d e=>Pl 1<|nt<|sq<|sg<|Pl 3<|sy 14 e0<|Pl 3<|nl<|?_
 refine tn<|ct e1<|sg<|Pl 1<|L0<|be d mZ fun i dB f=>Pl 1<|nt<|rt<|tr<|bP dB (.int .i64 1)<|?_
 have hs:ag aI dir c b=(aQ.zero,1):=by
   unfold ag aI
   (try simp only[e0,e1,bs,if_true,if_false,decide_true,decide_false,eq_self,true_or,or_true,or_false,false_or,if_true,if_false,cy,co,cw,cv,reduceIte,hd])
   all_goals rfl
 rw[hs]
 exact cR (ud e f a)
theorem lb{m:Md}{v:Value}{b:List Int}{w:World}{dir c:Int}(hc:B8 c)(h:bh m w v b)(hb:b.length≤1048576) :
    Calls Tryz.prog 140 #[.int .i64 dir,.int .u8 c,v] w (eb (ag aI dir c b) w):=by
  obtain⟨A,cp,rfl,_,_⟩:=h.shape
  by_cases h0:dir=0
  · subst h0;exact nA hc h hb
  by_cases h1:dir=1
  · subst h1;exact mQ hc h hb
  exact mW hc h hb (by omega)
open Go.RowKit
theorem kR{most:Int}{g gm:Nat}{c:Int}{C:aj}{w:World}(hcode:B8 c)(hC:ap w g C)(hm:w.heap[gm]? = some (.cells (mC c) 30 (0,0)))(hne:g≠gm) :
    Calls Tryz.prog 232 #[.agg #[.pointer (some ⟨g,0,none⟩),.pointer (some ⟨gm,0,none⟩)],.int .u16 most] w (p2 g gm (bD C most) (mG c 0 C.wordV (C.wordsC 1).wordV 0 0 0 0 0 0 0 0 nS nS nS nS 0 0 0 0 0 nS) w):=by
 obtain⟨hcode1,hcode2⟩:=hcode
 have hlen:=hC.len
 refine en 51 Tryz.func232 rfl<|sg<|L0<|dv #[.pointer (some ⟨g,0,none⟩),.pointer (some ⟨gm,0,none⟩)] fun f ak P a7 a8=>nt<|sq<|Rg 8 (fun w'=>w'.cell? ⟨f,1,none⟩=some (.pointer (some ⟨gm,0,none⟩))∧w'.cell? ⟨f,0,none⟩=some (.pointer (some ⟨g,0,none⟩))) fun al Q=>?_
 have t:=ub Q a7
 refine bj ⟨(ah t rfl),(ah t rfl)⟩ fun o=>Rt 0 o<|Rl 1 o (fun _ hs=>hs.1)<|Rt 2 o<|Rl 3 o (fun _ hs=>hs.2)<|?_
 have R:=aG a8 Q
 refine R0 4 rfl<|Oc<|m3 (cg (ap.old hC R)) fun am a9 S an=>?_
 have h:=nb (ap.lt hC) lr P
 have u:=b6 S (Ne.symm h) t
 refine bj ⟨(ah u rfl),(ah u rfl)⟩ fun T=>Rt 5 T<|Rt 6 T<|?_
 have U:=uz R S
 have V:=b6 U (Ne.symm hne) hm
 refine R0 7 rfl<|cj V 2 (mG c 0 C.wordV 0 0 0 0 0 0 0 0 0 nS nS nS nS 0 0 0 0 0 nS) fun ao ab W=>?_
 have X:=nb (au hm) lr P
 have v:=b6 W (Ne.symm X) u
 refine bj ⟨(ah v rfl),(ah v rfl)⟩ fun aq=>re<|tn<|sq<|Rg 8 (fun w'=>w'.cell? ⟨f,1,none⟩=some (.pointer (some ⟨gm,0,none⟩))∧w'.cell? ⟨f,0,none⟩=some (.pointer (some ⟨g,0,none⟩))) fun ar x=>?_
 have y:=ub x v
 refine bj ⟨(ah y rfl),(ah y rfl)⟩ fun p=>Rt 0 p<|Rl 1 p (fun _ hs=>hs.1)<|Rt 2 p<|Rl 3 p (fun _ hs=>hs.2)<|?_
 have Y:=aG W x
 refine R0 4 rfl<|Oc<|m3 (cg (ap.upd a9 Y (aa hne aA) (ax (aY V (by decide)) aK))) fun av Z z aw=>?_
 have A:=b6 z (Ne.symm h) y
 refine bj ⟨(ah A rfl),(ah A rfl)⟩ fun a0=>Rt 5 a0<|Rt 6 a0<|?_
 have B:=b6 (uz x z) (Ne.symm hne) ab
 refine R0 7 rfl<|cj B 3 (mG c 0 C.wordV ((C.wordsC 1).wordV) 0 0 0 0 0 0 0 0 nS nS nS nS 0 0 0 0 0 nS) fun ay ac a1=>?_
 have D:=b6 a1 (Ne.symm X) A
 refine bj ⟨(ah D rfl),(ah D rfl)⟩ fun az=>re<|tn<|sq<|Rg 18 (fun w'=>w'.cell? ⟨f,0,none⟩=some (.pointer (some ⟨g,0,none⟩))∧w'.cell? ⟨f,1,none⟩=some (.pointer (some ⟨gm,0,none⟩))∧w'.cell? ⟨gm,3,none⟩=some (.int .u16 ((C.wordsC 1).wordV))) fun aB E=>?_
 have q:=ub E D
 have F:=ub E ac
 refine bj ⟨(ah q rfl),(ah q rfl),(ah F rfl)⟩ fun b=>Rt 0 b<|Rl 1 b (fun _ hs=>hs.1)<|Rt 2 b<|Rl 3 b (fun _ hs=>hs.2.1)<|Rt 4 b<|Rt 5 b<|Rl 6 b (fun _ hs=>hs.2.2)<|Rt 7 b<|Rt 8 b<|?_
 have G:=aG a1 E
 have a2:=ui U (ui Y (us z G))
 refine si 26 ((decide (1≤((C.wordsC 1).wordV)))) (fun i=>?_) (fun i=>?_)
 have ad:=of_decide_eq_true i
 refine Rt 9 b<|Rl 10 b (fun _ hs=>hs.2.1)<|Rt 11 b<|Rt 12 b<|Rl 13 b (fun _ hs=>hs.2.2)<|Rt 14 b<|Rt 15 b<|Rt 16 b<|?_
 refine R0 17 rfl<|Oc<|m2 (bg ((decide (((C.wordsC 1).wordV)≤most))) 5 (ap.upd Z G (aa hne aA) (ax (aY B (by decide)) aK))) fun aC ae H=>?_
 have I:=b6 H (Ne.symm h) q
 have a3:=b6 H (Ne.symm hne) F
 refine bj ⟨(ah I rfl),(ah I rfl),(ah a3 rfl)⟩ fun aD=>re<|tn<|Rg 15 (fun w'=>w'.cell? ⟨f,0,none⟩=some (.pointer (some ⟨g,0,none⟩))∧w'.cell? ⟨f,1,none⟩=some (.pointer (some ⟨gm,0,none⟩))∧w'.cell? ⟨gm,2,none⟩=some (.int .u16 C.wordV)∧w'.cell? ⟨gm,3,none⟩=some (.int .u16 ((C.wordsC 1).wordV))) fun aE r=>?_
 have j:=ub r I
 have k:=ub r a3
 refine bj ⟨(ah j rfl),(ah j rfl),(ah k rfl),(ah k rfl)⟩ fun d=>Rt 0 d<|Rl 1 d (fun _ hs=>hs.1)<|Rt 2 d<|Rl 3 d (fun _ hs=>hs.2.1)<|Rt 4 d<|Rt 5 d<|Rl 6 d (fun _ hs=>hs.2.2.1)<|Rt 7 d<|Rl 8 d (fun _ hs=>hs.2.1)<|Rt 9 d<|Rt 10 d<|Rl 11 d (fun _ hs=>hs.2.2.2)<|Rr 12 d (.int .i64 ((C.wordsC 1).wordV)) (fun _ _=>bZ (.int .i64 (IntKind.i64.wrap ((C.wordsC 1).wordV))) (by kernel_rfl) (congrArg (Value.int .i64) (i64_in (by omega))))<|?_
 refine R0 13 rfl<|Oc<|mq (iG (a:=C.wordV) (n:=(C.wordsC 1).wordV) (by omega))<|bj ⟨(ah j rfl),(ah j rfl),(ah k rfl),(ah k rfl)⟩ fun aF=>?_
 refine R0 14 rfl<|Oc<|m2 (bg ((dH C.wordV ((C.wordsC 1).wordV))) 7 (ap.old ae r)) fun aH af J=>?_
 have a4:=b6 J (Ne.symm h) j
 have K:=b6 J (Ne.symm hne) k
 refine bj ⟨(ah a4 rfl),(ah a4 rfl),(ah K rfl),(ah K rfl)⟩ fun aI=>re<|rm (.tuple #[])<|?_
 have hs:bD C most=((((C.wordsC 1).wordsC 1).need (decide (((C.wordsC 1).wordV)≤most)) 5).need (dH C.wordV ((C.wordsC 1).wordV)) 7):=by
   unfold bD iK
   (try simp only[i,bs,if_true,if_false,decide_true,decide_false,reduceIte])
   all_goals rfl
 rw[hs]
 exact⟨rfl,af,K,(u1 a2 (u1 H (uz r J) im) im)⟩
 have ad:=of_decide_eq_false i
 refine Ro 9 b<|Ro 10 b<|Ro 11 b<|Ro 12 b<|Ro 13 b<|Ro 14 b<|Ro 15 b<|Rt 16 b<|?_
 refine R0 17 rfl<|Oc<|m2 (bg (false) 5 (ap.upd Z G (aa hne aA) (ax (aY B (by decide)) aK))) fun aJ ag L=>?_
 have M:=b6 L (Ne.symm h) q
 have a5:=b6 L (Ne.symm hne) F
 refine bj ⟨(ah M rfl),(ah M rfl),(ah a5 rfl)⟩ fun aL=>re<|tn<|Rg 15 (fun w'=>w'.cell? ⟨f,0,none⟩=some (.pointer (some ⟨g,0,none⟩))∧w'.cell? ⟨f,1,none⟩=some (.pointer (some ⟨gm,0,none⟩))∧w'.cell? ⟨gm,2,none⟩=some (.int .u16 C.wordV)∧w'.cell? ⟨gm,3,none⟩=some (.int .u16 ((C.wordsC 1).wordV))) fun aM s=>?_
 have l:=ub s M
 have m:=ub s a5
 refine bj ⟨(ah l rfl),(ah l rfl),(ah m rfl),(ah m rfl)⟩ fun e=>Rt 0 e<|Rl 1 e (fun _ hs=>hs.1)<|Rt 2 e<|Rl 3 e (fun _ hs=>hs.2.1)<|Rt 4 e<|Rt 5 e<|Rl 6 e (fun _ hs=>hs.2.2.1)<|Rt 7 e<|Rl 8 e (fun _ hs=>hs.2.1)<|Rt 9 e<|Rt 10 e<|Rl 11 e (fun _ hs=>hs.2.2.2)<|Rr 12 e (.int .i64 ((C.wordsC 1).wordV)) (fun _ _=>bZ (.int .i64 (IntKind.i64.wrap ((C.wordsC 1).wordV))) (by kernel_rfl) (congrArg (Value.int .i64) (i64_in (by omega))))<|?_
 refine R0 13 rfl<|Oc<|mq (iG (a:=C.wordV) (n:=(C.wordsC 1).wordV) (by omega))<|bj ⟨(ah l rfl),(ah l rfl),(ah m rfl),(ah m rfl)⟩ fun aN=>?_
 refine R0 14 rfl<|Oc<|m2 (bg ((dH C.wordV ((C.wordsC 1).wordV))) 7 (ap.old ag s)) fun aO ai N=>?_
 have a6:=b6 N (Ne.symm h) l
 have O:=b6 N (Ne.symm hne) m
 refine bj ⟨(ah a6 rfl),(ah a6 rfl),(ah O rfl),(ah O rfl)⟩ fun aP=>re<|rm (.tuple #[])<|?_
 have hs:bD C most=((((C.wordsC 1).wordsC 1).need false 5).need (dH C.wordV ((C.wordsC 1).wordV)) 7):=by
   unfold bD iK
   (try simp only[i,bs,if_true,if_false,decide_true,decide_false,reduceIte])
   all_goals rfl
 rw[hs]
 exact⟨rfl,ai,O,(u1 a2 (u1 L (uz s N) im) im)⟩
theorem iZ{g gm:Nat}{c:Int}{C:aj}{w:World}(hcode:B8 c)(hC:ap w g C)(hm:w.heap[gm]? = some (.cells (mC c) 30 (0,0)))(hne:g≠gm) :
    Calls Tryz.prog 196 #[.agg #[.pointer (some ⟨g,0,none⟩),.pointer (some ⟨gm,0,none⟩)]] w (cP g gm (cF 2000 c C).1 (cF 2000 c C).2 w):=by
 obtain⟨hcode1,hcode2⟩:=hcode
 have hlen:=hC.len
 refine en 4 Tryz.func196 rfl<|sg<|L0<|dv #[.pointer (some ⟨g,0,none⟩),.pointer (some ⟨gm,0,none⟩)] fun i j k d a=>nt<|go<|L0<|bS d<|?_
 have b:=ap.old hC a
 refine L0<|Oc<|m3 (kR (most:=2000) ⟨hcode1,hcode2⟩ b (ub a hm) hne) fun l e f h=>?_
 have m:=(b).wordV
 have n:=bT (cT (b).rng 1)
 refine nl<|rm (.tuple #[])<|?_
 have hs:cF 2000 c C=((bD C 2000),(aQ.mk c 0 C.wordV ((C.wordsC 1).wordV) 0 0 0 0 0 0 0 0 [] [] [] [] 0 0 0 0 0 [])):=by
   unfold cF
   (try simp only[bs,if_true,if_false,decide_true,decide_false,reduceIte])
   all_goals rfl
 rw[hs]
 exact⟨rfl,e,⟨_,⟨f,rfl⟩,⟨_,_,_,_,_,rfl,aS.nil ..,aS.nil ..,aS.nil ..,aS.nil ..,aS.nil ..,⟨(b8 (x:=c) (by omega)),(b8 (x:=0) (by omega)),(aD (x:=C.wordV) (by omega)),(aD (x:=(C.wordsC 1).wordV) (by omega)),(aD (x:=0) (by omega)),(aD (x:=0) (by omega)),(aD (x:=0) (by omega)),(aD (x:=0) (by omega)),(aD (x:=0) (by omega)),(aD (x:=0) (by omega)),(aD (x:=0) (by omega)),(aD (x:=0) (by omega)),(b8 (x:=0) (by omega)),(b8 (x:=0) (by omega)),(b8 (x:=0) (by omega)),(b8 (x:=0) (by omega)),(b8 (x:=0) (by omega))⟩⟩⟩,(uz a h)⟩
theorem mE{g gm:Nat}{c:Int}{C:aj}{w:World}(hcode:B8 c)(hC:ap w g C)(hm:w.heap[gm]? = some (.cells (mC c) 30 (0,0)))(hne:g≠gm) :
    Calls Tryz.prog 197 #[.agg #[.pointer (some ⟨g,0,none⟩),.pointer (some ⟨gm,0,none⟩)]] w (cP g gm (cn c C).1 (cn c C).2 w):=by
 obtain⟨hcode1,hcode2⟩:=hcode
 have hlen:=hC.len
 refine en 24 Tryz.func197 rfl<|sg<|L0<|dv #[.pointer (some ⟨g,0,none⟩),.pointer (some ⟨gm,0,none⟩)] fun j L k l m=>ng<|Pl 1<|L0<|aP l 0<|?_
 refine L0<|Oc<|m3 (ch (ap.old hC m)) fun M A o N=>Pl 1<|ng<|Pl 1<|?_
 have e:=nb (ap.lt hC) lr k
 have p:=b6 o (Ne.symm e) l
 refine L0<|aP p 0<|Pl 3<|cu 3 [10] 13 (((decide (1≤C.byteV))&&(decide (C.byteV≤250)))) (fun K q=>?_) ?_
 refine bl 10 ((decide (1≤C.byteV))) (fun b=>?_) (fun b=>?_)
 have B:=of_decide_eq_true b
 exact Pl 3<|ce q (decide (C.byteV≤250)) (by rw[b];rfl)
 have B:=of_decide_eq_false b
 exact Pl 3<|ce q false (by rw[b];rfl)
 refine L0<|Oc<|m2 (bg (((decide (1≤C.byteV))&&(decide (C.byteV≤250)))) 5 A) fun O D E=>nt<|Rg 10 (fun w'=>w'.cell? ⟨j,1,none⟩=some (.pointer (some ⟨gm,0,none⟩))∧w'.cell? ⟨j,0,none⟩=some (.pointer (some ⟨g,0,none⟩))) fun P r=>?_
 have s:=aG E r
 have f:=b6 s (Ne.symm e) p
 refine bj ⟨(ah f rfl),(ah f rfl)⟩ fun a=>Rt 0 a<|Rl 1 a (fun _ hs=>hs.1)<|Rt 2 a<|Rl 3 a (fun _ hs=>hs.2)<|Rt 4 a<|Rr 5 a (.int .i64 C.byteV) (fun _ _=>bZ (.int .i64 (IntKind.i64.wrap C.byteV)) (by kernel_rfl) (congrArg (Value.int .i64) (i64_in (by omega))))<|?_
 have t:=ap.old D r
 refine R0 6 rfl<|Oc<|qX (cL (n:=C.byteV) t) fun F G Q H R S I u=>?_
 have T:=Nat.le_trans (aj.bytesR_le ((C.bytesC 1).need ((decide (1≤C.byteV))&&(decide (C.byteV≤250))) 5) C.byteV) (ap.len t)
 have h:=b6 u (Ne.symm e) f
 refine bj ⟨(ah h rfl),(ah h rfl)⟩ fun v=>Rt 7 v<|Rt 8 v<|?_
 have y:=uz m (u1 o (u1 s u im) im)
 have i:=b6 y (Ne.symm hne) hm
 refine R0 9 rfl<|cj i 14 (mG c 0 0 0 0 0 0 0 0 0 0 0 nS nS (.slice F ((((C.bytesC 1).need ((decide (1≤C.byteV))&&(decide (C.byteV≤250))) 5).bytesR C.byteV).length) G) nS 0 0 0 0 0 nS) fun U J d=>?_
 have z:=b6 d (Ne.symm (nb (au hm) lr k)) h
 refine bj ⟨(ah z rfl),(ah z rfl)⟩ fun V=>re<|rm (.tuple #[])<|?_
 have hs:cn c C=((((C.bytesC 1).need ((decide (1≤C.byteV))&&(decide (C.byteV≤250))) 5).bytesC C.byteV),(aQ.mk c 0 0 0 0 0 0 0 0 0 0 0 [] [] (((C.bytesC 1).need ((decide (1≤C.byteV))&&(decide (C.byteV≤250))) 5).bytesR C.byteV) [] 0 0 0 0 0 [])):=by
   unfold cn d6
   (try simp only[bs,if_true,if_false,decide_true,decide_false,reduceIte])
   all_goals rfl
 rw[hs]
 exact⟨rfl,(ap.upd I d (aa hne aA) (ax (aY i (by decide)) aK)),⟨_,⟨J,rfl⟩,⟨_,_,_,_,_,rfl,aS.nil ..,aS.nil ..,(bh.upd' H d (ax (aY i (by decide)) aK)),aS.nil ..,aS.nil ..,⟨(b8 (x:=c) (by omega)),(b8 (x:=0) (by omega)),(aD (x:=0) (by omega)),(aD (x:=0) (by omega)),(aD (x:=0) (by omega)),(aD (x:=0) (by omega)),(aD (x:=0) (by omega)),(aD (x:=0) (by omega)),(aD (x:=0) (by omega)),(aD (x:=0) (by omega)),(aD (x:=0) (by omega)),(aD (x:=0) (by omega)),(b8 (x:=0) (by omega)),(b8 (x:=0) (by omega)),(b8 (x:=0) (by omega)),(b8 (x:=0) (by omega)),(b8 (x:=0) (by omega))⟩⟩⟩,(us y d)⟩
theorem m0{g gm:Nat}{c:Int}{C:aj}{w:World}(hcode:B8 c)(hC:ap w g C)(hm:w.heap[gm]? = some (.cells (mC c) 30 (0,0)))(hne:g≠gm) :
    Calls Tryz.prog 198 #[.agg #[.pointer (some ⟨g,0,none⟩),.pointer (some ⟨gm,0,none⟩)]] w (cP g gm (ck c C).1 (ck c C).2 w):=by
 obtain⟨hcode1,hcode2⟩:=hcode
 have hlen:=hC.len
 refine en 33 Tryz.func198 rfl<|sg<|L0<|dv #[.pointer (some ⟨g,0,none⟩),.pointer (some ⟨gm,0,none⟩)] fun b a0 z S T=>nt<|sq<|Rg 8 (fun w'=>w'.cell? ⟨b,1,none⟩=some (.pointer (some ⟨gm,0,none⟩))∧w'.cell? ⟨b,0,none⟩=some (.pointer (some ⟨g,0,none⟩))) fun a1 A=>?_
 have j:=ub A S
 refine bj ⟨(ah j rfl),(ah j rfl)⟩ fun e=>Rt 0 e<|Rl 1 e (fun _ hs=>hs.1)<|Rt 2 e<|Rl 3 e (fun _ hs=>hs.2)<|?_
 have B:=aG T A
 refine R0 4 rfl<|Oc<|m3 (cg (ap.old hC B)) fun a2 U D a3=>?_
 have f:=nb (ap.lt hC) lr z
 have k:=b6 D (Ne.symm f) j
 refine bj ⟨(ah k rfl),(ah k rfl)⟩ fun E=>Rt 5 E<|Rt 6 E<|?_
 have F:=uz B D
 have G:=b6 F (Ne.symm hne) hm
 refine R0 7 rfl<|cj G 2 (mG c 0 C.wordV 0 0 0 0 0 0 0 0 0 nS nS nS nS 0 0 0 0 0 nS) fun a4 V H=>?_
 have I:=nb (au hm) lr z
 have l:=b6 H (Ne.symm I) k
 refine bj ⟨(ah l rfl),(ah l rfl)⟩ fun a5=>re<|tn<|sq<|Rg 8 (fun w'=>w'.cell? ⟨b,1,none⟩=some (.pointer (some ⟨gm,0,none⟩))∧w'.cell? ⟨b,0,none⟩=some (.pointer (some ⟨g,0,none⟩))) fun a6 m=>?_
 have n:=ub m l
 refine bj ⟨(ah n rfl),(ah n rfl)⟩ fun h=>Rt 0 h<|Rl 1 h (fun _ hs=>hs.1)<|Rt 2 h<|Rl 3 h (fun _ hs=>hs.2)<|?_
 have J:=aG H m
 refine R0 4 rfl<|Oc<|m3 (cg (ap.upd U J (aa hne aA) (ax (aY G (by decide)) aK))) fun a7 K o a8=>?_
 have p:=b6 o (Ne.symm f) n
 refine bj ⟨(ah p rfl),(ah p rfl)⟩ fun L=>Rt 5 L<|Rt 6 L<|?_
 have q:=b6 (uz m o) (Ne.symm hne) V
 refine R0 7 rfl<|cj q 4 (mG c 0 C.wordV 0 ((C.wordsC 1).wordV) 0 0 0 0 0 0 0 nS nS nS nS 0 0 0 0 0 nS) fun a9 W M=>?_
 have r:=b6 M (Ne.symm I) p
 refine bj ⟨(ah r rfl),(ah r rfl)⟩ fun ab=>re<|tn<|Rg 17 (fun w'=>w'.cell? ⟨b,0,none⟩=some (.pointer (some ⟨g,0,none⟩))∧w'.cell? ⟨b,1,none⟩=some (.pointer (some ⟨gm,0,none⟩))∧w'.cell? ⟨gm,4,none⟩=some (.int .u16 ((C.wordsC 1).wordV))) fun ac s=>?_
 have i:=ub s r
 have t:=ub s W
 refine bj ⟨(ah i rfl),(ah i rfl),(ah t rfl)⟩ fun a=>Rt 0 a<|Rl 1 a (fun _ hs=>hs.1)<|Rt 2 a<|Rl 3 a (fun _ hs=>hs.2.1)<|Rt 4 a<|Rt 5 a<|Rl 6 a (fun _ hs=>hs.2.2)<|Rt 7 a<|Rt 8 a<|?_
 have u:=aG M s
 have N:=ui F (ui J (us o u))
 refine si 24 ((((C.wordsC 1).wordV)==0)) (fun d=>?_) (fun d=>?_)
 have X:=ae d
 refine Ro 9 a<|Ro 10 a<|Ro 11 a<|Ro 12 a<|Ro 13 a<|Ro 14 a<|Rt 15 a<|?_
 refine R0 16 rfl<|Oc<|m2 (bg (true) 6 (ap.upd K u (aa hne aA) (ax (aY q (by decide)) aK))) fun ad Y v=>?_
 have O:=b6 v (Ne.symm f) i
 have P:=b6 v (Ne.symm hne) t
 refine bj ⟨(ah O rfl),(ah O rfl),(ah P rfl)⟩ fun af=>re<|rm (.tuple #[])<|?_
 have hs:ck c C=((((C.wordsC 1).wordsC 1).need true 6),(aQ.mk c 0 C.wordV 0 ((C.wordsC 1).wordV) 0 0 0 0 0 0 0 [] [] [] [] 0 0 0 0 0 [])):=by
   unfold ck dX
   (try simp only[d,bs,if_true,if_false,decide_true,decide_false,reduceIte])
   all_goals rfl
 rw[hs]
 exact⟨rfl,Y,⟨_,⟨P,rfl⟩,⟨_,_,_,_,_,rfl,aS.nil ..,aS.nil ..,aS.nil ..,aS.nil ..,aS.nil ..,⟨(b8 (x:=c) (by omega)),(b8 (x:=0) (by omega)),(aD (x:=C.wordV) (by omega)),(aD (x:=0) (by omega)),(aD (x:=(C.wordsC 1).wordV) (by omega)),(aD (x:=0) (by omega)),(aD (x:=0) (by omega)),(aD (x:=0) (by omega)),(aD (x:=0) (by omega)),(aD (x:=0) (by omega)),(aD (x:=0) (by omega)),(aD (x:=0) (by omega)),(b8 (x:=0) (by omega)),(b8 (x:=0) (by omega)),(b8 (x:=0) (by omega)),(b8 (x:=0) (by omega)),(b8 (x:=0) (by omega))⟩⟩⟩,(u1 N v im)⟩
 have X:=ak d
 refine Rt 9 a<|Rl 10 a (fun _ hs=>hs.2.1)<|Rt 11 a<|Rt 12 a<|Rl 13 a (fun _ hs=>hs.2.2)<|Rt 14 a<|Rt 15 a<|?_
 refine R0 16 rfl<|Oc<|m2 (bg ((((C.wordsC 1).wordV)==65280)) 6 (ap.upd K u (aa hne aA) (ax (aY q (by decide)) aK))) fun ag Z y=>?_
 have Q:=b6 y (Ne.symm f) i
 have R:=b6 y (Ne.symm hne) t
 refine bj ⟨(ah Q rfl),(ah Q rfl),(ah R rfl)⟩ fun ai=>re<|rm (.tuple #[])<|?_
 have hs:ck c C=((((C.wordsC 1).wordsC 1).need (((C.wordsC 1).wordV)==65280) 6),(aQ.mk c 0 C.wordV 0 ((C.wordsC 1).wordV) 0 0 0 0 0 0 0 [] [] [] [] 0 0 0 0 0 [])):=by
   unfold ck dX
   (try simp only[d,bs,if_true,if_false,decide_true,decide_false,reduceIte])
   all_goals rfl
 rw[hs]
 exact⟨rfl,Z,⟨_,⟨R,rfl⟩,⟨_,_,_,_,_,rfl,aS.nil ..,aS.nil ..,aS.nil ..,aS.nil ..,aS.nil ..,⟨(b8 (x:=c) (by omega)),(b8 (x:=0) (by omega)),(aD (x:=C.wordV) (by omega)),(aD (x:=0) (by omega)),(aD (x:=(C.wordsC 1).wordV) (by omega)),(aD (x:=0) (by omega)),(aD (x:=0) (by omega)),(aD (x:=0) (by omega)),(aD (x:=0) (by omega)),(aD (x:=0) (by omega)),(aD (x:=0) (by omega)),(aD (x:=0) (by omega)),(b8 (x:=0) (by omega)),(b8 (x:=0) (by omega)),(b8 (x:=0) (by omega)),(b8 (x:=0) (by omega)),(b8 (x:=0) (by omega))⟩⟩⟩,(u1 N y im)⟩
theorem tF{g gm:Nat}{c:Int}{C:aj}{w:World}(hcode:B8 c)(hC:ap w g C)(hm:w.heap[gm]? = some (.cells (mC c) 30 (0,0)))(hne:g≠gm) :
    Calls Tryz.prog 200 #[.agg #[.pointer (some ⟨g,0,none⟩),.pointer (some ⟨gm,0,none⟩)]] w (cP g gm (cF 1968 c C).1 (cF 1968 c C).2 w):=by
 obtain⟨hcode1,hcode2⟩:=hcode
 have hlen:=hC.len
 refine en 4 Tryz.func200 rfl<|sg<|L0<|dv #[.pointer (some ⟨g,0,none⟩),.pointer (some ⟨gm,0,none⟩)] fun i j k d a=>nt<|go<|L0<|bS d<|?_
 have b:=ap.old hC a
 refine L0<|Oc<|m3 (kR (most:=1968) ⟨hcode1,hcode2⟩ b (ub a hm) hne) fun l e f h=>?_
 have m:=(b).wordV
 have n:=bT (cT (b).rng 1)
 refine nl<|rm (.tuple #[])<|?_
 have hs:cF 1968 c C=((bD C 1968),(aQ.mk c 0 C.wordV ((C.wordsC 1).wordV) 0 0 0 0 0 0 0 0 [] [] [] [] 0 0 0 0 0 [])):=by
   unfold cF
   (try simp only[bs,if_true,if_false,decide_true,decide_false,reduceIte])
   all_goals rfl
 rw[hs]
 exact⟨rfl,e,⟨_,⟨f,rfl⟩,⟨_,_,_,_,_,rfl,aS.nil ..,aS.nil ..,aS.nil ..,aS.nil ..,aS.nil ..,⟨(b8 (x:=c) (by omega)),(b8 (x:=0) (by omega)),(aD (x:=C.wordV) (by omega)),(aD (x:=(C.wordsC 1).wordV) (by omega)),(aD (x:=0) (by omega)),(aD (x:=0) (by omega)),(aD (x:=0) (by omega)),(aD (x:=0) (by omega)),(aD (x:=0) (by omega)),(aD (x:=0) (by omega)),(aD (x:=0) (by omega)),(aD (x:=0) (by omega)),(b8 (x:=0) (by omega)),(b8 (x:=0) (by omega)),(b8 (x:=0) (by omega)),(b8 (x:=0) (by omega)),(b8 (x:=0) (by omega))⟩⟩⟩,(uz a h)⟩
theorem s6{g gm:Nat}{c:Int}{C:aj}{w:World}(hcode:B8 c)(hC:ap w g C)(hm:w.heap[gm]? = some (.cells (mC c) 30 (0,0)))(hne:g≠gm) :
    Calls Tryz.prog 200 #[.agg #[.pointer (some ⟨g,0,none⟩),.pointer (some ⟨gm,0,none⟩)]] w (p2 g gm (bD C 1968) (mG c 0 C.wordV (C.wordsC 1).wordV 0 0 0 0 0 0 0 0 nS nS nS nS 0 0 0 0 0 nS) w):=by
 obtain⟨hcode1,hcode2⟩:=hcode
 have hlen:=hC.len
 refine en 4 Tryz.func200 rfl<|sg<|L0<|dv #[.pointer (some ⟨g,0,none⟩),.pointer (some ⟨gm,0,none⟩)] fun i j k d a=>nt<|go<|L0<|bS d<|?_
 have b:=ap.old hC a
 refine L0<|Oc<|m3 (kR (most:=1968) ⟨hcode1,hcode2⟩ b (ub a hm) hne) fun l e f h=>?_
 have m:=(b).wordV
 have n:=bT (cT (b).rng 1)
 refine nl<|rm (.tuple #[])<|?_
 have hs:bD C 1968=(bD C 1968):=by
   unfold bD iK
   (try simp only[bs,if_true,if_false,decide_true,decide_false,reduceIte])
   all_goals rfl
 rw[hs]
 exact⟨rfl,e,f,(uz a h)⟩
theorem uF{g gm:Nat}{c:Int}{C:aj}{w:World}(hcode:B8 c)(hC:ap w g C)(hm:w.heap[gm]? = some (.cells (mC c) 30 (0,0)))(hne:g≠gm) :
    Calls Tryz.prog 199 #[.agg #[.pointer (some ⟨g,0,none⟩),.pointer (some ⟨gm,0,none⟩)]] w (cP g gm (ew c C).1 (ew c C).2 w):=by
 obtain⟨hcode1,hcode2⟩:=hcode
 have hlen:=hC.len
 refine en 46 Tryz.func199 rfl<|sg<|L0<|dv #[.pointer (some ⟨g,0,none⟩),.pointer (some ⟨gm,0,none⟩)] fun o a3 F G f=>ng<|L0<|bS G<|?_
 have t:=ap.old hC f
 refine L0<|Oc<|m3 (s6 ⟨hcode1,hcode2⟩ t (ub f hm) hne) fun a4 Q R p=>?_
 have a5:=(t).wordV
 have a6:=bT (cT (t).rng 1)
 refine ng<|Pl 1<|?_
 have i:=nb (ap.lt hC) lr F
 have H:=aF.blk p (aa (Ne.symm i) (aa (Ne.symm (nb (au hm) lr F)) aA)) G
 refine L0<|aP H 0<|L0<|Oc<|m3 (ch Q) fun a7 S u a8=>L0<|Oi ((bD C 1968).byteV)<|Pl 1<|nt<|sq<|Rg 12 (fun w'=>w'.cell? ⟨o,0,none⟩=some (.pointer (some ⟨g,0,none⟩))∧w'.cell? ⟨o,1,none⟩=some (.pointer (some ⟨gm,0,none⟩))∧w'.cell? ⟨gm,3,none⟩=some (.int .u16 ((C.wordsC 1).wordV))) fun a9 q=>?_
 have v:=aG u q
 have j:=b6 v (Ne.symm i) H
 have y:=b6 v (Ne.symm hne) R
 refine bj ⟨(ah j rfl),(ah j rfl),(ah y rfl)⟩ fun a=>Rt 0 a<|Rl 1 a (fun _ hs=>hs.1)<|Rt 2 a<|Rt 3 a<|Rl 4 a (fun _ hs=>hs.2.1)<|Rt 5 a<|Rt 6 a<|Rl 7 a (fun _ hs=>hs.2.2)<|Rr 8 a (.int .i64 ((C.wordsC 1).wordV)) (fun _ _=>bZ (.int .i64 (IntKind.i64.wrap ((C.wordsC 1).wordV))) (by kernel_rfl) (congrArg (Value.int .i64) (i64_in (by omega))))<|R0 9 rfl<|Oc<|mq (iW (n:=(C.wordsC 1).wordV) (by omega))<|bj ⟨(ah j rfl),(ah j rfl),(ah y rfl)⟩ fun T=>Rt 10 T<|?_
 refine R0 11 rfl<|Oc<|m2 (bg ((((bD C 1968).byteV)==(dN ((C.wordsC 1).wordV)))) 5 (ap.old S q)) fun ab U k=>?_
 have z:=b6 k (Ne.symm i) j
 have I:=b6 k (Ne.symm hne) y
 refine bj ⟨(ah z rfl),(ah z rfl),(ah I rfl)⟩ fun ad=>re<|tn<|sq<|Rg 16 (fun w'=>w'.cell? ⟨o,0,none⟩=some (.pointer (some ⟨g,0,none⟩))∧w'.cell? ⟨o,1,none⟩=some (.pointer (some ⟨gm,0,none⟩))∧w'.cell? ⟨gm,3,none⟩=some (.int .u16 ((C.wordsC 1).wordV))) fun ae d=>?_
 have A:=ub d z
 have J:=ub d I
 refine bj ⟨(ah A rfl),(ah A rfl),(ah J rfl)⟩ fun b=>Rt 0 b<|Rl 1 b (fun _ hs=>hs.1)<|Rt 2 b<|Rt 4 b<|Rl 5 b (fun _ hs=>hs.2.1)<|Rt 6 b<|Rt 7 b<|Rl 8 b (fun _ hs=>hs.2.2)<|Rr 9 b (.int .i64 ((C.wordsC 1).wordV)) (fun _ _=>bZ (.int .i64 (IntKind.i64.wrap ((C.wordsC 1).wordV))) (by kernel_rfl) (congrArg (Value.int .i64) (i64_in (by omega))))<|?_
 have K:=ap.old U d
 refine R0 3 rfl<|Oc<|qX (cL (n:=(bD C 1968).byteV) K) fun V W af X ag ai Y l=>?_
 have ak:=Nat.le_trans (aj.bytesR_le (((bD C 1968).bytesC 1).need (((bD C 1968).byteV)==(dN ((C.wordsC 1).wordV))) 5) ((bD C 1968).byteV)) (ap.len K)
 have B:=b6 l (Ne.symm i) A
 have L:=b6 l (Ne.symm hne) J
 refine bj ⟨(ah B rfl),(ah B rfl),(ah L rfl)⟩ fun al=>R0 10 rfl<|Oc (args:=#[.slice V (((((bD C 1968).bytesC 1).need (((bD C 1968).byteV)==(dN ((C.wordsC 1).wordV))) 5).bytesR ((bD C 1968).byteV)).length) W,.int .i64 ((C.wordsC 1).wordV)])<|di (pk X (by omega) (by omega) (by omega)) fun Z a0 am D an ao r=>?_
 have s:=ub r B
 have M:=ub r L
 refine bj ⟨(ah s rfl),(ah s rfl),(ah M rfl)⟩ fun m=>Rt 11 m<|Rt 12 m<|Rt 13 m<|Rt 14 m<|Rt 15 m<|re<|tn<|sg<|Pl 1<|L0<|aP s 0<|Pl 1<|?_
 refine L0<|Oc<|m2 (bg ((cz ((((bD C 1968).bytesC 1).need (((bD C 1968).byteV)==(dN ((C.wordsC 1).wordV))) 5).bytesR ((bD C 1968).byteV)) ((C.wordsC 1).wordV)).isSome) 6 (ap.old Y r)) fun ar a1 E=>nt<|go<|Pl 1<|?_
 refine L0<|aP (b6 E (Ne.symm i) s) 1<|Pl 3<|?_
 have N:=b6 E (Ne.symm hne) M
 refine L0<|cj N 13 (mG c 0 C.wordV ((C.wordsC 1).wordV) 0 0 0 0 0 0 0 0 nS (.slice Z (((cz ((((bD C 1968).bytesC 1).need (((bD C 1968).byteV)==(dN ((C.wordsC 1).wordV))) 5).bytesR ((bD C 1968).byteV)) ((C.wordsC 1).wordV)).getD []).length) a0) nS nS 0 0 0 0 0 nS) fun aw a2 O=>nl<|rm (.tuple #[])<|?_
 have P:=us E O
 have hs:ew c C=((((((bD C 1968).bytesC 1).need (((bD C 1968).byteV)==(dN ((C.wordsC 1).wordV))) 5).bytesC ((bD C 1968).byteV)).need ((cz ((((bD C 1968).bytesC 1).need (((bD C 1968).byteV)==(dN ((C.wordsC 1).wordV))) 5).bytesR ((bD C 1968).byteV)) ((C.wordsC 1).wordV)).isSome) 6),(aQ.mk c 0 C.wordV ((C.wordsC 1).wordV) 0 0 0 0 0 0 0 0 [] ((cz ((((bD C 1968).bytesC 1).need (((bD C 1968).byteV)==(dN ((C.wordsC 1).wordV))) 5).bytesR ((bD C 1968).byteV)) ((C.wordsC 1).wordV)).getD []) [] [] 0 0 0 0 0 [])):=by
   unfold ew kk km eX ji kM
   (try simp only[bs,if_true,if_false,decide_true,decide_false,reduceIte])
   all_goals rfl
 rw[hs]
 exact⟨rfl,(ap.upd a1 O (aa hne aA) (ax (aY N (by decide)) aK)),⟨_,⟨a2,rfl⟩,⟨_,_,_,_,_,rfl,aS.nil ..,((aq D P (fun x hx=>(aa (fun e=>(aB (ap.lt hC) (le (le (le (le (le (le f.size p.size) u.size) q.size) k.size) d.size) l.size) D) (e▸hx)) (aa (fun e=>(aB (au hm) (le (le (le (le (le (le f.size p.size) u.size) q.size) k.size) d.size) l.size) D) (e▸hx)) aA))) (fun _ _ h=>h))).rd,aS.nil ..,aS.nil ..,aS.nil ..,⟨(b8 (x:=c) (by omega)),(b8 (x:=0) (by omega)),(aD (x:=C.wordV) (by omega)),(aD (x:=(C.wordsC 1).wordV) (by omega)),(aD (x:=0) (by omega)),(aD (x:=0) (by omega)),(aD (x:=0) (by omega)),(aD (x:=0) (by omega)),(aD (x:=0) (by omega)),(aD (x:=0) (by omega)),(aD (x:=0) (by omega)),(aD (x:=0) (by omega)),(b8 (x:=0) (by omega)),(b8 (x:=0) (by omega)),(b8 (x:=0) (by omega)),(b8 (x:=0) (by omega)),(b8 (x:=0) (by omega))⟩⟩⟩,(uz f (ut p (ui v (ui k (uz d (ui l (uz r P))))) (ac im (ac im av))))⟩
open Go.RowKit
theorem vS(c:Int) : c=1∨c=2∨c=5∨c=15∨(c≠1∧c≠2∧c≠5∧c≠15):=by omega
theorem lD{m:Md}{A:Option Addr}{cp:Nat}{b:List Int}{w:World}{c:Int}(hcode:B8 c)(hsl:bh m w (.slice A b.length cp) b)(hb:b.length≤1048576) :
    Calls Tryz.prog 138 #[.int .i64 0,.int .u8 c,.slice A b.length cp] w (eb (ag aC 0 c b) w):=by
 obtain⟨hcode1,hcode2⟩:=hcode
 have hln:(b.length:Int)≤1048576:=by omega
 refine en 72 Tryz.func138 rfl<|sg<|L0<|bO mZ fun cK cL n k y=>Pl 1<|nt<|sq<|sg<|Pl 6<|nt<|c0<|?_
 refine bp<|sg<|Pl 2<|L0<|bO mZ fun a cM g o bx=>L0<|be o (mC c) fun cN J p=>ng<|Pl 1<|?_
 have i:=ud bx p g
 have u:=aG y i
 refine L0<|Oc<|e3 (dW (bh.old hsl u) (by omega)) fun d cO f s z=>Pl 1<|L0<|bO #[.pointer none,.pointer none] fun cP cQ r ae bz=>L0<|be ae #[.pointer (some ⟨d,0,none⟩),.pointer (some ⟨a,0,none⟩)] fun cS bA af=>ng<|L0<|vg fun cT cU ah bB ak=>?_
 have S:=ub ak bA
 refine L0<|bS S<|Pl 1<|L0<|bS S<|Pl 2<|L0<|gN bB 1 fun cV bD al=>?_
 have t:=nb (au ae) af.size ah
 have T:=b6 al t S
 refine L0<|bS T<|Pl 1<|L0<|bS T<|Pl 2<|L0<|gN bD 2 fun cW bE am=>?_
 have U:=b6 am t T
 refine L0<|bS U<|Pl 1<|L0<|bS U<|Pl 2<|L0<|gN bE 5 fun cX bF an=>?_
 have v:=b6 an t U
 refine L0<|bS v<|Pl 1<|L0<|bS v<|Pl 2<|L0<|gN bF 15 fun cY B C=>Pl 2<|ng<|Pl 2<|?_
 have D:=ud bz (aG af (ud ak (u1 al (u1 am (u1 an C im) im) im) ah)) r
 have j:=aG z D
 have E:=aG u j
 rcases vS c with hk|hk|hk|hk|hk
 have k1:(c==1)=true:=by rw[hk];rfl
 have k2:(c==2)=false:=by rw[hk];rfl
 have k5:(c==5)=false:=by rw[hk];rfl
 have l:(c==15)=false:=by rw[hk];rfl
 refine L0<|n7 (hf:=(by subst hk;kernel_rfl)) B c (.agg #[.nilFunc,.nilFunc]) (some (0,.agg #[.func (.func 196) #[.agg #[.pointer (some ⟨d,0,none⟩),.pointer (some ⟨a,0,none⟩)]] #[],.func (.func 197) #[.agg #[.pointer (some ⟨d,0,none⟩),.pointer (some ⟨a,0,none⟩)]] #[]]))<|Pl 3<|L0<|bO #[.nilFunc,.nilFunc] fun cZ d0 bH bJ bK=>L0<|be bJ #[.func (.func 196) #[.agg #[.pointer (some ⟨d,0,none⟩),.pointer (some ⟨a,0,none⟩)]] #[],.func (.func 197) #[.agg #[.pointer (some ⟨d,0,none⟩),.pointer (some ⟨a,0,none⟩)]] #[]] fun d1 bL bM=>Pl 1<|nt<|sq<|sg<|Pl 2<|nt<|c0<|?_
 refine bp<|sg<|Pl 2<|L0<|aP bL 0<|?_
 have V:=ud bK bM bH
 have ao:=aG j V
 have aq:=nb (au o) p.size f
 refine L0<|gx #[.agg #[.pointer (some ⟨d,0,none⟩),.pointer (some ⟨a,0,none⟩)]] #[] (args:=#[.agg #[.pointer (some ⟨d,0,none⟩),.pointer (some ⟨a,0,none⟩)]])<|m3 (iZ (c:=c) ⟨hcode1,hcode2⟩ (ap.old s (aG D V)) (ub ao J) (Ne.symm aq)) fun d2 bN bQ ar=>?_
 obtain⟨bR,K,W⟩:=bQ
 refine ab bN fun x89 aw ay=>?_
 refine ng<|Pl 1<|?_
 have aB:=uz V ar
 have aD:=nb (ap.lt s) lr r
 have aE:=aF.blk (us C aB) (aa t (aa (Ne.symm aD) (aa (Ne.symm (nb (au o) (le p.size z.size) r)) aA))) v
 refine L0<|aP aE 0<|L0<|Oc<|m2 (cG ay) fun d3 aH L=>nt<|sq<|sg<|Pl 1<|?_
 refine L0<|aP (b6 L (Ne.symm aD) aE) 0<|L0<|Oc<|mq (bG aH)<|?_
 have d4:=ap.len aH
 refine Pl 1<|ng<|Pl 2<|nt<|?_
 have X:=u1 aB L im
 have aI:=ut E X (ac (ni u.size f) (ac (ni y.size g) av))
 refine cb ((x89.endC.e != 0)) (fun F=>?_) (fun F=>?_)
 have Y:=az F
 refine sg<|Pl 2<|?_
 refine L0<|be (ub (ud i (ud j X f) g) k) mZ fun d5 bT bU=>Pl 1<|nt<|rt<|tr<|bP bT (.int .i64 x89.endC.e)<|?_
 subst aw
 have hs:ag aC 0 c b=aL ((cF 2000 c (aj.mk b false 0)).2) ((cF 2000 c (aj.mk b false 0)).1):=by
   unfold ag aC
   (try simp only[F,bs,if_true,if_false,decide_true,decide_false,eq_self,true_or,or_true,or_false,false_or,if_true,if_false,cy,co,cw,cv,reduceIte,k1,k2,k5,l])
   all_goals rfl
 rw[hs]
 exact bC Y (ud aI bU n)
 have Y:=ai F
 refine bp<|sg<|?_
 refine L0<|bS (hz:=(by rw[K.2];exact aO)) (b6 L aq K.1)<|?_
 refine L0<|be (hz:=(by rw[K.2];exact aO)) (hv:=W.size) (h1:=W.one) (ub (ud i (ud j X f) g) k) (bR) fun d6 bV aJ=>Pl 1<|nt<|rt<|eJ 22 K.2 bV (.int .i64 0)<|?_
 subst aw
 have hs:ag aC 0 c b=aL ((cF 2000 c (aj.mk b false 0)).2) ((cF 2000 c (aj.mk b false 0)).1):=by
   unfold ag aC
   (try simp only[F,bs,if_true,if_false,decide_true,decide_false,eq_self,true_or,or_true,or_false,false_or,if_true,if_false,cy,co,cw,cv,reduceIte,k1,k2,k5,l])
   all_goals rfl
 rw[hs]
 exact bI Y (aN.upd W (us L aJ) (ax (ap.safe ay _ (by decide)) (ax (aY (ub (ud i (ud ao ar f) g) k) (by decide)) aK))) (ud aI aJ n)
 have k1:(c==1)=false:=by rw[hk];rfl
 have k2:(c==2)=true:=by rw[hk];rfl
 have k5:(c==5)=false:=by rw[hk];rfl
 have l:(c==15)=false:=by rw[hk];rfl
 refine L0<|n7 (hf:=(by subst hk;kernel_rfl)) B c (.agg #[.nilFunc,.nilFunc]) (some (1,.agg #[.func (.func 196) #[.agg #[.pointer (some ⟨d,0,none⟩),.pointer (some ⟨a,0,none⟩)]] #[],.func (.func 197) #[.agg #[.pointer (some ⟨d,0,none⟩),.pointer (some ⟨a,0,none⟩)]] #[]]))<|Pl 3<|L0<|bO #[.nilFunc,.nilFunc] fun d7 d8 bW bX bY=>L0<|be bX #[.func (.func 196) #[.agg #[.pointer (some ⟨d,0,none⟩),.pointer (some ⟨a,0,none⟩)]] #[],.func (.func 197) #[.agg #[.pointer (some ⟨d,0,none⟩),.pointer (some ⟨a,0,none⟩)]] #[]] fun d9 bZ c2=>Pl 1<|nt<|sq<|sg<|Pl 2<|nt<|c0<|?_
 refine bp<|sg<|Pl 2<|L0<|aP bZ 0<|?_
 have Z:=ud bY c2 bW
 have aM:=aG j Z
 have aR:=nb (au o) p.size f
 refine L0<|gx #[.agg #[.pointer (some ⟨d,0,none⟩),.pointer (some ⟨a,0,none⟩)]] #[] (args:=#[.agg #[.pointer (some ⟨d,0,none⟩),.pointer (some ⟨a,0,none⟩)]])<|m3 (iZ (c:=c) ⟨hcode1,hcode2⟩ (ap.old s (aG D Z)) (ub aM J) (Ne.symm aR)) fun da c3 c4 aS=>?_
 obtain⟨c5,M,a0⟩:=c4
 refine ab c3 fun aT aU aV=>?_
 refine ng<|Pl 1<|?_
 have aW:=uz Z aS
 have aX:=nb (ap.lt s) lr r
 have aZ:=aF.blk (us C aW) (aa t (aa (Ne.symm aX) (aa (Ne.symm (nb (au o) (le p.size z.size) r)) aA))) v
 refine L0<|aP aZ 0<|L0<|Oc<|m2 (cG aV) fun db b0 N=>nt<|sq<|sg<|Pl 1<|?_
 refine L0<|aP (b6 N (Ne.symm aX) aZ) 0<|L0<|Oc<|mq (bG b0)<|?_
 have dc:=ap.len b0
 refine Pl 1<|ng<|Pl 2<|nt<|?_
 have a1:=u1 aW N im
 have b1:=ut E a1 (ac (ni u.size f) (ac (ni y.size g) av))
 refine cb ((aT.endC.e != 0)) (fun G=>?_) (fun G=>?_)
 have a2:=az G
 refine sg<|Pl 2<|?_
 refine L0<|be (ub (ud i (ud j a1 f) g) k) mZ fun dd c6 c7=>Pl 1<|nt<|rt<|tr<|bP c6 (.int .i64 aT.endC.e)<|?_
 subst aU
 have hs:ag aC 0 c b=aL ((cF 2000 c (aj.mk b false 0)).2) ((cF 2000 c (aj.mk b false 0)).1):=by
   unfold ag aC
   (try simp only[G,bs,if_true,if_false,decide_true,decide_false,eq_self,true_or,or_true,or_false,false_or,if_true,if_false,cy,co,cw,cv,reduceIte,k1,k2,k5,l])
   all_goals rfl
 rw[hs]
 exact bC a2 (ud b1 c7 n)
 have a2:=ai G
 refine bp<|sg<|?_
 refine L0<|bS (hz:=(by rw[M.2];exact aO)) (b6 N aR M.1)<|?_
 refine L0<|be (hz:=(by rw[M.2];exact aO)) (hv:=a0.size) (h1:=a0.one) (ub (ud i (ud j a1 f) g) k) (c5) fun de c8 b2=>Pl 1<|nt<|rt<|eJ 22 M.2 c8 (.int .i64 0)<|?_
 subst aU
 have hs:ag aC 0 c b=aL ((cF 2000 c (aj.mk b false 0)).2) ((cF 2000 c (aj.mk b false 0)).1):=by
   unfold ag aC
   (try simp only[G,bs,if_true,if_false,decide_true,decide_false,eq_self,true_or,or_true,or_false,false_or,if_true,if_false,cy,co,cw,cv,reduceIte,k1,k2,k5,l])
   all_goals rfl
 rw[hs]
 exact bI a2 (aN.upd a0 (us N b2) (ax (ap.safe aV _ (by decide)) (ax (aY (ub (ud i (ud aM aS f) g) k) (by decide)) aK))) (ud b1 b2 n)
 have k1:(c==1)=false:=by rw[hk];rfl
 have k2:(c==2)=false:=by rw[hk];rfl
 have k5:(c==5)=true:=by rw[hk];rfl
 have l:(c==15)=false:=by rw[hk];rfl
 refine L0<|n7 (hf:=(by subst hk;kernel_rfl)) B c (.agg #[.nilFunc,.nilFunc]) (some (2,.agg #[.func (.func 198) #[.agg #[.pointer (some ⟨d,0,none⟩),.pointer (some ⟨a,0,none⟩)]] #[],.func (.func 198) #[.agg #[.pointer (some ⟨d,0,none⟩),.pointer (some ⟨a,0,none⟩)]] #[]]))<|Pl 3<|L0<|bO #[.nilFunc,.nilFunc] fun df dg c9 ca cc=>L0<|be ca #[.func (.func 198) #[.agg #[.pointer (some ⟨d,0,none⟩),.pointer (some ⟨a,0,none⟩)]] #[],.func (.func 198) #[.agg #[.pointer (some ⟨d,0,none⟩),.pointer (some ⟨a,0,none⟩)]] #[]] fun dh cd ce=>Pl 1<|nt<|sq<|sg<|Pl 2<|nt<|c0<|?_
 refine bp<|sg<|Pl 2<|L0<|aP cd 0<|?_
 have a3:=ud cc ce c9
 have b3:=aG j a3
 have b4:=nb (au o) p.size f
 refine L0<|gx #[.agg #[.pointer (some ⟨d,0,none⟩),.pointer (some ⟨a,0,none⟩)]] #[] (args:=#[.agg #[.pointer (some ⟨d,0,none⟩),.pointer (some ⟨a,0,none⟩)]])<|m3 (m0 (c:=c) ⟨hcode1,hcode2⟩ (ap.old s (aG D a3)) (ub b3 J) (Ne.symm b4)) fun di cf cg b5=>?_
 obtain⟨ch,O,a4⟩:=cg
 refine ab cf fun b7 b8 b9=>?_
 refine ng<|Pl 1<|?_
 have ba:=uz a3 b5
 have bb:=nb (ap.lt s) lr r
 have bc:=aF.blk (us C ba) (aa t (aa (Ne.symm bb) (aa (Ne.symm (nb (au o) (le p.size z.size) r)) aA))) v
 refine L0<|aP bc 0<|L0<|Oc<|m2 (cG b9) fun dj bd P=>nt<|sq<|sg<|Pl 1<|?_
 refine L0<|aP (b6 P (Ne.symm bb) bc) 0<|L0<|Oc<|mq (bG bd)<|?_
 have dk:=ap.len bd
 refine Pl 1<|ng<|Pl 2<|nt<|?_
 have a5:=u1 ba P im
 have bf:=ut E a5 (ac (ni u.size f) (ac (ni y.size g) av))
 refine cb ((b7.endC.e != 0)) (fun H=>?_) (fun H=>?_)
 have a6:=az H
 refine sg<|Pl 2<|?_
 refine L0<|be (ub (ud i (ud j a5 f) g) k) mZ fun dl ci cj=>Pl 1<|nt<|rt<|tr<|bP ci (.int .i64 b7.endC.e)<|?_
 subst b8
 have hs:ag aC 0 c b=aL ((ck c (aj.mk b false 0)).2) ((ck c (aj.mk b false 0)).1):=by
   unfold ag aC
   (try simp only[H,bs,if_true,if_false,decide_true,decide_false,eq_self,true_or,or_true,or_false,false_or,if_true,if_false,cy,co,cw,cv,reduceIte,k1,k2,k5,l])
   all_goals rfl
 rw[hs]
 exact bC a6 (ud bf cj n)
 have a6:=ai H
 refine bp<|sg<|?_
 refine L0<|bS (hz:=(by rw[O.2];exact aO)) (b6 P b4 O.1)<|?_
 refine L0<|be (hz:=(by rw[O.2];exact aO)) (hv:=a4.size) (h1:=a4.one) (ub (ud i (ud j a5 f) g) k) (ch) fun dm cl bg=>Pl 1<|nt<|rt<|eJ 22 O.2 cl (.int .i64 0)<|?_
 subst b8
 have hs:ag aC 0 c b=aL ((ck c (aj.mk b false 0)).2) ((ck c (aj.mk b false 0)).1):=by
   unfold ag aC
   (try simp only[H,bs,if_true,if_false,decide_true,decide_false,eq_self,true_or,or_true,or_false,false_or,if_true,if_false,cy,co,cw,cv,reduceIte,k1,k2,k5,l])
   all_goals rfl
 rw[hs]
 exact bI a6 (aN.upd a4 (us P bg) (ax (ap.safe b9 _ (by decide)) (ax (aY (ub (ud i (ud b3 b5 f) g) k) (by decide)) aK))) (ud bf bg n)
 have k1:(c==1)=false:=by rw[hk];rfl
 have k2:(c==2)=false:=by rw[hk];rfl
 have k5:(c==5)=false:=by rw[hk];rfl
 have l:(c==15)=true:=by rw[hk];rfl
 refine L0<|n7 (hf:=(by subst hk;kernel_rfl)) B c (.agg #[.nilFunc,.nilFunc]) (some (3,.agg #[.func (.func 199) #[.agg #[.pointer (some ⟨d,0,none⟩),.pointer (some ⟨a,0,none⟩)]] #[],.func (.func 200) #[.agg #[.pointer (some ⟨d,0,none⟩),.pointer (some ⟨a,0,none⟩)]] #[]]))<|Pl 3<|L0<|bO #[.nilFunc,.nilFunc] fun dn dp cm cn cq=>L0<|be cn #[.func (.func 199) #[.agg #[.pointer (some ⟨d,0,none⟩),.pointer (some ⟨a,0,none⟩)]] #[],.func (.func 200) #[.agg #[.pointer (some ⟨d,0,none⟩),.pointer (some ⟨a,0,none⟩)]] #[]] fun dq cr cs=>Pl 1<|nt<|sq<|sg<|Pl 2<|nt<|c0<|?_
 refine bp<|sg<|Pl 2<|L0<|aP cr 0<|?_
 have a7:=ud cq cs cm
 have bi:=aG j a7
 have bj:=nb (au o) p.size f
 refine L0<|gx #[.agg #[.pointer (some ⟨d,0,none⟩),.pointer (some ⟨a,0,none⟩)]] #[] (args:=#[.agg #[.pointer (some ⟨d,0,none⟩),.pointer (some ⟨a,0,none⟩)]])<|m3 (uF (c:=c) ⟨hcode1,hcode2⟩ (ap.old s (aG D a7)) (ub bi J) (Ne.symm bj)) fun dr bk ct bl=>?_
 obtain⟨cu,Q,a8⟩:=ct
 refine ng<|Pl 1<|?_
 have bm:=uz a7 bl
 have bn:=nb (ap.lt s) lr r
 have bo:=aF.blk (us C bm) (aa t (aa (Ne.symm bn) (aa (Ne.symm (nb (au o) (le p.size z.size) r)) aA))) v
 refine L0<|aP bo 0<|L0<|Oc<|m2 (cG bk) fun ds cx R=>?_
 refine ab cx fun bq br bt=>?_
 refine nt<|sq<|sg<|Pl 1<|?_
 refine L0<|aP (b6 R (Ne.symm bn) bo) 0<|L0<|Oc<|mq (bG bt)<|?_
 have dt:=ap.len bt
 refine Pl 1<|ng<|Pl 2<|nt<|?_
 have a9:=u1 bm R im
 have bu:=ut E a9 (ac (ni u.size f) (ac (ni y.size g) av))
 refine cb ((bq.e != 0)) (fun I=>?_) (fun I=>?_)
 have ad:=az I
 refine sg<|Pl 2<|?_
 refine L0<|be (ub (ud i (ud j a9 f) g) k) mZ fun du cz cA=>Pl 1<|nt<|rt<|tr<|bP cz (.int .i64 bq.e)<|?_
 subst br
 have hs:ag aC 0 c b=aL ((ew c (aj.mk b false 0)).2) ((ew c (aj.mk b false 0)).1):=by
   unfold ag aC
   (try simp only[I,bs,if_true,if_false,decide_true,decide_false,eq_self,true_or,or_true,or_false,false_or,if_true,if_false,cy,co,cw,cv,reduceIte,k1,k2,k5,l])
   all_goals rfl
 rw[hs]
 exact bC ad (ud bu cA n)
 have ad:=ai I
 refine bp<|sg<|?_
 refine L0<|bS (hz:=(by rw[Q.2];exact aO)) (b6 R bj Q.1)<|?_
 refine L0<|be (hz:=(by rw[Q.2];exact aO)) (hv:=a8.size) (h1:=a8.one) (ub (ud i (ud j a9 f) g) k) (cu) fun dv cB bv=>Pl 1<|nt<|rt<|eJ 22 Q.2 cB (.int .i64 0)<|?_
 subst br
 have hs:ag aC 0 c b=aL ((ew c (aj.mk b false 0)).2) ((ew c (aj.mk b false 0)).1):=by
   unfold ag aC
   (try simp only[I,bs,if_true,if_false,decide_true,decide_false,eq_self,true_or,or_true,or_false,false_or,if_true,if_false,cy,co,cw,cv,reduceIte,k1,k2,k5,l])
   all_goals rfl
 rw[hs]
 exact bI ad (aN.upd a8 (us R bv) (ax (ap.safe bk _ (by decide)) (ax (aY (ub (ud i (ud bi bl f) g) k) (by decide)) aK))) (ud bu bv n)
 have k1:(c==1)=false:=by simpa using hk.1
 have k2:(c==2)=false:=by simpa using hk.2.1
 have k5:(c==5)=false:=by simpa using hk.2.2.1
 have l:(c==15)=false:=by simpa using hk.2.2.2
 refine L0<|n7 (hf:=(xX (q:=.u8) (x:=c) #[⟨.int .u8 1,.agg #[.func (.func 196) #[.agg #[.pointer (some ⟨d,0,none⟩),.pointer (some ⟨a,0,none⟩)]] #[],.func (.func 197) #[.agg #[.pointer (some ⟨d,0,none⟩),.pointer (some ⟨a,0,none⟩)]] #[]],0⟩,⟨.int .u8 2,.agg #[.func (.func 196) #[.agg #[.pointer (some ⟨d,0,none⟩),.pointer (some ⟨a,0,none⟩)]] #[],.func (.func 197) #[.agg #[.pointer (some ⟨d,0,none⟩),.pointer (some ⟨a,0,none⟩)]] #[]],1⟩,⟨.int .u8 5,.agg #[.func (.func 198) #[.agg #[.pointer (some ⟨d,0,none⟩),.pointer (some ⟨a,0,none⟩)]] #[],.func (.func 198) #[.agg #[.pointer (some ⟨d,0,none⟩),.pointer (some ⟨a,0,none⟩)]] #[]],2⟩,⟨.int .u8 15,.agg #[.func (.func 199) #[.agg #[.pointer (some ⟨d,0,none⟩),.pointer (some ⟨a,0,none⟩)]] #[],.func (.func 200) #[.agg #[.pointer (some ⟨d,0,none⟩),.pointer (some ⟨a,0,none⟩)]] #[]],3⟩] (fD _ _ (by intro e he;simp only[List.mem_cons,List.not_mem_nil,or_false] at he;obtain⟨z1,z2,z5,dw⟩:=hk;rcases he with rfl | rfl | rfl | rfl<;>exact⟨_,rfl,fun h=>by simp_all⟩)))) B c (.agg #[.nilFunc,.nilFunc]) none<|Pl 3<|L0<|bO #[.nilFunc,.nilFunc] fun dx dy cC cD cE=>L0<|be cD #[.nilFunc,.nilFunc] fun dz dA cH=>Pl 1<|nt<|sq<|sg<|Pl 2<|nt<|c1<|?_
 refine sg<|Pl 1<|?_
 have bw:=ud cE cH cC
 refine L0<|be (ub (aG i (aG j bw)) k) mZ fun dB cI cJ=>Pl 1<|nt<|rt<|tr<|bP cI (.int .i64 4)<|?_
 have hs:ag aC 0 c b=(aQ.zero,4):=by
   unfold ag aC
   (try simp only[bs,if_true,if_false,decide_true,decide_false,eq_self,true_or,or_true,or_false,false_or,if_true,if_false,cy,co,cw,cv,reduceIte,k1,k2,k5,l])
   all_goals rfl
 rw[hs]
 exact cR (ud E (uz bw cJ) n)
theorem lG{m:Md}{A:Option Addr}{cp:Nat}{b:List Int}{w:World}{c:Int}(hcode:B8 c)(hsl:bh m w (.slice A b.length cp) b)(hb:b.length≤1048576) :
    Calls Tryz.prog 138 #[.int .i64 1,.int .u8 c,.slice A b.length cp] w (eb (ag aC 1 c b) w):=by
 obtain⟨hcode1,hcode2⟩:=hcode
 have hln:(b.length:Int)≤1048576:=by omega
 refine en 72 Tryz.func138 rfl<|sg<|L0<|bO mZ fun cL cM n k y=>Pl 1<|nt<|sq<|sg<|Pl 6<|nt<|c0<|?_
 refine bp<|sg<|Pl 2<|L0<|bO mZ fun a cN g o bx=>L0<|be o (mC c) fun cO J p=>ng<|Pl 1<|?_
 have i:=ud bx p g
 have u:=aG y i
 refine L0<|Oc<|e3 (dW (bh.old hsl u) (by omega)) fun d cP f s z=>Pl 1<|L0<|bO #[.pointer none,.pointer none] fun cQ cS r ae bz=>L0<|be ae #[.pointer (some ⟨d,0,none⟩),.pointer (some ⟨a,0,none⟩)] fun cT bA af=>ng<|L0<|vg fun cU cV ah bB ak=>?_
 have S:=ub ak bA
 refine L0<|bS S<|Pl 1<|L0<|bS S<|Pl 2<|L0<|gN bB 1 fun cW bD al=>?_
 have t:=nb (au ae) af.size ah
 have T:=b6 al t S
 refine L0<|bS T<|Pl 1<|L0<|bS T<|Pl 2<|L0<|gN bD 2 fun cX bE am=>?_
 have U:=b6 am t T
 refine L0<|bS U<|Pl 1<|L0<|bS U<|Pl 2<|L0<|gN bE 5 fun cY bF an=>?_
 have v:=b6 an t U
 refine L0<|bS v<|Pl 1<|L0<|bS v<|Pl 2<|L0<|gN bF 15 fun cZ B C=>Pl 2<|ng<|Pl 2<|?_
 have D:=ud bz (aG af (ud ak (u1 al (u1 am (u1 an C im) im) im) ah)) r
 have j:=aG z D
 have E:=aG u j
 rcases vS c with hk|hk|hk|hk|hk
 have k1:(c==1)=true:=by rw[hk];rfl
 have k2:(c==2)=false:=by rw[hk];rfl
 have k5:(c==5)=false:=by rw[hk];rfl
 have l:(c==15)=false:=by rw[hk];rfl
 refine L0<|n7 (hf:=(by subst hk;kernel_rfl)) B c (.agg #[.nilFunc,.nilFunc]) (some (0,.agg #[.func (.func 196) #[.agg #[.pointer (some ⟨d,0,none⟩),.pointer (some ⟨a,0,none⟩)]] #[],.func (.func 197) #[.agg #[.pointer (some ⟨d,0,none⟩),.pointer (some ⟨a,0,none⟩)]] #[]]))<|Pl 3<|L0<|bO #[.nilFunc,.nilFunc] fun d0 d1 bH bJ bK=>L0<|be bJ #[.func (.func 196) #[.agg #[.pointer (some ⟨d,0,none⟩),.pointer (some ⟨a,0,none⟩)]] #[],.func (.func 197) #[.agg #[.pointer (some ⟨d,0,none⟩),.pointer (some ⟨a,0,none⟩)]] #[]] fun d2 bL bM=>Pl 1<|nt<|sq<|sg<|Pl 2<|nt<|c0<|?_
 refine bp<|sg<|Pl 2<|L0<|aP bL 1<|?_
 have V:=ud bK bM bH
 have ao:=aG j V
 have aq:=nb (au o) p.size f
 refine L0<|gx #[.agg #[.pointer (some ⟨d,0,none⟩),.pointer (some ⟨a,0,none⟩)]] #[] (args:=#[.agg #[.pointer (some ⟨d,0,none⟩),.pointer (some ⟨a,0,none⟩)]])<|m3 (mE (c:=c) ⟨hcode1,hcode2⟩ (ap.old s (aG D V)) (ub ao J) (Ne.symm aq)) fun d3 bN bQ ar=>?_
 obtain⟨bR,K,W⟩:=bQ
 refine ab bN fun x89 aw ay=>?_
 refine ng<|Pl 1<|?_
 have aB:=uz V ar
 have aD:=nb (ap.lt s) lr r
 have aE:=aF.blk (us C aB) (aa t (aa (Ne.symm aD) (aa (Ne.symm (nb (au o) (le p.size z.size) r)) aA))) v
 refine L0<|aP aE 0<|L0<|Oc<|m2 (cG ay) fun d4 aH L=>nt<|sq<|sg<|Pl 1<|?_
 refine L0<|aP (b6 L (Ne.symm aD) aE) 0<|L0<|Oc<|mq (bG aH)<|?_
 have d5:=ap.len aH
 refine Pl 1<|ng<|Pl 2<|nt<|?_
 have X:=u1 aB L im
 have aI:=ut E X (ac (ni u.size f) (ac (ni y.size g) av))
 refine cb ((x89.endC.e != 0)) (fun F=>?_) (fun F=>?_)
 have Y:=az F
 refine sg<|Pl 2<|?_
 refine L0<|be (ub (ud i (ud j X f) g) k) mZ fun d6 bT bU=>Pl 1<|nt<|rt<|tr<|bP bT (.int .i64 x89.endC.e)<|?_
 subst aw
 have hs:ag aC 1 c b=aL ((cn c (aj.mk b false 0)).2) ((cn c (aj.mk b false 0)).1):=by
   unfold ag aC
   (try simp only[F,bs,if_true,if_false,decide_true,decide_false,eq_self,true_or,or_true,or_false,false_or,if_true,if_false,cy,co,cw,cv,reduceIte,k1,k2,k5,l])
   all_goals rfl
 rw[hs]
 exact bC Y (ud aI bU n)
 have Y:=ai F
 refine bp<|sg<|?_
 refine L0<|bS (hz:=(by rw[K.2];exact aO)) (b6 L aq K.1)<|?_
 refine L0<|be (hz:=(by rw[K.2];exact aO)) (hv:=W.size) (h1:=W.one) (ub (ud i (ud j X f) g) k) (bR) fun d7 bV aJ=>Pl 1<|nt<|rt<|eJ 22 K.2 bV (.int .i64 0)<|?_
 subst aw
 have hs:ag aC 1 c b=aL ((cn c (aj.mk b false 0)).2) ((cn c (aj.mk b false 0)).1):=by
   unfold ag aC
   (try simp only[F,bs,if_true,if_false,decide_true,decide_false,eq_self,true_or,or_true,or_false,false_or,if_true,if_false,cy,co,cw,cv,reduceIte,k1,k2,k5,l])
   all_goals rfl
 rw[hs]
 exact bI Y (aN.upd W (us L aJ) (ax (ap.safe ay _ (by decide)) (ax (aY (ub (ud i (ud ao ar f) g) k) (by decide)) aK))) (ud aI aJ n)
 have k1:(c==1)=false:=by rw[hk];rfl
 have k2:(c==2)=true:=by rw[hk];rfl
 have k5:(c==5)=false:=by rw[hk];rfl
 have l:(c==15)=false:=by rw[hk];rfl
 refine L0<|n7 (hf:=(by subst hk;kernel_rfl)) B c (.agg #[.nilFunc,.nilFunc]) (some (1,.agg #[.func (.func 196) #[.agg #[.pointer (some ⟨d,0,none⟩),.pointer (some ⟨a,0,none⟩)]] #[],.func (.func 197) #[.agg #[.pointer (some ⟨d,0,none⟩),.pointer (some ⟨a,0,none⟩)]] #[]]))<|Pl 3<|L0<|bO #[.nilFunc,.nilFunc] fun d8 d9 bW bX bY=>L0<|be bX #[.func (.func 196) #[.agg #[.pointer (some ⟨d,0,none⟩),.pointer (some ⟨a,0,none⟩)]] #[],.func (.func 197) #[.agg #[.pointer (some ⟨d,0,none⟩),.pointer (some ⟨a,0,none⟩)]] #[]] fun da bZ c2=>Pl 1<|nt<|sq<|sg<|Pl 2<|nt<|c0<|?_
 refine bp<|sg<|Pl 2<|L0<|aP bZ 1<|?_
 have Z:=ud bY c2 bW
 have aM:=aG j Z
 have aR:=nb (au o) p.size f
 refine L0<|gx #[.agg #[.pointer (some ⟨d,0,none⟩),.pointer (some ⟨a,0,none⟩)]] #[] (args:=#[.agg #[.pointer (some ⟨d,0,none⟩),.pointer (some ⟨a,0,none⟩)]])<|m3 (mE (c:=c) ⟨hcode1,hcode2⟩ (ap.old s (aG D Z)) (ub aM J) (Ne.symm aR)) fun db c3 c4 aS=>?_
 obtain⟨c5,M,a0⟩:=c4
 refine ab c3 fun aT aU aV=>?_
 refine ng<|Pl 1<|?_
 have aW:=uz Z aS
 have aX:=nb (ap.lt s) lr r
 have aZ:=aF.blk (us C aW) (aa t (aa (Ne.symm aX) (aa (Ne.symm (nb (au o) (le p.size z.size) r)) aA))) v
 refine L0<|aP aZ 0<|L0<|Oc<|m2 (cG aV) fun dc b0 N=>nt<|sq<|sg<|Pl 1<|?_
 refine L0<|aP (b6 N (Ne.symm aX) aZ) 0<|L0<|Oc<|mq (bG b0)<|?_
 have dd:=ap.len b0
 refine Pl 1<|ng<|Pl 2<|nt<|?_
 have a1:=u1 aW N im
 have b1:=ut E a1 (ac (ni u.size f) (ac (ni y.size g) av))
 refine cb ((aT.endC.e != 0)) (fun G=>?_) (fun G=>?_)
 have a2:=az G
 refine sg<|Pl 2<|?_
 refine L0<|be (ub (ud i (ud j a1 f) g) k) mZ fun de c6 c7=>Pl 1<|nt<|rt<|tr<|bP c6 (.int .i64 aT.endC.e)<|?_
 subst aU
 have hs:ag aC 1 c b=aL ((cn c (aj.mk b false 0)).2) ((cn c (aj.mk b false 0)).1):=by
   unfold ag aC
   (try simp only[G,bs,if_true,if_false,decide_true,decide_false,eq_self,true_or,or_true,or_false,false_or,if_true,if_false,cy,co,cw,cv,reduceIte,k1,k2,k5,l])
   all_goals rfl
 rw[hs]
 exact bC a2 (ud b1 c7 n)
 have a2:=ai G
 refine bp<|sg<|?_
 refine L0<|bS (hz:=(by rw[M.2];exact aO)) (b6 N aR M.1)<|?_
 refine L0<|be (hz:=(by rw[M.2];exact aO)) (hv:=a0.size) (h1:=a0.one) (ub (ud i (ud j a1 f) g) k) (c5) fun df c8 b2=>Pl 1<|nt<|rt<|eJ 22 M.2 c8 (.int .i64 0)<|?_
 subst aU
 have hs:ag aC 1 c b=aL ((cn c (aj.mk b false 0)).2) ((cn c (aj.mk b false 0)).1):=by
   unfold ag aC
   (try simp only[G,bs,if_true,if_false,decide_true,decide_false,eq_self,true_or,or_true,or_false,false_or,if_true,if_false,cy,co,cw,cv,reduceIte,k1,k2,k5,l])
   all_goals rfl
 rw[hs]
 exact bI a2 (aN.upd a0 (us N b2) (ax (ap.safe aV _ (by decide)) (ax (aY (ub (ud i (ud aM aS f) g) k) (by decide)) aK))) (ud b1 b2 n)
 have k1:(c==1)=false:=by rw[hk];rfl
 have k2:(c==2)=false:=by rw[hk];rfl
 have k5:(c==5)=true:=by rw[hk];rfl
 have l:(c==15)=false:=by rw[hk];rfl
 refine L0<|n7 (hf:=(by subst hk;kernel_rfl)) B c (.agg #[.nilFunc,.nilFunc]) (some (2,.agg #[.func (.func 198) #[.agg #[.pointer (some ⟨d,0,none⟩),.pointer (some ⟨a,0,none⟩)]] #[],.func (.func 198) #[.agg #[.pointer (some ⟨d,0,none⟩),.pointer (some ⟨a,0,none⟩)]] #[]]))<|Pl 3<|L0<|bO #[.nilFunc,.nilFunc] fun dg dh c9 ca cc=>L0<|be ca #[.func (.func 198) #[.agg #[.pointer (some ⟨d,0,none⟩),.pointer (some ⟨a,0,none⟩)]] #[],.func (.func 198) #[.agg #[.pointer (some ⟨d,0,none⟩),.pointer (some ⟨a,0,none⟩)]] #[]] fun di cd ce=>Pl 1<|nt<|sq<|sg<|Pl 2<|nt<|c0<|?_
 refine bp<|sg<|Pl 2<|L0<|aP cd 1<|?_
 have a3:=ud cc ce c9
 have b3:=aG j a3
 have b4:=nb (au o) p.size f
 refine L0<|gx #[.agg #[.pointer (some ⟨d,0,none⟩),.pointer (some ⟨a,0,none⟩)]] #[] (args:=#[.agg #[.pointer (some ⟨d,0,none⟩),.pointer (some ⟨a,0,none⟩)]])<|m3 (m0 (c:=c) ⟨hcode1,hcode2⟩ (ap.old s (aG D a3)) (ub b3 J) (Ne.symm b4)) fun dj cf cg b5=>?_
 obtain⟨ch,O,a4⟩:=cg
 refine ab cf fun b7 b8 b9=>?_
 refine ng<|Pl 1<|?_
 have ba:=uz a3 b5
 have bb:=nb (ap.lt s) lr r
 have bc:=aF.blk (us C ba) (aa t (aa (Ne.symm bb) (aa (Ne.symm (nb (au o) (le p.size z.size) r)) aA))) v
 refine L0<|aP bc 0<|L0<|Oc<|m2 (cG b9) fun dk bd P=>nt<|sq<|sg<|Pl 1<|?_
 refine L0<|aP (b6 P (Ne.symm bb) bc) 0<|L0<|Oc<|mq (bG bd)<|?_
 have dl:=ap.len bd
 refine Pl 1<|ng<|Pl 2<|nt<|?_
 have a5:=u1 ba P im
 have bf:=ut E a5 (ac (ni u.size f) (ac (ni y.size g) av))
 refine cb ((b7.endC.e != 0)) (fun H=>?_) (fun H=>?_)
 have a6:=az H
 refine sg<|Pl 2<|?_
 refine L0<|be (ub (ud i (ud j a5 f) g) k) mZ fun dm ci cj=>Pl 1<|nt<|rt<|tr<|bP ci (.int .i64 b7.endC.e)<|?_
 subst b8
 have hs:ag aC 1 c b=aL ((ck c (aj.mk b false 0)).2) ((ck c (aj.mk b false 0)).1):=by
   unfold ag aC
   (try simp only[H,bs,if_true,if_false,decide_true,decide_false,eq_self,true_or,or_true,or_false,false_or,if_true,if_false,cy,co,cw,cv,reduceIte,k1,k2,k5,l])
   all_goals rfl
 rw[hs]
 exact bC a6 (ud bf cj n)
 have a6:=ai H
 refine bp<|sg<|?_
 refine L0<|bS (hz:=(by rw[O.2];exact aO)) (b6 P b4 O.1)<|?_
 refine L0<|be (hz:=(by rw[O.2];exact aO)) (hv:=a4.size) (h1:=a4.one) (ub (ud i (ud j a5 f) g) k) (ch) fun dn cl bg=>Pl 1<|nt<|rt<|eJ 22 O.2 cl (.int .i64 0)<|?_
 subst b8
 have hs:ag aC 1 c b=aL ((ck c (aj.mk b false 0)).2) ((ck c (aj.mk b false 0)).1):=by
   unfold ag aC
   (try simp only[H,bs,if_true,if_false,decide_true,decide_false,eq_self,true_or,or_true,or_false,false_or,if_true,if_false,cy,co,cw,cv,reduceIte,k1,k2,k5,l])
   all_goals rfl
 rw[hs]
 exact bI a6 (aN.upd a4 (us P bg) (ax (ap.safe b9 _ (by decide)) (ax (aY (ub (ud i (ud b3 b5 f) g) k) (by decide)) aK))) (ud bf bg n)
 have k1:(c==1)=false:=by rw[hk];rfl
 have k2:(c==2)=false:=by rw[hk];rfl
 have k5:(c==5)=false:=by rw[hk];rfl
 have l:(c==15)=true:=by rw[hk];rfl
 refine L0<|n7 (hf:=(by subst hk;kernel_rfl)) B c (.agg #[.nilFunc,.nilFunc]) (some (3,.agg #[.func (.func 199) #[.agg #[.pointer (some ⟨d,0,none⟩),.pointer (some ⟨a,0,none⟩)]] #[],.func (.func 200) #[.agg #[.pointer (some ⟨d,0,none⟩),.pointer (some ⟨a,0,none⟩)]] #[]]))<|Pl 3<|L0<|bO #[.nilFunc,.nilFunc] fun dp dq cm cq cr=>L0<|be cq #[.func (.func 199) #[.agg #[.pointer (some ⟨d,0,none⟩),.pointer (some ⟨a,0,none⟩)]] #[],.func (.func 200) #[.agg #[.pointer (some ⟨d,0,none⟩),.pointer (some ⟨a,0,none⟩)]] #[]] fun dr cs ct=>Pl 1<|nt<|sq<|sg<|Pl 2<|nt<|c0<|?_
 refine bp<|sg<|Pl 2<|L0<|aP cs 1<|?_
 have a7:=ud cr ct cm
 have bi:=aG j a7
 have bj:=nb (au o) p.size f
 refine L0<|gx #[.agg #[.pointer (some ⟨d,0,none⟩),.pointer (some ⟨a,0,none⟩)]] #[] (args:=#[.agg #[.pointer (some ⟨d,0,none⟩),.pointer (some ⟨a,0,none⟩)]])<|m3 (tF (c:=c) ⟨hcode1,hcode2⟩ (ap.old s (aG D a7)) (ub bi J) (Ne.symm bj)) fun ds cu cx bk=>?_
 obtain⟨cz,Q,a8⟩:=cx
 refine ab cu fun bl bm bn=>?_
 refine ng<|Pl 1<|?_
 have bo:=uz a7 bk
 have bq:=nb (ap.lt s) lr r
 have br:=aF.blk (us C bo) (aa t (aa (Ne.symm bq) (aa (Ne.symm (nb (au o) (le p.size z.size) r)) aA))) v
 refine L0<|aP br 0<|L0<|Oc<|m2 (cG bn) fun dt bt R=>nt<|sq<|sg<|Pl 1<|?_
 refine L0<|aP (b6 R (Ne.symm bq) br) 0<|L0<|Oc<|mq (bG bt)<|?_
 have du:=ap.len bt
 refine Pl 1<|ng<|Pl 2<|nt<|?_
 have a9:=u1 bo R im
 have bu:=ut E a9 (ac (ni u.size f) (ac (ni y.size g) av))
 refine cb ((bl.endC.e != 0)) (fun I=>?_) (fun I=>?_)
 have ad:=az I
 refine sg<|Pl 2<|?_
 refine L0<|be (ub (ud i (ud j a9 f) g) k) mZ fun dv cA cB=>Pl 1<|nt<|rt<|tr<|bP cA (.int .i64 bl.endC.e)<|?_
 subst bm
 have hs:ag aC 1 c b=aL ((cF 1968 c (aj.mk b false 0)).2) ((cF 1968 c (aj.mk b false 0)).1):=by
   unfold ag aC
   (try simp only[I,bs,if_true,if_false,decide_true,decide_false,eq_self,true_or,or_true,or_false,false_or,if_true,if_false,cy,co,cw,cv,reduceIte,k1,k2,k5,l])
   all_goals rfl
 rw[hs]
 exact bC ad (ud bu cB n)
 have ad:=ai I
 refine bp<|sg<|?_
 refine L0<|bS (hz:=(by rw[Q.2];exact aO)) (b6 R bj Q.1)<|?_
 refine L0<|be (hz:=(by rw[Q.2];exact aO)) (hv:=a8.size) (h1:=a8.one) (ub (ud i (ud j a9 f) g) k) (cz) fun dw cC bv=>Pl 1<|nt<|rt<|eJ 22 Q.2 cC (.int .i64 0)<|?_
 subst bm
 have hs:ag aC 1 c b=aL ((cF 1968 c (aj.mk b false 0)).2) ((cF 1968 c (aj.mk b false 0)).1):=by
   unfold ag aC
   (try simp only[I,bs,if_true,if_false,decide_true,decide_false,eq_self,true_or,or_true,or_false,false_or,if_true,if_false,cy,co,cw,cv,reduceIte,k1,k2,k5,l])
   all_goals rfl
 rw[hs]
 exact bI ad (aN.upd a8 (us R bv) (ax (ap.safe bn _ (by decide)) (ax (aY (ub (ud i (ud bi bk f) g) k) (by decide)) aK))) (ud bu bv n)
 have k1:(c==1)=false:=by simpa using hk.1
 have k2:(c==2)=false:=by simpa using hk.2.1
 have k5:(c==5)=false:=by simpa using hk.2.2.1
 have l:(c==15)=false:=by simpa using hk.2.2.2
 refine L0<|n7 (hf:=(xX (q:=.u8) (x:=c) #[⟨.int .u8 1,.agg #[.func (.func 196) #[.agg #[.pointer (some ⟨d,0,none⟩),.pointer (some ⟨a,0,none⟩)]] #[],.func (.func 197) #[.agg #[.pointer (some ⟨d,0,none⟩),.pointer (some ⟨a,0,none⟩)]] #[]],0⟩,⟨.int .u8 2,.agg #[.func (.func 196) #[.agg #[.pointer (some ⟨d,0,none⟩),.pointer (some ⟨a,0,none⟩)]] #[],.func (.func 197) #[.agg #[.pointer (some ⟨d,0,none⟩),.pointer (some ⟨a,0,none⟩)]] #[]],1⟩,⟨.int .u8 5,.agg #[.func (.func 198) #[.agg #[.pointer (some ⟨d,0,none⟩),.pointer (some ⟨a,0,none⟩)]] #[],.func (.func 198) #[.agg #[.pointer (some ⟨d,0,none⟩),.pointer (some ⟨a,0,none⟩)]] #[]],2⟩,⟨.int .u8 15,.agg #[.func (.func 199) #[.agg #[.pointer (some ⟨d,0,none⟩),.pointer (some ⟨a,0,none⟩)]] #[],.func (.func 200) #[.agg #[.pointer (some ⟨d,0,none⟩),.pointer (some ⟨a,0,none⟩)]] #[]],3⟩] (fD _ _ (by intro e he;simp only[List.mem_cons,List.not_mem_nil,or_false] at he;obtain⟨z1,z2,z5,dx⟩:=hk;rcases he with rfl | rfl | rfl | rfl<;>exact⟨_,rfl,fun h=>by simp_all⟩)))) B c (.agg #[.nilFunc,.nilFunc]) none<|Pl 3<|L0<|bO #[.nilFunc,.nilFunc] fun dy dz cD cE cH=>L0<|be cE #[.nilFunc,.nilFunc] fun dA dB cI=>Pl 1<|nt<|sq<|sg<|Pl 2<|nt<|c1<|?_
 refine sg<|Pl 1<|?_
 have bw:=ud cH cI cD
 refine L0<|be (ub (aG i (aG j bw)) k) mZ fun dC cJ cK=>Pl 1<|nt<|rt<|tr<|bP cJ (.int .i64 4)<|?_
 have hs:ag aC 1 c b=(aQ.zero,4):=by
   unfold ag aC
   (try simp only[bs,if_true,if_false,decide_true,decide_false,eq_self,true_or,or_true,or_false,false_or,if_true,if_false,cy,co,cw,cv,reduceIte,k1,k2,k5,l])
   all_goals rfl
 rw[hs]
 exact cR (ud E (uz bw cK) n)
theorem lE{m:Md}{A:Option Addr}{cp:Nat}{b:List Int}{w:World}{dir c:Int}(hcode:B8 c)(hsl:bh m w (.slice A b.length cp) b)(hb:b.length≤1048576)(hd:¬ (dir=0∨dir=1)) :
    Calls Tryz.prog 138 #[.int .i64 dir,.int .u8 c,.slice A b.length cp] w (eb (ag aC dir c b) w):=by
 obtain⟨hcode1,hcode2⟩:=hcode
 have hln:(b.length:Int)≤1048576:=by omega
 have e0:(dir != 0)=true:=by simp;omega
 have e1:(dir != 1)=true:=by simp;omega
 refine en 72 Tryz.func138 rfl<|sg<|L0<|bO mZ fun g h a d e=>Pl 1<|nt<|sq<|sg<|Pl 3<|sy 16 e0<|Pl 3<|nl<|?_
 refine tn<|ct e1<|sg<|Pl 1<|L0<|be d mZ fun i dB f=>Pl 1<|nt<|rt<|tr<|bP dB (.int .i64 1)<|?_
 have hs:ag aC dir c b=(aQ.zero,1):=by
   unfold ag aC
   (try simp only[e0,e1,bs,if_true,if_false,decide_true,decide_false,eq_self,true_or,or_true,or_false,false_or,if_true,if_false,cy,co,cw,cv,reduceIte,hd])
   all_goals rfl
 rw[hs]
 exact cR (ud e f a)
theorem jN{m:Md}{v:Value}{b:List Int}{w:World}{dir c:Int}(hc:B8 c)(h:bh m w v b)(hb:b.length≤1048576) :
    Calls Tryz.prog 138 #[.int .i64 dir,.int .u8 c,v] w (eb (ag aC dir c b) w):=by
  obtain⟨A,cp,rfl,_,_⟩:=h.shape
  by_cases h0:dir=0
  · subst h0;exact lD hc h hb
  by_cases h1:dir=1
  · subst h1;exact lG hc h hb
  exact lE hc h hb (by omega)
open Go.RowKit
def dt (c:aj) : aj:=(c.wordsC 1).need (c.wordV==0 || c.wordV==65535) 6
theorem vY{v:Int}(h:0≤v∧v<65536) : bits .and .u16 v 255=v%256:=by
  rw[u16_and v 255 h.1 h.2 (by decide) (by decide)]
  show((v.toNat &&& (2 ^ 8-1) : Nat) : Int)=_
  rw[Nat.and_two_pow_sub_one_eq_mod]
  omega
def fo (dir sub v:Int) : Bool:=if (sub==2 || (decide (11≤sub)&&decide (sub≤18)))&&dir==1 then true else if sub==1 then v==0 || v==65280 else if sub==3 then v%256==0 else v==0
theorem od{g:Nat}{c:aj}{w:World}(hc:ap w g c) :
    Calls Tryz.prog 249 #[.pointer (some ⟨g,0,none⟩)] w (my g .u16 65536 c.wordV (dt c) w):=by
 have hr:=hc.wordV
 refine en 15 Tryz.func249 rfl<|sg<|Pl 1<|ng<|Pl 1<|L0<|Oc<|m3 (cg hc) fun l d e m=>Pl 1<|nt<|sq<|?_
 refine go<|Pl 4<|cu 3 [9] 12 (((c.wordV==0)||(c.wordV==65535))) (fun K b=>?_) ?_
 refine bl 9 ((c.wordV==0)) (fun a=>?_) (fun a=>?_)
 have f:=ae a
 exact Pl 3<|ce b true (by rw[a];rfl)
 have f:=ak a
 exact Pl 3<|ce b (c.wordV==65535) (by rw[a];rfl)
 refine L0<|Oc<|m2 (bg (((c.wordV==0)||(c.wordV==65535))) 6 d) fun n h i=>?_
 refine ab h fun x19 j k=>?_
 refine ng<|Pl 2<|nt<|rt<|rr (.int .u16 c.wordV)<|?_
 subst j
 exact⟨rfl,k,(u1 e i im),hr⟩
theorem tw{v:Int}{w:World}:Calls Tryz.prog 265 #[.int .u16 v] w (dM (.bool (v==0 || v==65280)) w):=by
 refine en 9 Tryz.func265 rfl<|sg<|Pl 1<|ng<|Pl 3<|cu 3 [5] 8 (((v==0)||(v==65280))) (fun K b=>?_) ?_
 refine bl 5 ((v==0)) (fun a=>?_) (fun a=>?_)
 have c:=ae a
 exact Pl 3<|ce b true (by rw[a];rfl)
 have c:=ak a
 exact Pl 3<|ce b (v==65280) (by rw[a];rfl)
 refine Pl 1<|nt<|rt<|rr (.bool ((v==0)||(v==65280)))<|?_
 exact⟨rfl,(aF.refl [] _)⟩
theorem tB{v:Int}{w:World}(hv:0≤v∧v<65536) : Calls Tryz.prog 266 #[.int .u16 v] w (dM (.bool (v%256==0)) w):=by
 refine en 6 Tryz.func266 rfl<|sg<|Pl 1<|ng<|Pl 1<|L0<|Oe (.int .u16 (bits .and .u16 v 255)) (.int .u16 (v%256)) (congrArg (Value.int .u16) (vY (by omega)))<|Pl 2<|nt<|rt<|?_
 refine rr (.bool ((v%256)==0))<|?_
 exact⟨rfl,(aF.refl [] _)⟩
theorem u9{v x:Int}{gb:Nat}{w:World}(hB:w.heap[gb]? = some (.cells #[.int .u16 v] 24 (0,0))) : Calls Tryz.prog 264 #[.int .u16 x,.pointer (some ⟨gb,0,none⟩)] w (dM (.bool (v==0)) w):=by
 refine en 6 Tryz.func264 rfl<|sg<|Pl 1<|ng<|L0<|aP hB 0<|Pl 2<|nt<|rt<|rr (.bool (v==0))<|?_
 exact⟨rfl,(aF.refl [] _)⟩
theorem xz{dir v:Int}{w:World}(hv:0≤v∧v<65536) : Calls Tryz.prog 248 #[.int .i64 dir,.int .u16 1,.int .u16 v] w (dM (.bool (fo dir 1 v)) w):=by
 refine en 42 Tryz.func248 rfl<|sg<|L0<|dv #[.int .u16 v] fun l m n b c=>Pl 1<|ng<|Pl 2<|ng<|?_
 refine L0<|vg fun o p d e f=>L0<|gN e 1 fun q g h=>L0<|gN g 3 fun r i j=>Pl 2<|ng<|Pl 11<|nt<|sq<|sg<|?_
 refine Pl 5<|nt<|c0<|bp<|sg<|Pl 2<|L0<|n7 i 1 (.nilFunc) (some (0,.func (.func 265) #[] #[]))<|Pl 5<|nt<|sq<|?_
 refine sg<|Pl 2<|nt<|c0<|bp<|sg<|Pl 1<|?_
 have a:=ud f (u1 h j im) d
 refine L0<|aP (ub a b) 0<|L0<|gx #[] #[] (args:=#[.int .u16 v])<|m1 (tw) fun s k=>Pl 1<|nt<|rt<|rr (.bool (v==0 || v==65280))<|?_
 have hs:fo dir 1 v=(v==0 || v==65280):=by
   unfold fo
   (try simp only[bs,if_true,if_false,decide_true,decide_false,reduceIte])
   all_goals rfl
 rw[hs]
 exact⟨rfl,(aG c (aG a k))⟩
theorem xK{dir v:Int}{w:World}(hv:0≤v∧v<65536) : Calls Tryz.prog 248 #[.int .i64 dir,.int .u16 3,.int .u16 v] w (dM (.bool (fo dir 3 v)) w):=by
 refine en 42 Tryz.func248 rfl<|sg<|L0<|dv #[.int .u16 v] fun l m n b c=>Pl 1<|ng<|Pl 2<|ng<|?_
 refine L0<|vg fun o p d e f=>L0<|gN e 1 fun q g h=>L0<|gN g 3 fun r i j=>Pl 2<|ng<|Pl 11<|nt<|sq<|sg<|?_
 refine Pl 5<|nt<|c0<|bp<|sg<|Pl 2<|L0<|n7 i 3 (.nilFunc) (some (1,.func (.func 266) #[] #[]))<|Pl 5<|nt<|sq<|?_
 refine sg<|Pl 2<|nt<|c0<|bp<|sg<|Pl 1<|?_
 have a:=ud f (u1 h j im) d
 refine L0<|aP (ub a b) 0<|L0<|gx #[] #[] (args:=#[.int .u16 v])<|m1 (tB hv) fun s k=>Pl 1<|nt<|rt<|rr (.bool (v%256==0))<|?_
 have hs:fo dir 3 v=(v%256==0):=by
   unfold fo
   (try simp only[bs,if_true,if_false,decide_true,decide_false,reduceIte])
   all_goals rfl
 rw[hs]
 exact⟨rfl,(aG c (aG a k))⟩
theorem wi{dir sub v:Int}{w:World}(hv:0≤v∧v<65536)(h1:sub≠1)(h3:sub≠3) : Calls Tryz.prog 248 #[.int .i64 dir,.int .u16 sub,.int .u16 v] w (dM (.bool (fo dir sub v)) w):=by
 have n1:(sub==1)=false:=by simpa using h1
 have n3:(sub==3)=false:=by simpa using h3
 refine en 42 Tryz.func248 rfl<|sg<|L0<|dv #[.int .u16 v] fun f G H o p=>Pl 1<|ng<|Pl 2<|ng<|?_
 refine L0<|vg fun I J r s t=>L0<|gN s 1 fun L u y=>L0<|gN u 3 fun M z A=>Pl 2<|ng<|Pl 3<|cu 7 [17] 24 (((sub==2)||((decide (11≤sub))&&(decide (sub≤18))))) (fun K g=>?_) ?_
 refine bl 17 ((sub==2)) (fun a=>?_) (fun a=>?_)
 have B:=ae a
 exact Pl 7<|ce g true (by rw[a];rfl)
 have B:=ak a
 refine Pl 3<|cu 3 [20] 23 (((decide (11≤sub))&&(decide (sub≤18)))) (fun K i=>?_) ?_
 refine bl 20 ((decide (11≤sub))) (fun b=>?_) (fun b=>?_)
 have C:=of_decide_eq_true b
 exact Pl 3<|ce i (decide (sub≤18)) (by rw[b];rfl)
 have C:=of_decide_eq_false b
 exact Pl 3<|ce i false (by rw[b];rfl)
 exact Pl 1<|ce g ((decide (11≤sub))&&(decide (sub≤18))) (by rw[a];rfl)
 refine Pl 1<|nt<|sq<|sg<|Pl 2<|cu 3 [26] 29 ((((sub==2)||((decide (11≤sub))&&(decide (sub≤18))))&&(dir==1))) (fun K j=>?_) ?_
 refine bl 26 (((sub==2)||((decide (11≤sub))&&(decide (sub≤18))))) (fun c=>?_) (fun c=>?_)
 exact Pl 3<|ce j (dir==1) (by rw[c];rfl)
 have D:=(aH c).1
 have N:=(aH c).2
 have O:=ak D
 exact Pl 3<|ce j false (by rw[c];rfl)
 refine nt<|?_
 have k:=ud t (u1 y A im) r
 have l:=aG p k
 refine cb ((((sub==2)||((decide (11≤sub))&&(decide (sub≤18))))&&(dir==1))) (fun d=>?_) (fun d=>?_)
 have E:=(aZ d).1
 have m:=(aZ d).2
 have P:=ae m
 refine sg<|Pl 1<|nt<|rt<|tr<|rr (.bool true)<|?_
 have hs:fo dir sub v=true:=by
   unfold fo
   (try simp only[d,E,m,bs,if_true,if_false,decide_true,decide_false,n1,n3,reduceIte])
   all_goals rfl
 rw[hs]
 exact⟨rfl,l⟩
 refine bp<|sg<|Pl 2<|L0<|n7 (hf:=(xX (q:=.u16) (x:=sub) #[⟨.int .u16 1,.func (.func 265) #[] #[],0⟩,⟨.int .u16 3,.func (.func 266) #[] #[],1⟩] (fD _ _ (by intro e he;simp only[List.mem_cons,List.not_mem_nil,or_false] at he;rcases he with rfl | rfl;exact⟨_,rfl,fun h=>h1 h.symm⟩;exact⟨_,rfl,fun h=>h3 h.symm⟩)))) z sub (.nilFunc) none<|Pl 5<|nt<|sq<|sg<|Pl 2<|nl<|?_
 refine tn<|c1<|go<|Pl 2<|ng<|Pl 1<|?_
 have n:=ub k o
 refine L0<|aP n 0<|L0<|gx #[] #[.pointer (some ⟨f,0,none⟩)] (args:=#[.int .u16 v,.pointer (some ⟨f,0,none⟩)])<|m1 (u9 n) fun Q F=>Pl 1<|nt<|rt<|rr (.bool (v==0))<|?_
 have hs:fo dir sub v=(v==0):=by
   unfold fo
   (try simp only[d,bs,if_true,if_false,decide_true,decide_false,n1,n3,reduceIte])
   all_goals rfl
 rw[hs]
 exact⟨rfl,(aG l F)⟩
theorem vB{dir sub v:Int}{w:World}(hv:0≤v∧v<65536) : Calls Tryz.prog 248 #[.int .i64 dir,.int .u16 sub,.int .u16 v] w (dM (.bool (fo dir sub v)) w):=by
  by_cases h1:sub=1
  · subst h1;exact xz hv
  by_cases h3:sub=3
  · subst h3;exact xK hv
  exact wi hv h1 h3
open Go.RowKit
def eR (dir:Int)(C:aj) : aj:=(C.wordsC 1).need (er C.wordV&&(dir==0 || C.wordV != 4)) 8
def iU (C:aj) : aj:=C.need (((C.l.length:Int)%2==0&&decide (2≤(C.l.length:Int)))&&decide ((C.l.length:Int)≤250)) 5
def dL (dir c:Int)(C:aj) : aj × aQ :=
  if C.wordV != 0 then (((eR dir C).wordsC 1).need ((((eR dir C).wordsR 1).length:Int)==1&&fo dir C.wordV (((eR dir C).wordsR 1).getD 0 0)) 6,{ aQ.zero with code:=c,sub:=C.wordV,words:=(eR dir C).wordsR 1 })
  else ((iU (eR dir C)).wordsC (((eR dir C).l.length:Int)/2),{ aQ.zero with code:=c,sub:=C.wordV,words:=(iU (eR dir C)).wordsR (((eR dir C).l.length:Int)/2) })
def fq (C:aj)(lo hi:Int) : aj:=(C.bytesC 1).need (decide (lo≤C.byteV)&&decide (C.byteV≤hi)) 5
def fO (C:aj) : aj:=((dt (fq C 6 70)).wordsC 1).wordsC 1
def bX (c:Int)(C:aj) : aj × aQ :=
  if c==7 then (C.bytesC 1,{ aQ.zero with code:=c,value:=C.byteV })
  else if c==11 then ((dt C).wordsC 1,{ aQ.zero with code:=c,status:=C.wordV,events:=(dt C).wordV })
  else if c==12 then ((fO C).bytesC (C.byteV-6),{ aQ.zero with code:=c,status:=(fq C 6 70).wordV,events:=(dt (fq C 6 70)).wordV,messages:=((dt (fq C 6 70)).wordsC 1).wordV,data:=(fO C).bytesR (C.byteV-6) })
  else if c==17 then ((fq C 1 251).bytesC C.byteV,{ aQ.zero with code:=c,data:=(fq C 1 251).bytesR C.byteV })
  else (C,{ aQ.zero with code:=c })
theorem oG{g gm:Nat}{dir c:Int}{C:aj}{w:World}(hcode:B8 c)(hC:ap w g C)(hm:w.heap[gm]? = some (.cells #[.int .u8 c,.int .u8 0,.int .u16 0,.int .u16 0,.int .u16 0,.int .u16 0,.int .u16 0,.int .u16 0,.int .u16 0,.int .u16 0,.int .u16 0,.int .u16 0,.slice none 0 0,.slice none 0 0,.slice none 0 0,.slice none 0 0,.int .u8 0,.int .u8 0,.int .u8 0,.int .u8 0,.int .u8 0,.slice none 0 0] 30 (0,0)))(hne:g≠gm) :
    Calls Tryz.prog 206 #[.int .i64 dir,.pointer (some ⟨g,0,none⟩),.pointer (some ⟨gm,0,none⟩)] w (cP g gm (dL dir c C).1 (dL dir c C).2 w):=by
 obtain⟨hcode1,hcode2⟩:=hcode
 have hlen:=hC.len
 refine en 84 Tryz.func206 rfl<|sg<|Pl 2<|L0<|Oc<|m3 (cg hC) fun aX a4 t b0=>Pl 2<|?_
 have J:=b6 t (Ne.symm hne) hm
 refine L0<|cj J 8 (mG c 0 0 0 0 0 0 0 C.wordV 0 0 0 nS nS nS nS 0 0 0 0 0 nS) fun b1 dB L=>ng<|Pl 4<|L0<|aP dB 8<|L0<|Oc<|m1 (u2 (x:=C.wordV) (w:=_)) fun b2 r=>Pl 1<|cu 10 [18] 28 (((er C.wordV)&&((dir==0)||(C.wordV != 4)))) (fun K M=>?_) ?_
 refine bl 18 ((er C.wordV)) (fun u=>?_) (fun u=>?_)
 refine Pl 3<|cu 6 [21] 27 (((dir==0)||(C.wordV != 4))) (fun K N=>?_) ?_
 refine bl 21 ((dir==0)) (fun j=>?_) (fun j=>?_)
 have a5:=ae j
 exact Pl 6<|ce N true (by rw[j];rfl)
 have a5:=ak j
 refine Pl 3<|?_
 exact L1<|aP (ub r dB) 8<|Pl 2<|ce N (C.wordV != 4) (by rw[j];rfl)
 exact Pl 1<|ce M ((dir==0)||(C.wordV != 4)) (by rw[u];rfl)
 exact Pl 10<|ce M false (by rw[u];rfl)
 have O:=aG L r
 refine L0<|Oc<|m2 (bg (((er C.wordV)&&((dir==0)||(C.wordV != 4)))) 8 (ap.upd a4 O (aa hne aA) (ax (aY J (by decide)) aK))) fun b3 a6 y=>?_
 refine ab a6 fun x30 z s=>?_
 refine nt<|sq<|sg<|Pl 3<|?_
 have A:=b6 (uz r y) (Ne.symm hne) dB
 refine L0<|aP A 8<|Pl 1<|nt<|?_
 have d:=ui t (us O y)
 refine cb ((C.wordV != 0)) (fun f=>?_) (fun f=>?_)
 have a7:=az f
 refine sg<|Pl 2<|L0<|Oc<|mS (eo (n:=1) s) fun P Q b4 i b5 b7 R S=>Pl 2<|?_
 have B:=b6 S (Ne.symm hne) A
 refine L0<|cj B 12 (mG c 0 0 0 0 0 0 0 C.wordV 0 0 0 (.slice P ((x30.wordsR 1).length) Q) nS nS nS 0 0 0 0 0 nS) fun b9 a8 a9=>nt<|sq<|Rg 22 (fun w'=>w'.cell? ⟨gm,12,none⟩=some (.slice P ((x30.wordsR 1).length) Q)∧w'.cell? ⟨gm,8,none⟩=some (.int .u16 C.wordV)) fun ba T=>?_
 have b:=ub T a8
 refine bj ⟨(ah b rfl),(ah b rfl)⟩ fun a=>Rt 0 a<|Rt 1 a<|Rt 2 a<|Rt 3 a<|Rl 4 a (fun _ hs=>hs.1)<|Rt 5 a<|Rt 6 a<|Rt 7 a<|?_
 have k:=aG a9 T
 have U:=ut d (us S k) (ac im (ac im av))
 refine si 47 (((((x30.wordsR 1).length:Nat) : Int)==1)) (fun m=>?_) (fun m=>?_)
 have ad:=ae m
 refine Rt 8 a<|Rt 9 a<|Rt 10 a<|Rt 11 a<|Rl 12 a (fun _ hs=>hs.2)<|Rt 13 a<|Rt 14 a<|Rt 15 a<|Rl 16 a (fun _ hs=>hs.1)<|?_
 have V:=aq i k (fun x hx=>(aa (fun e=>(aB (au hm) d.size i) (e▸hx)) aA)) (fun _ _ h=>h)
 refine gf (dP.at_ (V).rd 0 (by omega)) fun af ag al am bb=>R0 17 rfl<|lv ((x30.wordsR 1).length) 0 al (by omega)<|bj ⟨(ah b rfl),(ah b rfl)⟩ fun bc=>R0 18 rfl<|ez (p:=⟨af,ag+0,none⟩) (v:=.int .u16 ((x30.wordsR 1).getD 0 0)) am<|bj ⟨(ah b rfl),(ah b rfl)⟩ fun bd=>R0 19 rfl<|Oc<|m1 (vB (dir:=dir) (sub:=C.wordV) (v:=((x30.wordsR 1).getD 0 0)) (by omega)) fun be D=>?_
 have E:=ub D b
 refine bj ⟨(ah E rfl),(ah E rfl)⟩ fun an=>Rt 20 an<|?_
 refine R0 21 rfl<|Oc<|m2 (bg ((fo dir C.wordV ((x30.wordsR 1).getD 0 0))) 6 (ap.upd R (aG k D) (aa hne aA) (ax (aY B (by decide)) aK))) fun bf ao W=>?_
 refine ab ao fun bh ar aw=>?_
 have F:=b6 W (Ne.symm hne) E
 refine bj ⟨(ah F rfl),(ah F rfl)⟩ fun bi=>re<|tn<|rt<|tr<|rr (.tuple #[])<|?_
 subst ar z
 have X:=uz D W
 have hs:dL dir c C=(((((C.wordsC 1).need ((er C.wordV)&&((dir==0)||(C.wordV != 4))) 8).wordsC 1).need (fo dir C.wordV ((((C.wordsC 1).need ((er C.wordV)&&((dir==0)||(C.wordV != 4))) 8).wordsR 1).getD 0 0)) 6),(aQ.mk c 0 0 0 0 0 0 0 C.wordV 0 0 0 (((C.wordsC 1).need ((er C.wordV)&&((dir==0)||(C.wordV != 4))) 8).wordsR 1) [] [] [] 0 0 0 0 0 [])):=by
   unfold dL eR iU
   (try simp only[f,m,bs,if_true,if_false,decide_true,decide_false,reduceIte])
   all_goals rfl
 rw[hs]
 exact⟨rfl,aw,⟨_,⟨F,rfl⟩,⟨_,_,_,_,_,rfl,((aq V X (fun x hx=>(aa (fun e=>(aB (ap.lt hC) d.size i) (e▸hx)) aA)) (fun _ _ h=>h))).rd,aS.nil ..,aS.nil ..,aS.nil ..,aS.nil ..,⟨(b8 (x:=c) (by omega)),(b8 (x:=0) (by omega)),(aD (x:=0) (by omega)),(aD (x:=0) (by omega)),(aD (x:=0) (by omega)),(aD (x:=0) (by omega)),(aD (x:=0) (by omega)),(aD (x:=0) (by omega)),(aD (x:=C.wordV) (by omega)),(aD (x:=0) (by omega)),(aD (x:=0) (by omega)),(aD (x:=0) (by omega)),(b8 (x:=0) (by omega)),(b8 (x:=0) (by omega)),(b8 (x:=0) (by omega)),(b8 (x:=0) (by omega)),(b8 (x:=0) (by omega))⟩⟩⟩,(aF.mono (S':=[g,gm]) (u1 U X im) (ww (Or.inl (by simp)) (Or.inl (by simp))))⟩
 have ad:=ak m
 refine Ro 8 a<|Ro 9 a<|Ro 10 a<|Ro 11 a<|Ro 12 a<|Ro 13 a<|Ro 14 a<|Ro 15 a<|Ro 16 a<|Ro 17 a<|Ro 18 a<|Ro 19 a<|Rt 20 a<|?_
 refine R0 21 rfl<|Oc<|m2 (bg (false) 6 (ap.upd R k (aa hne aA) (ax (aY B (by decide)) aK))) fun bk ay G=>?_
 have H:=b6 G (Ne.symm hne) b
 refine bj ⟨(ah H rfl),(ah H rfl)⟩ fun bm=>re<|tn<|rt<|tr<|rr (.tuple #[])<|?_
 subst z
 have hs:dL dir c C=(((((C.wordsC 1).need ((er C.wordV)&&((dir==0)||(C.wordV != 4))) 8).wordsC 1).need false 6),(aQ.mk c 0 0 0 0 0 0 0 C.wordV 0 0 0 (((C.wordsC 1).need ((er C.wordV)&&((dir==0)||(C.wordV != 4))) 8).wordsR 1) [] [] [] 0 0 0 0 0 [])):=by
   unfold dL eR iU
   (try simp only[f,m,bs,if_true,if_false,decide_true,decide_false,reduceIte])
   all_goals rfl
 rw[hs]
 exact⟨rfl,ay,⟨_,⟨H,rfl⟩,⟨_,_,_,_,_,rfl,((aq i (us k G) (fun x hx=>(aa (fun e=>(aB (au hm) d.size i) (e▸hx)) (aa (fun e=>(aB (ap.lt hC) d.size i) (e▸hx)) aA))) (fun _ _ h=>h))).rd,aS.nil ..,aS.nil ..,aS.nil ..,aS.nil ..,⟨(b8 (x:=c) (by omega)),(b8 (x:=0) (by omega)),(aD (x:=0) (by omega)),(aD (x:=0) (by omega)),(aD (x:=0) (by omega)),(aD (x:=0) (by omega)),(aD (x:=0) (by omega)),(aD (x:=0) (by omega)),(aD (x:=C.wordV) (by omega)),(aD (x:=0) (by omega)),(aD (x:=0) (by omega)),(aD (x:=0) (by omega)),(b8 (x:=0) (by omega)),(b8 (x:=0) (by omega)),(b8 (x:=0) (by omega)),(b8 (x:=0) (by omega)),(b8 (x:=0) (by omega))⟩⟩⟩,(aF.mono (S':=[g,gm]) (u1 U G im) (ww (Or.inl (by simp)) (Or.inl (by simp))))⟩
 have a7:=ai f
 refine bp<|sg<|Pl 1<|L0<|Oc<|mq (eh s)<|?_
 have bn:=ap.len s
 refine Pl 1<|ng<|Pl 2<|L0<|Oe (.int .i64 (Int.tmod ((x30.l.length:Nat) : Int) 2)) (.int .i64 (((x30.l.length:Nat) : Int)%2)) (congrArg (Value.int .i64) (Int.tmod_eq_emod_of_nonneg (by omega)))<|Pl 2<|cu 3 [68] 71 ((((((x30.l.length:Nat) : Int)%2)==0)&&(decide (2≤((x30.l.length:Nat) : Int))))) (fun K Y=>?_) ?_
 refine bl 68 (((((x30.l.length:Nat) : Int)%2)==0)) (fun o=>?_) (fun o=>?_)
 have aC:=ae o
 exact Pl 3<|ce Y (decide (2≤((x30.l.length:Nat) : Int))) (by rw[o];rfl)
 have aC:=ak o
 exact Pl 3<|ce Y false (by rw[o];rfl)
 refine Pl 1<|cu 3 [72] 75 (((((((x30.l.length:Nat) : Int)%2)==0)&&(decide (2≤((x30.l.length:Nat) : Int))))&&(decide (((x30.l.length:Nat) : Int)≤250)))) (fun K Z=>?_) ?_
 refine bl 72 ((((((x30.l.length:Nat) : Int)%2)==0)&&(decide (2≤((x30.l.length:Nat) : Int))))) (fun q=>?_) (fun q=>?_)
 have aE:=(aZ q).1
 have aH:=(aZ q).2
 have bo:=ae aE
 have bq:=of_decide_eq_true aH
 exact Pl 3<|ce Z (decide (((x30.l.length:Nat) : Int)≤250)) (by rw[q];rfl)
 exact Pl 3<|ce Z false (by rw[q];rfl)
 refine L0<|Oc<|m2 (bg (((((((x30.l.length:Nat) : Int)%2)==0)&&(decide (2≤((x30.l.length:Nat) : Int))))&&(decide (((x30.l.length:Nat) : Int)≤250)))) 5 s) fun br aI a0=>?_
 refine ab aI fun aJ aL aM=>?_
 refine nt<|go<|Pl 3<|L0<|Oe (.int .i64 (IntKind.i64.wrap (Int.tdiv ((x30.l.length:Nat) : Int) 2))) (.int .i64 (((x30.l.length:Nat) : Int)/2)) (congrArg (Value.int .i64) (fU (by omega) (by omega)))<|L0<|Oc<|mS (eo (n:=(((x30.l.length:Nat) : Int)/2)) aM) fun aN aO bt a1 bu bv aR aT=>?_
 refine ab aR fun bw aU aV=>?_
 refine Pl 2<|?_
 have a2:=u1 a0 aT im
 have a3:=b6 a2 (Ne.symm hne) A
 refine L0<|cj a3 12 (mG c 0 0 0 0 0 0 0 C.wordV 0 0 0 (.slice aN ((aJ.wordsR (((x30.l.length:Nat) : Int)/2)).length) aO) nS nS nS 0 0 0 0 0 nS) fun bx aW I=>nl<|rm (.tuple #[])<|?_
 subst aU aL z
 have hs:dL dir c C=(((((C.wordsC 1).need ((er C.wordV)&&((dir==0)||(C.wordV != 4))) 8).need ((((((((C.wordsC 1).need ((er C.wordV)&&((dir==0)||(C.wordV != 4))) 8).l.length:Nat) : Int)%2)==0)&&(decide (2≤((((C.wordsC 1).need ((er C.wordV)&&((dir==0)||(C.wordV != 4))) 8).l.length:Nat) : Int))))&&(decide (((((C.wordsC 1).need ((er C.wordV)&&((dir==0)||(C.wordV != 4))) 8).l.length:Nat) : Int)≤250))) 5).wordsC (((((C.wordsC 1).need ((er C.wordV)&&((dir==0)||(C.wordV != 4))) 8).l.length:Nat) : Int)/2)),(aQ.mk c 0 0 0 0 0 0 0 C.wordV 0 0 0 ((((C.wordsC 1).need ((er C.wordV)&&((dir==0)||(C.wordV != 4))) 8).need ((((((((C.wordsC 1).need ((er C.wordV)&&((dir==0)||(C.wordV != 4))) 8).l.length:Nat) : Int)%2)==0)&&(decide (2≤((((C.wordsC 1).need ((er C.wordV)&&((dir==0)||(C.wordV != 4))) 8).l.length:Nat) : Int))))&&(decide (((((C.wordsC 1).need ((er C.wordV)&&((dir==0)||(C.wordV != 4))) 8).l.length:Nat) : Int)≤250))) 5).wordsR (((((C.wordsC 1).need ((er C.wordV)&&((dir==0)||(C.wordV != 4))) 8).l.length:Nat) : Int)/2)) [] [] [] 0 0 0 0 0 [])):=by
   unfold dL eR iU
   (try simp only[f,bs,if_true,if_false,decide_true,decide_false,reduceIte])
   all_goals rfl
 rw[hs]
 exact⟨rfl,(ap.upd aV I (aa hne aA) (ax (aY a3 (by decide)) aK)),⟨_,⟨aW,rfl⟩,⟨_,_,_,_,_,rfl,((aq a1 I (fun x hx=>(aa (fun e=>(aB (au hm) (le (le (le (le t.size L.size) r.size) y.size) a0.size) a1) (e▸hx)) aA)) (fun _ _ h=>h))).rd,aS.nil ..,aS.nil ..,aS.nil ..,aS.nil ..,⟨(b8 (x:=c) (by omega)),(b8 (x:=0) (by omega)),(aD (x:=0) (by omega)),(aD (x:=0) (by omega)),(aD (x:=0) (by omega)),(aD (x:=0) (by omega)),(aD (x:=0) (by omega)),(aD (x:=0) (by omega)),(aD (x:=C.wordV) (by omega)),(aD (x:=0) (by omega)),(aD (x:=0) (by omega)),(aD (x:=0) (by omega)),(b8 (x:=0) (by omega)),(b8 (x:=0) (by omega)),(b8 (x:=0) (by omega)),(b8 (x:=0) (by omega)),(b8 (x:=0) (by omega))⟩⟩⟩,(aF.mono (S':=[g,gm]) (ut d (us a2 I) (ac im (ac im av))) (ww (Or.inl (by simp)) (Or.inl (by simp))))⟩
theorem gI{g gm:Nat}{c:Int}{C:aj}{w:World}(hcode:B8 c)(hC:ap w g C)(hm:w.heap[gm]? = some (.cells #[.int .u8 c,.int .u8 0,.int .u16 0,.int .u16 0,.int .u16 0,.int .u16 0,.int .u16 0,.int .u16 0,.int .u16 0,.int .u16 0,.int .u16 0,.int .u16 0,.slice none 0 0,.slice none 0 0,.slice none 0 0,.slice none 0 0,.int .u8 0,.int .u8 0,.int .u8 0,.int .u8 0,.int .u8 0,.slice none 0 0] 30 (0,0)))(hne:g≠gm) :
    Calls Tryz.prog 207 #[.pointer (some ⟨g,0,none⟩),.pointer (some ⟨gm,0,none⟩)] w (cP g gm (bX c C).1 (bX c C).2 w):=by
 obtain⟨hcode1,hcode2⟩:=hcode
 have hlen:=hC.len
 refine en 84 Tryz.func207 rfl<|sg<|Pl 3<|L0<|aP hm 0<|nt<|bk<|sg<|Pl 2<|nt<|cb ((c==7)) (fun a=>?_) (fun a=>?_)
 have N:=ae a
 refine go<|Pl 2<|L0<|Oc<|m3 (ch hC) fun aM O m aN=>L0<|xd C.byteV<|Pl 2<|?_
 have o:=b6 m (Ne.symm hne) hm
 refine L0<|cj o 4 (mG c 0 0 0 C.byteV 0 0 0 0 0 0 0 nS nS nS nS 0 0 0 0 0 nS) fun aO P p=>nl<|bn<|rm (.tuple #[])<|?_
 have hs:bX c C=((C.bytesC 1),(aQ.mk c 0 0 0 C.byteV 0 0 0 0 0 0 0 [] [] [] [] 0 0 0 0 0 [])):=by
   unfold bX fO fq
   (try simp only[a,bs,if_true,if_false,decide_true,decide_false,reduceIte])
   all_goals rfl
 rw[hs]
 exact⟨rfl,(ap.upd O p (aa hne aA) (ax (aY o (by decide)) aK)),⟨_,⟨P,rfl⟩,⟨_,_,_,_,_,rfl,aS.nil ..,aS.nil ..,aS.nil ..,aS.nil ..,aS.nil ..,⟨(b8 (x:=c) (by omega)),(b8 (x:=0) (by omega)),(aD (x:=0) (by omega)),(aD (x:=0) (by omega)),(aD (x:=C.byteV) (by omega)),(aD (x:=0) (by omega)),(aD (x:=0) (by omega)),(aD (x:=0) (by omega)),(aD (x:=0) (by omega)),(aD (x:=0) (by omega)),(aD (x:=0) (by omega)),(aD (x:=0) (by omega)),(b8 (x:=0) (by omega)),(b8 (x:=0) (by omega)),(b8 (x:=0) (by omega)),(b8 (x:=0) (by omega)),(b8 (x:=0) (by omega))⟩⟩⟩,(us m p)⟩
 have N:=ak a
 refine sg<|Pl 2<|nt<|cb ((c==11)) (fun b=>?_) (fun b=>?_)
 have Q:=ae b
 refine sg<|Pl 2<|L0<|Oc<|m3 (od hC) fun aR R q aT=>Pl 2<|?_
 have r:=b6 q (Ne.symm hne) hm
 refine L0<|cj r 9 (mG c 0 0 0 0 0 0 0 0 C.wordV 0 0 nS nS nS nS 0 0 0 0 0 nS) fun aU S s=>nt<|go<|Pl 2<|?_
 refine L0<|Oc<|m3 (cg (ap.upd R s (aa hne aA) (ax (aY r (by decide)) aK))) fun aV T t aW=>Pl 2<|?_
 have u:=b6 t (Ne.symm hne) S
 refine L0<|cj u 10 (mG c 0 0 0 0 0 0 0 0 C.wordV ((dt C).wordV) 0 nS nS nS nS 0 0 0 0 0 nS) fun aX U v=>nl<|bn<|rm (.tuple #[])<|?_
 have hs:bX c C=(((dt C).wordsC 1),(aQ.mk c 0 0 0 0 0 0 0 0 C.wordV ((dt C).wordV) 0 [] [] [] [] 0 0 0 0 0 [])):=by
   unfold bX fO fq
   (try simp only[a,b,bs,if_true,if_false,decide_true,decide_false,reduceIte])
   all_goals rfl
 rw[hs]
 exact⟨rfl,(ap.upd T v (aa hne aA) (ax (aY u (by decide)) aK)),⟨_,⟨U,rfl⟩,⟨_,_,_,_,_,rfl,aS.nil ..,aS.nil ..,aS.nil ..,aS.nil ..,aS.nil ..,⟨(b8 (x:=c) (by omega)),(b8 (x:=0) (by omega)),(aD (x:=0) (by omega)),(aD (x:=0) (by omega)),(aD (x:=0) (by omega)),(aD (x:=0) (by omega)),(aD (x:=0) (by omega)),(aD (x:=0) (by omega)),(aD (x:=0) (by omega)),(aD (x:=C.wordV) (by omega)),(aD (x:=(dt C).wordV) (by omega)),(aD (x:=0) (by omega)),(b8 (x:=0) (by omega)),(b8 (x:=0) (by omega)),(b8 (x:=0) (by omega)),(b8 (x:=0) (by omega)),(b8 (x:=0) (by omega))⟩⟩⟩,(ui q (ui s (us t v)))⟩
 have Q:=ak b
 refine sg<|Pl 2<|nt<|cb ((c==12)) (fun d=>?_) (fun d=>?_)
 have V:=ae d
 refine sg<|Pl 1<|L0<|Oc<|m3 (ch hC) fun aZ W X b0=>L0<|Oi C.byteV<|Pl 1<|ng<|Pl 4<|cu 3 [38] 41 (((decide (6≤C.byteV))&&(decide (C.byteV≤70)))) (fun K y=>?_) ?_
 refine bl 38 ((decide (6≤C.byteV))) (fun e=>?_) (fun e=>?_)
 have Y:=of_decide_eq_true e
 exact Pl 3<|ce y (decide (C.byteV≤70)) (by rw[e];rfl)
 have Y:=of_decide_eq_false e
 exact Pl 3<|ce y false (by rw[e];rfl)
 refine L0<|Oc<|m2 (bg (((decide (6≤C.byteV))&&(decide (C.byteV≤70)))) 5 W) fun b1 Z a0=>?_
 refine ab Z fun x53 a1 a2=>?_
 refine ng<|Pl 2<|L0<|Oc<|m3 (od a2) fun b2 a3 a4 b3=>Pl 2<|?_
 have z:=u1 X (u1 a0 a4 im) im
 have A:=b6 z (Ne.symm hne) hm
 refine L0<|cj A 9 (mG c 0 0 0 0 0 0 0 0 x53.wordV 0 0 nS nS nS nS 0 0 0 0 0 nS) fun b4 a5 B=>ng<|Pl 3<|?_
 refine L0<|Oc<|m3 (cg (ap.upd a3 B (aa hne aA) (ax (aY A (by decide)) aK))) fun b5 a6 a7 b7=>Pl 1<|L0<|Oc<|m3 (cg a6) fun b9 a8 a9 ba=>?_
 refine ab a8 fun jh ac ad=>?_
 refine Pl 2<|?_
 have D:=u1 a7 a9 im
 have E:=b6 D (Ne.symm hne) a5
 refine L0<|cj E 10 (mG c 0 0 0 0 0 0 0 0 x53.wordV ((dt x53).wordV) 0 nS nS nS nS 0 0 0 0 0 nS) fun bb af ag=>Pl 2<|L0<|cj af 11 (mG c 0 0 0 0 0 0 0 0 x53.wordV ((dt x53).wordV) (((dt x53).wordsC 1).wordV) nS nS nS nS 0 0 0 0 0 nS) fun bc ah ai=>nt<|go<|Pl 3<|L0<|Oi (C.byteV-6)<|?_
 have F:=u1 ag ai im
 have G:=ap.upd ad F (aa hne aA) (ax (aY E (by decide)) aK)
 refine L0<|Oc<|qX (cL (n:=(C.byteV-6)) G) fun al am bd an be bf ao H=>?_
 have bi:=Nat.le_trans (aj.bytesR_le jh (C.byteV-6)) (ap.len G)
 refine Pl 2<|?_
 have i:=b6 H (Ne.symm hne) ah
 refine L0<|cj i 14 (mG c 0 0 0 0 0 0 0 0 x53.wordV ((dt x53).wordV) (((dt x53).wordsC 1).wordV) nS nS (.slice al ((jh.bytesR (C.byteV-6)).length) am) nS 0 0 0 0 0 nS) fun bj aq j=>nl<|bn<|rm (.tuple #[])<|?_
 subst ac a1
 have hs:bX c C=(((((dt ((C.bytesC 1).need ((decide (6≤C.byteV))&&(decide (C.byteV≤70))) 5)).wordsC 1).wordsC 1).bytesC (C.byteV-6)),(aQ.mk c 0 0 0 0 0 0 0 0 (((C.bytesC 1).need ((decide (6≤C.byteV))&&(decide (C.byteV≤70))) 5).wordV) ((dt ((C.bytesC 1).need ((decide (6≤C.byteV))&&(decide (C.byteV≤70))) 5)).wordV) (((dt ((C.bytesC 1).need ((decide (6≤C.byteV))&&(decide (C.byteV≤70))) 5)).wordsC 1).wordV) [] [] ((((dt ((C.bytesC 1).need ((decide (6≤C.byteV))&&(decide (C.byteV≤70))) 5)).wordsC 1).wordsC 1).bytesR (C.byteV-6)) [] 0 0 0 0 0 [])):=by
   unfold bX fO fq
   (try simp only[a,b,d,bs,if_true,if_false,decide_true,decide_false,reduceIte])
   all_goals rfl
 rw[hs]
 exact⟨rfl,(ap.upd ao j (aa hne aA) (ax (aY i (by decide)) aK)),⟨_,⟨aq,rfl⟩,⟨_,_,_,_,_,rfl,aS.nil ..,aS.nil ..,(bh.upd' an j (ax (aY i (by decide)) aK)),aS.nil ..,aS.nil ..,⟨(b8 (x:=c) (by omega)),(b8 (x:=0) (by omega)),(aD (x:=0) (by omega)),(aD (x:=0) (by omega)),(aD (x:=0) (by omega)),(aD (x:=0) (by omega)),(aD (x:=0) (by omega)),(aD (x:=0) (by omega)),(aD (x:=0) (by omega)),(aD (x:=((C.bytesC 1).need ((decide (6≤C.byteV))&&(decide (C.byteV≤70))) 5).wordV) (by omega)),(aD (x:=(dt ((C.bytesC 1).need ((decide (6≤C.byteV))&&(decide (C.byteV≤70))) 5)).wordV) (by omega)),(aD (x:=((dt ((C.bytesC 1).need ((decide (6≤C.byteV))&&(decide (C.byteV≤70))) 5)).wordsC 1).wordV) (by omega)),(b8 (x:=0) (by omega)),(b8 (x:=0) (by omega)),(b8 (x:=0) (by omega)),(b8 (x:=0) (by omega)),(b8 (x:=0) (by omega))⟩⟩⟩,(ui z (ui B (ui D (ui F (us H j)))))⟩
 have V:=ak d
 refine sg<|Pl 2<|nt<|cb ((c==17)) (fun f=>?_) (fun f=>?_)
 have ar:=ae f
 refine sg<|Pl 1<|L0<|Oc<|m3 (ch hC) fun bm au aw bo=>L0<|Oi C.byteV<|Pl 1<|ng<|Pl 4<|cu 3 [73] 76 (((decide (1≤C.byteV))&&(decide (C.byteV≤251)))) (fun K I=>?_) ?_
 refine bl 73 ((decide (1≤C.byteV))) (fun h=>?_) (fun h=>?_)
 have ay:=of_decide_eq_true h
 exact Pl 3<|ce I (decide (C.byteV≤251)) (by rw[h];rfl)
 have ay:=of_decide_eq_false h
 exact Pl 3<|ce I false (by rw[h];rfl)
 refine L0<|Oc<|m2 (bg (((decide (1≤C.byteV))&&(decide (C.byteV≤251)))) 5 au) fun bp az aB=>?_
 refine ab az fun J aC L=>?_
 refine nt<|go<|Pl 3<|L0<|Oc<|qX (cL (n:=C.byteV) L) fun aE aG bq aH br bt aI aJ=>?_
 have bu:=Nat.le_trans (aj.bytesR_le J C.byteV) (ap.len L)
 refine Pl 2<|?_
 have M:=u1 aw (u1 aB aJ im) im
 have k:=b6 M (Ne.symm hne) hm
 refine L0<|cj k 14 (mG c 0 0 0 0 0 0 0 0 0 0 0 nS nS (.slice aE ((J.bytesR C.byteV).length) aG) nS 0 0 0 0 0 nS) fun bv aL l=>nl<|bn<|rm (.tuple #[])<|?_
 subst aC
 have hs:bX c C=((((C.bytesC 1).need ((decide (1≤C.byteV))&&(decide (C.byteV≤251))) 5).bytesC C.byteV),(aQ.mk c 0 0 0 0 0 0 0 0 0 0 0 [] [] (((C.bytesC 1).need ((decide (1≤C.byteV))&&(decide (C.byteV≤251))) 5).bytesR C.byteV) [] 0 0 0 0 0 [])):=by
   unfold bX fO fq
   (try simp only[a,b,d,f,bs,if_true,if_false,decide_true,decide_false,reduceIte])
   all_goals rfl
 rw[hs]
 exact⟨rfl,(ap.upd aI l (aa hne aA) (ax (aY k (by decide)) aK)),⟨_,⟨aL,rfl⟩,⟨_,_,_,_,_,rfl,aS.nil ..,aS.nil ..,(bh.upd' aH l (ax (aY k (by decide)) aK)),aS.nil ..,aS.nil ..,⟨(b8 (x:=c) (by omega)),(b8 (x:=0) (by omega)),(aD (x:=0) (by omega)),(aD (x:=0) (by omega)),(aD (x:=0) (by omega)),(aD (x:=0) (by omega)),(aD (x:=0) (by omega)),(aD (x:=0) (by omega)),(aD (x:=0) (by omega)),(aD (x:=0) (by omega)),(aD (x:=0) (by omega)),(aD (x:=0) (by omega)),(b8 (x:=0) (by omega)),(b8 (x:=0) (by omega)),(b8 (x:=0) (by omega)),(b8 (x:=0) (by omega)),(b8 (x:=0) (by omega))⟩⟩⟩,(us M l)⟩
 have ar:=ak f
 refine sk<|bn<|rm (.tuple #[])<|?_
 have hs:bX c C=(C,(aQ.mk c 0 0 0 0 0 0 0 0 0 0 0 [] [] [] [] 0 0 0 0 0 [])):=by
   unfold bX fO fq
   (try simp only[a,b,d,f,bs,if_true,if_false,decide_true,decide_false,reduceIte])
   all_goals rfl
 rw[hs]
 exact⟨rfl,hC,⟨_,⟨hm,rfl⟩,⟨_,_,_,_,_,rfl,aS.nil ..,aS.nil ..,aS.nil ..,aS.nil ..,aS.nil ..,⟨(b8 (x:=c) (by omega)),(b8 (x:=0) (by omega)),(aD (x:=0) (by omega)),(aD (x:=0) (by omega)),(aD (x:=0) (by omega)),(aD (x:=0) (by omega)),(aD (x:=0) (by omega)),(aD (x:=0) (by omega)),(aD (x:=0) (by omega)),(aD (x:=0) (by omega)),(aD (x:=0) (by omega)),(aD (x:=0) (by omega)),(b8 (x:=0) (by omega)),(b8 (x:=0) (by omega)),(b8 (x:=0) (by omega)),(b8 (x:=0) (by omega)),(b8 (x:=0) (by omega))⟩⟩⟩,(aF.mono (S':=[g,gm]) (aF.refl [] _) av)⟩
end Go.Proofs.YtogbnemojakcpaaGreat
