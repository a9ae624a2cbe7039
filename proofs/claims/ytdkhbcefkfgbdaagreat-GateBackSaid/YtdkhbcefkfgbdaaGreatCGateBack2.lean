/- Contracts of functions, part CGateBack2. -/
import Derived.Test.YtdkhbcefkfgbdaaGreatCGateBack1
import Derived.Laws.BytesArg
import Derived.Stop.BytesEq
import Derived.Laws.BitsAllLaws
set_option linter.unusedVariables false
set_option linter.unusedSimpArgs false
set_option maxRecDepth 100000
set_option maxHeartbeats 4000000
namespace Go.Proofs.YtdkhbcefkfgbdaaGreat
open Go.RowKit
def kF (x:Int) : Nat:=if x=1∨x=2∨x=5∨x=15 then 1 else if x=3∨x=4∨x=6∨x=16∨x=22∨x=23∨x=24 then 2 else if x=7∨x=8∨x=11∨x=12∨x=17 then 3 else if x=20∨x=21 then 4 else if x=43 then 5 else 0
def Cb:Nat→Value
  | 1=>.tuple #[.agg #[.func (.func 96) #[] #[],.func (.func 97) #[] #[]],.bool true]
  | 2=>.tuple #[.agg #[.func (.func 98) #[] #[],.func (.func 99) #[] #[]],.bool true]
  | 3=>.tuple #[.agg #[.func (.func 100) #[] #[],.func (.func 101) #[] #[]],.bool true]
  | 4=>.tuple #[.agg #[.func (.func 102) #[] #[],.func (.func 103) #[] #[]],.bool true]
  | 5=>.tuple #[.agg #[.func (.func 104) #[] #[],.func (.func 105) #[] #[]],.bool true]
  | _=>.tuple #[.agg #[.nilFunc,.nilFunc],.bool false]
theorem kK(x:Int) : ((x=1∨x=2∨x=5∨x=15)∧kF x=1)∨((x=3∨x=4∨x=6∨x=16∨x=22∨x=23∨x=24)∧kF x=2)∨((x=7∨x=8∨x=11∨x=12∨x=17)∧kF x=3)∨((x=20∨x=21)∧kF x=4)∨((x=43)∧kF x=5)∨((¬ x=1∧¬ x=2∧¬ x=5∧¬ x=15∧¬ x=3∧¬ x=4∧¬ x=6∧¬ x=16∧¬ x=22∧¬ x=23∧¬ x=24∧¬ x=7∧¬ x=8∧¬ x=11∧¬ x=12∧¬ x=17∧¬ x=20∧¬ x=21∧¬ x=43)∧kF x=0):=by
  unfold kF
  repeat
    split
    · simp_all
  simp_all
def fp:Array MapEntry:=#[⟨.int .u8 1,.agg #[.func (.func 96) #[] #[],.func (.func 97) #[] #[]],0⟩,⟨.int .u8 2,.agg #[.func (.func 96) #[] #[],.func (.func 97) #[] #[]],1⟩,⟨.int .u8 5,.agg #[.func (.func 96) #[] #[],.func (.func 97) #[] #[]],2⟩,⟨.int .u8 15,.agg #[.func (.func 96) #[] #[],.func (.func 97) #[] #[]],3⟩,⟨.int .u8 3,.agg #[.func (.func 98) #[] #[],.func (.func 99) #[] #[]],4⟩,⟨.int .u8 4,.agg #[.func (.func 98) #[] #[],.func (.func 99) #[] #[]],5⟩,⟨.int .u8 6,.agg #[.func (.func 98) #[] #[],.func (.func 99) #[] #[]],6⟩,⟨.int .u8 16,.agg #[.func (.func 98) #[] #[],.func (.func 99) #[] #[]],7⟩,⟨.int .u8 22,.agg #[.func (.func 98) #[] #[],.func (.func 99) #[] #[]],8⟩,⟨.int .u8 23,.agg #[.func (.func 98) #[] #[],.func (.func 99) #[] #[]],9⟩,⟨.int .u8 24,.agg #[.func (.func 98) #[] #[],.func (.func 99) #[] #[]],10⟩,⟨.int .u8 7,.agg #[.func (.func 100) #[] #[],.func (.func 101) #[] #[]],11⟩,⟨.int .u8 8,.agg #[.func (.func 100) #[] #[],.func (.func 101) #[] #[]],12⟩,⟨.int .u8 11,.agg #[.func (.func 100) #[] #[],.func (.func 101) #[] #[]],13⟩,⟨.int .u8 12,.agg #[.func (.func 100) #[] #[],.func (.func 101) #[] #[]],14⟩,⟨.int .u8 17,.agg #[.func (.func 100) #[] #[],.func (.func 101) #[] #[]],15⟩,⟨.int .u8 20,.agg #[.func (.func 102) #[] #[],.func (.func 103) #[] #[]],16⟩,⟨.int .u8 21,.agg #[.func (.func 102) #[] #[],.func (.func 103) #[] #[]],17⟩,⟨.int .u8 43,.agg #[.func (.func 104) #[] #[],.func (.func 105) #[] #[]],18⟩]
variable {w:World}
theorem fu{x:Int}  : Calls Tryz.prog 73 #[vB x] w (bS (Cb (kF x)) w):=by
 refine en 44 Tryz.func73 rfl<|sg<|aO #[.nilFunc,.nilFunc] fun bF bG g j ak=>Pl 1<|aU 2<|aO #[.nilFunc,.nilFunc] fun bH bI am s an=>aO #[.nilFunc,.nilFunc] fun bJ bK y z t=>?_
 refine aN (ub t s) #[.func (.func 96) #[] #[],.func (.func 97) #[] #[]] fun bL ao o=>?_
 have A:=nb (ag s) lr y
 refine aN (bf o (Ne.symm A) z) #[.func (.func 98) #[] #[],.func (.func 99) #[] #[]] fun bM ap p=>aU 2<|aO #[.nilFunc,.nilFunc] fun bN bO aq u n=>aO #[.nilFunc,.nilFunc] fun bP bQ B C d=>?_
 refine aN (ub d u) #[.func (.func 100) #[] #[],.func (.func 101) #[] #[]] fun bR ar a=>?_
 have D:=nb (ag u) lr B
 refine aN (bf a (Ne.symm D) C) #[.func (.func 102) #[] #[],.func (.func 103) #[] #[]] fun bT au b=>ng<|L0<|zT fun bU bV c av E=>?_
 have F:=aK b E
 have G:=ud n (ue d (us a F) B) aq
 have H:=aK p G
 have I:=bf H A ao
 refine L0<|cM I<|L0<|ip av 1 fun bW aw J=>?_
 have v:=nb (ag s) (le (le (le (le (le (le t.size o.size) p.size) n.size) d.size) a.size) b.size) c
 have K:=bf J v I
 refine L0<|cM K<|L0<|ip aw 2 fun bX ax L=>?_
 have M:=bf L v K
 refine L0<|cM M<|L0<|ip ax 5 fun bY ay N=>?_
 refine L0<|cM (bf N v M)<|L0<|ip ay 15 fun bZ az aA=>?_
 have O:=u1 J (u1 L (u1 N aA im) im) im
 have P:=ub (ud G O (le (le (le (le n.size d.size) a.size) b.size) c)) ap
 refine L0<|cM P<|L0<|ip az 3 fun c0 aB Q=>?_
 have k:=nb (ag z) (le (le (le (le (le o.size p.size) n.size) d.size) a.size) b.size) c
 have R:=bf Q k P
 refine L0<|cM R<|L0<|ip aB 4 fun c1 aC S=>?_
 have T:=bf S k R
 refine L0<|cM T<|L0<|ip aC 6 fun c2 aD U=>?_
 have V:=bf U k T
 refine L0<|cM V<|L0<|ip aD 16 fun c3 aE W=>?_
 have X:=bf W k V
 refine L0<|cM X<|L0<|ip aE 22 fun c4 aF Y=>?_
 have Z:=bf Y k X
 refine L0<|cM Z<|L0<|ip aF 23 fun c5 aG a0=>?_
 refine L0<|cM (bf a0 k Z)<|L0<|ip aG 24 fun c6 aH aI=>?_
 have a1:=u1 O (u1 Q (u1 S (u1 U (u1 W (u1 Y (u1 a0 aI im) im) im) im) im) im) im
 have a2:=bf (u1 F a1 (ni b.size c)) D ar
 refine L0<|cM a2<|L0<|ip aH 7 fun c7 aJ a3=>?_
 have r:=nb (ag u) (le (le d.size a.size) b.size) c
 have a4:=bf a3 r a2
 refine L0<|cM a4<|L0<|ip aJ 8 fun c8 aL a5=>?_
 have a6:=bf a5 r a4
 refine L0<|cM a6<|L0<|ip aL 11 fun c9 aM a7=>?_
 have a8:=bf a7 r a6
 refine L0<|cM a8<|L0<|ip aM 12 fun ca aP a9=>?_
 refine L0<|cM (bf a9 r a8)<|L0<|ip aP 17 fun cb aQ aR=>?_
 have aa:=u1 a1 (u1 a3 (u1 a5 (u1 a7 (u1 a9 aR im) im) im) im) im
 have ab:=ub (ud E aa c) au
 refine L0<|cM ab<|L0<|ip aQ 20 fun cc aS ac=>?_
 refine L0<|cM (bf ac (nb (ag C) (le a.size b.size) c) ab)<|L0<|ip aS 21 fun cd aT aV=>Pl 1<|L0<|ip aT 43 fun ce l aW=>Pl 2<|aU 2<|?_
 have f:=ud an (ue t (us o (u1 H (u1 aa (u1 ac (u1 aV aW im) im) im) (ni (le (le (le (le p.size n.size) d.size) a.size) b.size) c))) y) am
 have m:=aK ak f
 rcases kK x with⟨hk,hkf⟩|⟨hk,hkf⟩|⟨hk,hkf⟩|⟨hk,hkf⟩|⟨hk,hkf⟩|⟨hk,hkf⟩
 obtain⟨ix,hix⟩ : ∃ i,Instr.findNow (.int .u8) (vB x) fp.toList 0=some (some (i,.agg #[.func (.func 96) #[] #[],.func (.func 97) #[] #[]])):=by
   rcases hk with rfl|rfl|rfl|rfl
   · exact⟨0,by kernel_rfl⟩
   · exact⟨1,by kernel_rfl⟩
   · exact⟨2,by kernel_rfl⟩
   · exact⟨3,by kernel_rfl⟩
 refine L0<|p8 (hf:=(D9 fp hix)) l x (.agg #[.nilFunc,.nilFunc]) (some (ix,.agg #[.func (.func 96) #[] #[],.func (.func 97) #[] #[]]))<|Pl 3<|aO #[.nilFunc,.nilFunc] fun cf cg aX aY aZ=>aN aY #[.func (.func 96) #[] #[],.func (.func 97) #[] #[]] fun ch b0 b1=>Pl 1<|ng<|L0<|cM b0<|Pl 1<|?_
 have ad:=ud aZ b1 aX
 refine aN (ub (aK f ad) j) #[.func (.func 96) #[] #[],.func (.func 97) #[] #[]] fun ci b2 b3=>al 1<|rt<|eA b2 (.bool true)<|?_
 rw[hkf]
 exact⟨rfl,(ud m (uz ad b3) g)⟩
 obtain⟨ix,hix⟩ : ∃ i,Instr.findNow (.int .u8) (vB x) fp.toList 0=some (some (i,.agg #[.func (.func 98) #[] #[],.func (.func 99) #[] #[]])):=by
   rcases hk with rfl|rfl|rfl|rfl|rfl|rfl|rfl
   · exact⟨4,by kernel_rfl⟩
   · exact⟨5,by kernel_rfl⟩
   · exact⟨6,by kernel_rfl⟩
   · exact⟨7,by kernel_rfl⟩
   · exact⟨8,by kernel_rfl⟩
   · exact⟨9,by kernel_rfl⟩
   · exact⟨10,by kernel_rfl⟩
 refine L0<|p8 (hf:=(D9 fp hix)) l x (.agg #[.nilFunc,.nilFunc]) (some (ix,.agg #[.func (.func 98) #[] #[],.func (.func 99) #[] #[]]))<|Pl 3<|aO #[.nilFunc,.nilFunc] fun cj ck b4 b5 b6=>aN b5 #[.func (.func 98) #[] #[],.func (.func 99) #[] #[]] fun cl b7 b8=>Pl 1<|ng<|L0<|cM b7<|Pl 1<|?_
 have ae:=ud b6 b8 b4
 refine aN (ub (aK f ae) j) #[.func (.func 98) #[] #[],.func (.func 99) #[] #[]] fun cm b9 ba=>al 1<|rt<|eA b9 (.bool true)<|?_
 rw[hkf]
 exact⟨rfl,(ud m (uz ae ba) g)⟩
 obtain⟨ix,hix⟩ : ∃ i,Instr.findNow (.int .u8) (vB x) fp.toList 0=some (some (i,.agg #[.func (.func 100) #[] #[],.func (.func 101) #[] #[]])):=by
   rcases hk with rfl|rfl|rfl|rfl|rfl
   · exact⟨11,by kernel_rfl⟩
   · exact⟨12,by kernel_rfl⟩
   · exact⟨13,by kernel_rfl⟩
   · exact⟨14,by kernel_rfl⟩
   · exact⟨15,by kernel_rfl⟩
 refine L0<|p8 (hf:=(D9 fp hix)) l x (.agg #[.nilFunc,.nilFunc]) (some (ix,.agg #[.func (.func 100) #[] #[],.func (.func 101) #[] #[]]))<|Pl 3<|aO #[.nilFunc,.nilFunc] fun cn co bb bc bd=>aN bc #[.func (.func 100) #[] #[],.func (.func 101) #[] #[]] fun cp be bg=>Pl 1<|ng<|L0<|cM be<|Pl 1<|?_
 have af:=ud bd bg bb
 refine aN (ub (aK f af) j) #[.func (.func 100) #[] #[],.func (.func 101) #[] #[]] fun cq bh bi=>al 1<|rt<|eA bh (.bool true)<|?_
 rw[hkf]
 exact⟨rfl,(ud m (uz af bi) g)⟩
 obtain⟨ix,hix⟩ : ∃ i,Instr.findNow (.int .u8) (vB x) fp.toList 0=some (some (i,.agg #[.func (.func 102) #[] #[],.func (.func 103) #[] #[]])):=by
   rcases hk with rfl|rfl
   · exact⟨16,by kernel_rfl⟩
   · exact⟨17,by kernel_rfl⟩
 refine L0<|p8 (hf:=(D9 fp hix)) l x (.agg #[.nilFunc,.nilFunc]) (some (ix,.agg #[.func (.func 102) #[] #[],.func (.func 103) #[] #[]]))<|Pl 3<|aO #[.nilFunc,.nilFunc] fun cr cs bj bk bl=>aN bk #[.func (.func 102) #[] #[],.func (.func 103) #[] #[]] fun ct bm bn=>Pl 1<|ng<|L0<|cM bm<|Pl 1<|?_
 have ah:=ud bl bn bj
 refine aN (ub (aK f ah) j) #[.func (.func 102) #[] #[],.func (.func 103) #[] #[]] fun cu bo bp=>al 1<|rt<|eA bo (.bool true)<|?_
 rw[hkf]
 exact⟨rfl,(ud m (uz ah bp) g)⟩
 obtain⟨ix,hix⟩ : ∃ i,Instr.findNow (.int .u8) (vB x) fp.toList 0=some (some (i,.agg #[.func (.func 104) #[] #[],.func (.func 105) #[] #[]])):=by
   rcases hk with rfl
   · exact⟨18,by kernel_rfl⟩
 refine L0<|p8 (hf:=(D9 fp hix)) l x (.agg #[.nilFunc,.nilFunc]) (some (ix,.agg #[.func (.func 104) #[] #[],.func (.func 105) #[] #[]]))<|Pl 3<|aO #[.nilFunc,.nilFunc] fun cv cw bq br bs=>aN br #[.func (.func 104) #[] #[],.func (.func 105) #[] #[]] fun cx bt bu=>Pl 1<|ng<|L0<|cM bt<|Pl 1<|?_
 have ai:=ud bs bu bq
 refine aN (ub (aK f ai) j) #[.func (.func 104) #[] #[],.func (.func 105) #[] #[]] fun cy bv bw=>al 1<|rt<|eA bv (.bool true)<|?_
 rw[hkf]
 exact⟨rfl,(ud m (uz ai bw) g)⟩
 refine L0<|p8 (hf:=(DM (q:=.u8) (x:=x) fp (by unfold fp;exact fQ _ _ (by intro e he;simp only[List.mem_cons,List.not_mem_nil,or_false] at he;obtain⟨z1,z2,z5,cz,z3,z4,z6,cA,cB,cC,cD,z7,z8,cE,cF,cG,cH,cI,cJ⟩:=hk;rcases he with rfl | rfl | rfl | rfl | rfl | rfl | rfl | rfl | rfl | rfl | rfl | rfl | rfl | rfl | rfl | rfl | rfl | rfl | rfl<;>exact⟨_,rfl,fun h=>by omega⟩)))) l x (.agg #[.nilFunc,.nilFunc]) none<|Pl 3<|aO #[.nilFunc,.nilFunc] fun cK cL bx bz bA=>aN bz #[.nilFunc,.nilFunc] fun cN bB bC=>Pl 1<|ng<|L0<|cM bB<|Pl 1<|?_
 have aj:=ud bA bC bx
 refine aN (ub (aK f aj) j) #[.nilFunc,.nilFunc] fun cO bD bE=>al 1<|rt<|eA bD (.bool false)<|?_
 rw[hkf]
 exact⟨rfl,(ud m (uz aj bE) g)⟩
open Go.RowKit
variable {a:Int}
theorem pQ{ev:Operand→Value}{o:Oper}{x y:Operand}{t:TypeId}{b:Int}  (ho:o.op = .binOp .neq 145 x y t)
    (hx:ev x = .agg #[.int .u8 a,.int .u8 b]) (hy:ev y = .agg #[.int .u8 0,.int .u8 0]) : (execOp ev o).run Tryz.prog w = .ok (.value (.bool ((a != 0)||(b != 0)))) w:=by
  unfold execOp
  rw[ho]
  simp only[hx,hy]
  cases a with
  | ofNat a =>
    cases a with
    | zero =>
      cases b with
      | ofNat b =>
        cases b with
        | zero=>kernel_rfl
        | succ b=>kernel_rfl
      | negSucc b=>kernel_rfl
    | succ a=>kernel_rfl
  | negSucc a=>kernel_rfl
def iB (a b:Int) : b7:={ b7.zero with code:=a,fail:=b }
def gw (a b:Int) : Bool:=(((a != 0)||(b != 0))&&dU a)&&dL b
theorem nq{b:Int}  : Calls Tryz.prog 95 #[.agg #[vB a,vB b]] w (bS (.agg #[vB a,vB b,vW 0,vW 0,vW 0,vW 0,vW 0,vW 0,vW 0,vW 0,vW 0,vW 0,nS,nS,nS,nS,vB 0,vB 0,vB 0,vB 0,vB 0,nS]) w):=by
 refine en 8 Tryz.func95 rfl<|sg<|L0<|cX #[vB a,vB b] fun k l m e f=>aO mZ fun n o g h c=>aU 1<|?_
 have d:=ub c e
 refine aD d 0<|Pl 1<|aD d 1<|Pl 1<|aN h (mG a b 0 0 0 0 0 0 0 0 0 0 nS nS nS nS 0 0 0 0 0 nS) fun p i j=>t4<|CT i<|?_
 exact⟨rfl,(aK f (ud c j g))⟩
theorem uB{b:Int}  : Calls Tryz.prog 93 #[.agg #[vB a,vB b]] w (bS (.bool (gw a b)) w):=by
 refine en 16 Tryz.func93 rfl<|sg<|L0<|cX #[vB a,vB b] fun l m n d f=>Pl 1<|ng<|L0<|cM d<|Pl 1<|L0<|jv (.bool ((a != 0)||(b != 0))) (pQ rfl (by kernel_rfl) (by kernel_rfl))<|Pl 1<|bl 6 (((a != 0)||(b != 0))) (fun c=>?_) (fun c=>?_)
 refine Pl 1<|L1<|iH d 0<|L1<|Oc<|m1 (mK (x:=a) (w:=_)) fun o g=>Pl 2<|?_
 have h:=aK f g
 refine bl 11 ((dU a)) (fun e=>?_) (fun e=>?_)
 refine Pl 1<|?_
 refine L1<|iH (ub g d) 1<|L1<|Oc<|m1 (lF (x:=b) (w:=_)) fun p k=>al 2<|rt<|rr (.bool (dL b))<|?_
 exact dQ (by unfold gw;(try simp only[c,e,bC])<;>rfl) ⟨rfl,(aK h k)⟩
 exact al 5<|rt<|rr (.bool false)<|dQ (by unfold gw;(try simp only[c,e,bC])<;>rfl) ⟨rfl,h⟩
 have i:=(fh c).1
 have j:=(fh c).2
 have q:=aZ i
 have r:=aZ j
 exact al 10<|rt<|rr (.bool false)<|dQ (by unfold gw;(try simp only[c,i,j,bC])<;>rfl) ⟨rfl,f⟩
def iO (b:List Int) : b7 × Int :=
  if (b.length:Int)==0 then (b7.zero,2)
  else if decide (b.getD 0 0<128) then (b7.zero,4)
  else if !(dU ((b.getD 0 0-128)%256)) then (b7.zero,4)
  else if (b.length:Int)==1 then (b7.zero,2)
  else if !(dL (b.getD 1 0)) then (b7.zero,6)
  else if decide (2<(b.length:Int)) then (b7.zero,3)
  else (iB ((b.getD 0 0-128)%256) (b.getD 1 0),0)
variable {A:Option Addr}{b:List Int}{cp:Nat}{m:Md}
theorem sP(hsl:aW m w (.slice A b.length cp) b)(hb:b.length≤1048576) :
    Calls Tryz.prog 117 #[.slice A b.length cp] w (ef (iO b) w):=by
 have hln:(b.length:Int)≤1048576:=by omega
 refine en 49 Tryz.func117 rfl<|sg<|aO mZ fun ag ah g h q=>al 1<|sq<|bk<|aB 4<|cb (((b.length:Int)==0)) (fun c=>?_) (fun c=>?_)
 have O:=aI c
 refine aA 1<|aN h mZ fun ai P Q=>al 1<|rt<|br<|tr<|eA P (vI 2)<|?_
 exact dQ (y:=(b7.zero,2)) (by unfold iO;(try simp only[c,bC,Bool.not_eq_true,reduceIte])<;>rfl) (cl (ud q Q g))
 have O:=aS c
 refine aA 1<|?_
 have B:=aW.old hsl q
 refine kf (aW.at_ B 0 (by omega)) fun C D E F aj=>L0<|lW b.length 0 E (by omega)<|L0<|jO (p:=⟨C,D+0,none⟩) (v:=vB (b.getD 0 0)) F<|Pl 2<|bl 14 ((decide ((b.getD 0 0)<128))) (fun d=>?_) (fun d=>?_)
 have R:=of_decide_eq_true d
 refine al 8<|c1<|aA 1<|aN h mZ fun ak S T=>al 1<|rt<|br<|tr<|eA S (vI 4)<|?_
 exact dQ (y:=(b7.zero,4)) (by unfold iO;(try simp only[c,d,bC,Bool.not_eq_true,reduceIte])<;>rfl) (cl (ud q T g))
 have R:=of_decide_eq_false d
 refine Pl 1<|L1<|lW b.length 0 E (by omega)<|L1<|jO (p:=⟨C,D+0,none⟩) (v:=vB (b.getD 0 0)) F<|Pl 1<|L1<|Oc<|m1 (mK (x:=(((b.getD 0 0)-128)%256)) (w:=_)) fun am i=>al 3<|?_
 have t:=aK q i
 refine cb ((!(dU (((b.getD 0 0)-128)%256)))) (fun e=>?_) (fun e=>?_)
 have k:(dU (((b.getD 0 0)-128)%256))=false:=by simpa using e
 refine aA 1<|?_
 refine aN (ub i h) mZ fun an U V=>al 1<|rt<|br<|tr<|eA U (vI 4)<|?_
 exact dQ (y:=(b7.zero,4)) (by unfold iO;(try simp only[c,d,e,k,bC,Bool.not_eq_true,reduceIte])<;>rfl) (cl (ud t V g))
 have k:(dU (((b.getD 0 0)-128)%256))=true:=by simpa using e
 refine aB 4<|cb (((b.length:Int)==1)) (fun j=>?_) (fun j=>?_)
 have W:=aI j
 refine aA 1<|?_
 refine aN (ub i h) mZ fun ao X Y=>al 1<|rt<|br<|tr<|eA X (vI 2)<|?_
 exact dQ (y:=(b7.zero,2)) (by unfold iO;(try simp only[c,d,e,k,j,bC,Bool.not_eq_true,reduceIte])<;>rfl) (cl (ud t Y g))
 have W:=aS j
 refine aA 1<|?_
 have G:=aW.old B i
 refine kf (aW.at_ G 1 (by omega)) fun Z a0 a1 a2 ap=>L0<|lW b.length 1 a1 (by omega)<|L0<|jO (p:=⟨Z,a0+1,none⟩) (v:=vB (b.getD 1 0)) a2<|aG<|m1 (lF (x:=(b.getD 1 0)) (w:=_)) fun aq n=>al 2<|?_
 have u:=aK t n
 refine cb ((!(dL (b.getD 1 0)))) (fun l=>?_) (fun l=>?_)
 have r:(dL (b.getD 1 0))=false:=by simpa using l
 refine aA 1<|?_
 refine aN (ub (aK i n) h) mZ fun ar a3 a4=>al 1<|rt<|br<|tr<|eA a3 (vI 6)<|?_
 exact dQ (y:=(b7.zero,6)) (by unfold iO;(try simp only[c,d,e,k,j,l,r,bC,Bool.not_eq_true,reduceIte])<;>rfl) (cl (ud u a4 g))
 have r:(dL (b.getD 1 0))=true:=by simpa using l
 refine aB 4<|cb ((decide (2<(b.length:Int)))) (fun o=>?_) (fun o=>?_)
 have a5:=of_decide_eq_true o
 refine aA 1<|?_
 refine aN (ub (aK i n) h) mZ fun au a6 a7=>al 1<|rt<|br<|tr<|eA a6 (vI 3)<|?_
 exact dQ (y:=(b7.zero,3)) (by unfold iO;(try simp only[c,d,e,k,j,l,r,o,bC,Bool.not_eq_true,reduceIte])<;>rfl) (cl (ud u a7 g))
 have a5:=of_decide_eq_false o
 refine sk<|bn<|tn<|sq<|?_
 have H:=aW.old G n
 refine kf (aW.at_ H 0 (by omega)) fun a8 a9 I J av=>kf (aW.at_ H 1 (by omega)) fun aa ab K L aw=>Rg 11 (fun w'=>w'.cell? ⟨a8,a9+0,none⟩=some (vB (b.getD 0 0))∧w'.cell? ⟨aa,ab+1,none⟩=some (vB (b.getD 1 0))) fun ax z=>bi ⟨(uc z J),(uc z L)⟩ fun f=>Rt 0 f<|yJ 1 f b.length 0 0 rfl I (by omega)<|Rl 2 f (fun _ hs=>hs.1)<|Rt 3 f<|Rt 4 f<|yJ 5 f b.length 1 1 rfl K (by omega)<|Rl 6 f (fun _ hs=>hs.2)<|Rt 7 f<|R0 8 rfl<|Oc<|m1 (nq (a:=(((b.getD 0 0)-128)%256)) (b:=(b.getD 1 0)) (w:=_)) fun ay ac=>?_
 have s:=aK z ac
 refine bi ⟨(uc s J),(uc s L)⟩ fun az=>?_
 refine R0 9 rfl<|rL (ub (aK i (aK n s)) h) (mG (((b.getD 0 0)-128)%256) (b.getD 1 0) 0 0 0 0 0 0 0 0 0 0 nS nS nS nS 0 0 0 0 0 nS) fun aC ad ae=>?_
 have M:=ud u (uz s ae) g
 have N:=aW.old hsl M
 exact bi ⟨(cB N I 0 (by omega)),(cB N K 1 (by omega))⟩ fun af=>Rt 10 af<|re<|tn<|rt<|eA ad (vI 0)<|dQ (y:=((b7.mk (((b.getD 0 0)-128)%256) (b.getD 1 0) 0 0 0 0 0 0 0 0 0 0 [] [] [] [] 0 0 0 0 0 []),0)) (by unfold iO;(try simp only[c,d,e,k,j,l,r,o,bC,Bool.not_eq_true,reduceIte])<;>rfl) ⟨_,rfl,⟨_,_,_,_,_,rfl,aT.nil ..,aT.nil ..,aT.nil ..,aT.nil ..,aT.nil ..,(eR (by omega))⟩,M⟩
variable {v:Value}
theorem vc(h:aW m w v b)(hb:b.length≤1048576) : Calls Tryz.prog 117 #[v] w (ef (iO b) w):=by
  obtain⟨A,cp,rfl,_,_⟩:=h.shape
  exact sP h hb
open Go.RowKit
def cy (dir:Int)(M:b7) : List Int :=
  if M.code==5 then aV [M.addr,M.value]
  else if M.code==15&&dir==0 then ((aV [M.addr,M.count]++[((dO M.bits).length:Int)%256])++dO M.bits)
  else if dir==1&&M.code != 15 then [(M.data.length:Int)%256]++M.data
  else aV [M.addr,M.count]
variable {dir:Int}
theorem uC{cs:Array Value}{M:b7}   (h:aH m w cs.toList M)(hf:bg M) : Calls Tryz.prog 147 #[vI dir,.agg cs] w (yQ (cy dir M) w):=by
 refine jl h fun Aw kw Ab kb Ad kd Ar kr Ao ko e hw hbt hd hr ho _ _ _ _ _ _ _ _ _ _ q0 q1 q2 q3 q4 q5 q6 q7 q8 q9 ah aj am an ao ap aq=>?_
 subst e
 have hf1:=hf.words
 have hf2:=hf.bits
 have hf3:=hf.data
 have hf4:=hf.recs
 have hf5:=hf.objects
 refine en 62 Tryz.func147 rfl<|sg<|L0<|cX (mG M.code M.fail M.addr M.count M.value M.and_ M.or_ M.addr2 M.sub M.status M.events M.messages (.slice Aw M.words.length kw) (.slice Ab M.bits.length kb) (.slice Ad M.data.length kd) (.slice Ar M.recs.length kr) M.mei M.kind M.level M.more M.next (.slice Ao M.objects.length ko)) fun ar au aw a b=>al 1<|sq<|bk<|aA 1<|aD a 0<|Pl 2<|nl<|tn<|cb ((M.code==5)) (fun c=>?_) (fun c=>?_)
 have D:=aI c
 refine aA 1<|aD a 2<|Pl 1<|aD a 4<|L0<|dX (m:=2) (e:=37) #[vW M.addr,vW M.value] fun az aB E F n=>?_
 have G:=iw E (xs:=[M.addr,M.value]) (by as_aux_lemma=>kernel_rfl) (ax (by omega) (ax (by omega) b9)) (by(try simp only[List.length_cons,List.length_nil]);omega) F
 refine aG<|fC (ck (xs:=[M.addr,M.value]) (G).rd (by(try simp only[List.length_cons,List.length_nil]);omega)) fun H I aF J aJ aL L=>al 1<|rt<|br<|tr<|rr (.slice H ((aV ([M.addr,M.value])).length) I)<|?_
 have hs:cy dir M=(aV ([M.addr,M.value])):=by
   unfold cy
   (try simp only[c,bC,reduceIte])
   all_goals first | rfl | (simp_all;done)
 rw[hs]
 exact⟨_,rfl,(aQ.weaken J (le b.size n.size)),(aK b (aK n L))⟩
 have D:=aS c
 refine aA 1<|aD a 0<|Pl 2<|ij 3 [20] 23 20 (M.code==15) (dir==0) (fun K N O=>?_) ?_
 have aM:=aI O
 exact Pl 3<|ce N _ rfl
 refine al 1<|cb (((M.code==15)&&(dir==0))) (fun d=>?_) (fun d=>?_)
 have o:=(bW d).1
 have p:=(bW d).2
 have aN:=aI o
 have aO:=aI p
 refine aA 1<|aD a 13<|?_
 refine aG<|fC (xr (l:=M.bits) (nB.old hbt b) (by omega)) fun aP aT aY P aZ b0 g=>?_
 have b1:=xu M.bits
 refine Pl 1<|aU 1<|?_
 have q:=ub g a
 refine aD q 2<|Pl 1<|aD q 3<|L0<|dX (m:=2) (e:=37) #[vW M.addr,vW M.count] fun b2 b3 Q R i=>?_
 have S:=iw Q (xs:=[M.addr,M.count]) (by as_aux_lemma=>kernel_rfl) (ax (by omega) (ax (by omega) b9)) (by(try simp only[List.length_cons,List.length_nil]);omega) R
 refine aG<|fC (ck (xs:=[M.addr,M.count]) (S).rd (by(try simp only[List.length_cons,List.length_nil]);omega)) fun T b4 b5 r b6 b8 s=>Pl 3<|L0<|dX (m:=1) (e:=5) #[vB (((dO M.bits).length:Int)%256)] fun ba bb U V j=>?_
 have W:=dZ U (xs:=[(((dO M.bits).length:Int)%256)]) (by as_aux_lemma=>kernel_rfl) (ax (by omega) b9) (by(try simp only[List.length_cons,List.length_nil]);omega) V
 refine L0<|dj bp (xs:=(aV ([M.addr,M.count]))) (ys:=([(((dO M.bits).length:Int)%256)])) (vB 0) 1 (ak r j (fun x hx=>av) (fun _ _ h=>h)) (W).rd (by(try simp only[co,aE]);omega) (le s.size j.size) fun bc bd be t X=>Pl 1<|?_
 have u:=ut s (ut (ay.mono (S':=(ob T++[])) j aC) X (ai il aC)) (ai (aX r lr) aC)
 have v:=aK i u
 refine L0<|dj bp (xs:=((aV ([M.addr,M.count]))++[(((dO M.bits).length:Int)%256)])) (ys:=(dO M.bits)) (vB 0) 1 t ((ak P v (fun x hx=>av) (fun _ _ h=>h))).rd (by(try simp only[co,aE]);omega) u.size fun Y Z bf a0 a1=>al 1<|rt<|br<|tr<|rr (.slice Y ((((aV ([M.addr,M.count]))++[(((dO M.bits).length:Int)%256)])++(dO M.bits)).length) Z)<|?_
 have hs:cy dir M=(((aV ([M.addr,M.count]))++[(((dO M.bits).length:Int)%256)])++(dO M.bits)):=by
   unfold cy
   (try simp only[c,d,o,p,bC,reduceIte])
   all_goals first | rfl | (simp_all;done)
 rw[hs]
 exact⟨_,rfl,(aQ.weaken a0 (le (le b.size g.size) i.size)),(aK b (aK g (ut v a1 (ai (aX t i.size) aC))))⟩
 refine aA 3<|ij 4 [43] 47 43 (dir==1) (M.code != 15) (fun K a2 a3=>?_) ?_
 have bh:=aI a3
 exact Pl 1<|L1<|iH a 0<|Pl 2<|ce a2 _ rfl
 refine al 1<|cb (((dir==1)&&(M.code != 15))) (fun f=>?_) (fun f=>?_)
 have y:=(bW f).1
 have z:=(bW f).2
 have bi:=aI y
 have bj:=aR z
 refine aA 1<|aD a 14<|Pl 2<|L0<|dX (m:=1) (e:=5) #[vB ((M.data.length:Int)%256)] fun bl bm a4 a5 k=>?_
 have A:=dZ a4 (xs:=[((M.data.length:Int)%256)]) (by as_aux_lemma=>kernel_rfl) (ax (by omega) b9) (by(try simp only[List.length_cons,List.length_nil]);omega) a5
 refine Pl 1<|?_
 refine aD (ub k a) 14<|?_
 have B:=aK b k
 refine L0<|dj bp (xs:=([((M.data.length:Int)%256)])) (ys:=M.data) (vB 0) 1 A (aW.old hd B) (by(try simp only[co,aE]);omega) k.size fun a6 a7 bo a8 a9=>al 1<|rt<|br<|tr<|rr (.slice a6 (([((M.data.length:Int)%256)]++M.data).length) a7)<|?_
 have hs:cy dir M=([((M.data.length:Int)%256)]++M.data):=by
   unfold cy
   (try simp only[c,d,f,y,z,bC,reduceIte])
   all_goals first | rfl | (simp_all;done)
 rw[hs]
 exact⟨_,rfl,(aQ.weaken a8 b.size),(ut B a9 (ai (aX A b.size) aC))⟩
 refine sk<|bn<|tn<|aA 1<|aD a 2<|Pl 1<|aD a 3<|L0<|dX (m:=2) (e:=37) #[vW M.addr,vW M.count] fun bq bs aa ab C=>?_
 have ac:=iw aa (xs:=[M.addr,M.count]) (by as_aux_lemma=>kernel_rfl) (ax (by omega) (ax (by omega) b9)) (by(try simp only[List.length_cons,List.length_nil]);omega) ab
 refine aG<|fC (ck (xs:=[M.addr,M.count]) (ac).rd (by(try simp only[List.length_cons,List.length_nil]);omega)) fun ad ae bt af bu bv ag=>al 1<|rt<|rr (.slice ad ((aV ([M.addr,M.count])).length) ae)<|?_
 have hs:cy dir M=(aV ([M.addr,M.count])):=by
   unfold cy
   (try simp only[c,d,f,bC,reduceIte])
   all_goals first | rfl | (simp_all;done)
 rw[hs]
 exact⟨_,rfl,(aQ.weaken af (le b.size C.size)),(aK b (aK C ag))⟩
open Go.RowKit
def dx (x:Bool)(w:World)(e:Ending)(w':World) : Prop:=e = .returned (.bool x)∧ay [] w w'
variable {α:Type}
theorem tK[DecidableEq α]{xs ys:List α}{d:α}(h:xs.length=ys.length){k:Nat}(hk:k<xs.length)(hp:xs.take k=ys.take k)(hx:xs.getD k d=ys.getD k d) : xs.take (k+1)=ys.take (k+1):=by
  rw[List.take_add_one,List.take_add_one,hp]
  simp only[List.getD_eq_getElem?_getD,List.getElem?_eq_getElem hk,List.getElem?_eq_getElem (h▸hk),Option.getD_some] at hx
  simp[List.getElem?_eq_getElem hk,List.getElem?_eq_getElem (h▸hk),hx]
theorem Bp[DecidableEq α]{xs ys:List α}{d:α}(k:Nat)(hx:xs.getD k d≠ys.getD k d) : xs≠ys:=fun h=>hx (by rw[h])
variable {m':Md}{u:Value}{xs:List Int}
theorem tP{ys:List Int}  (hx:fv m w u xs)(hy:fv m' w v ys) : Calls Tryz.prog 133 #[u,v] w (dx (decide (xs=ys)) w):=by
  have hhx:=hx
  have hhy:=hy
  obtain⟨A,c,rfl,hc1,hc2⟩:=hx.shape
  obtain⟨B,c',rfl,rE,pB⟩:=hy.shape
  have hn:xs.length≤9223372036854775807:=by have:=hc2;unfold maxLen at this;omega
  by_cases hl:xs.length=ys.length
  case neg =>
    have hno:∀ W,ay [] w W→dx (decide (xs=ys)) w (.returned (.bool false)) W:=by
      intro W hW
      rw[decide_eq_false (fun h=>hl (by rw[h]))]
      exact⟨rfl,hW⟩
    have hli:((xs.length:Int)!=(ys.length:Int))=true:=by simp;omega
    clear hx hy hhx hhy hl
    go_enter Tryz.func133,Tryz.ntmps133
    go_wp2
    go_ret
    exact hno _ (ay.refl _ _)
  have hno:∀ W k,xs.getD k 0≠ys.getD k 0→ay [] w W→dx (decide (xs=ys)) w (.returned (.bool false)) W:=by
    intro W k hk hW
    rw[decide_eq_false (Bp k hk)]
    exact⟨rfl,hW⟩
  have hyes:∀ W,xs.take xs.length=ys.take xs.length→ay [] w W→dx (decide (xs=ys)) w (.returned (.bool true)) W:=by
    intro W hk hW
    rw[List.take_length,hl,List.take_length] at hk
    rw[decide_eq_true hk]
    exact⟨rfl,hW⟩
  revert hno hyes
  generalize dx (decide (xs=ys)) w=P
  intro hno hyes
  have hli:((xs.length:Int)!=(ys.length:Int))=false:=by simp;omega
  have hL:=Lib.hid hl
  clear hx hy hl
  go_enter Tryz.func133,Tryz.ntmps133
  go_wp2
  go_loopw [13] (fun i wr=>∃ k:Nat,k≤xs.length∧i = .int .i64 (k:Int)∧xs.take k=ys.take k∧ay [] w wr) (fun i _=>xs.length-(intOf i).toNat)
  case atStart=>exact⟨0,by omega,rfl,by simp,ay.refl _ _⟩
  case round =>
    obtain⟨k,hk,rfl,hpre,hu⟩:=hrel
    by_cases hlt:k<xs.length
    · obtain⟨b,off,rfl,cw0,hr0⟩:=fv.at_ hhx k hlt
      obtain⟨b',off',rfl,cw1,hr1⟩:=fv.at_ hhy k (by have:=hL.out;omega)
      have hlt':k<ys.length:=by have:=hL.out;omega
      have hstep:=fun h=>tK (d:=0) hL.out hlt hpre h
      have hno':=fun W h=>hno W k h
      revert cw0 cw1 hstep hno' hr0 hr1
      generalize xs.getD k 0=x0
      generalize ys.getD k 0=y0
      intro cw0 hr0 cw1 hr1 hstep hno'
      have hc0:=hu.cell (by simp) cw0
      have hc1:=hu.cell (by simp) cw1
      have hstep:=Lib.hid hstep
      have hno':=Lib.hid hno'
      clear cw0 cw1 hhx hhy hpre hno hyes
      have hc0:wr.drew.cell? ⟨b,off+k,none⟩=some (.int .u16 x0):=hc0
      have hc1:wr.drew.cell? ⟨b',off'+k,none⟩=some (.int .u16 y0):=hc1
      go_wp2
      refine qf (S:=fun w'=>w'.cell? ⟨b,off+k,none⟩=some (.int .u16 x0)∧w'.cell? ⟨b',off'+k,none⟩=some (.int .u16 y0)) (n:=9) #[false,false,false,false,false,false,false,false,false] (by kernel_rfl) rfl rfl ⟨hc0,hc1⟩ (fun hHeld=>?_)
      refine da (i:=0) (N:=some 16) (v:=?_) (a':=?_) #[true,false,false,false,false,false,false,false,false] rfl rfl (by kernel_rfl) (fun _ _ _ h=>h) (Or.inl ⟨by rfl,?_⟩) hHeld ?_ ?_
      rotate_left
      · rintro w' ⟨hs0,hs1⟩
        go_simp
        with_reducible rfl
      rotate_left
      · simp only[Act.put,List.setIfInBounds_toArray,List.set_cons_zero,List.set_cons_succ]
        rfl
      refine da (i:=1) (N:=some 17) (v:=?_) (a':=?_) #[true,true,false,false,false,false,false,false,false] rfl rfl (by kernel_rfl) (fun _ _ _ h=>h) (Or.inl ⟨by rfl,?_⟩) hHeld ?_ ?_
      rotate_left
      · rintro w' ⟨hs0,hs1⟩
        go_simp
        with_reducible rfl
      rotate_left
      · simp only[Act.put,List.setIfInBounds_toArray,List.set_cons_zero,List.set_cons_succ]
        rfl
      refine da (i:=2) (N:=some 18) (v:=?_) (a':=?_) #[true,true,true,false,false,false,false,false,false] rfl rfl (by kernel_rfl) (fun _ _ _ h=>h) (Or.inl ⟨by rfl,?_⟩) hHeld ?_ ?_
      rotate_left
      · rintro w' ⟨hs0,hs1⟩
        go_simp
        with_reducible rfl
      rotate_left
      · simp only[Act.put,List.setIfInBounds_toArray,List.set_cons_zero,List.set_cons_succ]
        rfl
      refine da (i:=3) (N:=some 19) (v:=?_) (a':=?_) #[true,true,true,true,false,false,false,false,false] rfl rfl (by kernel_rfl) (fun _ _ _ h=>h) (Or.inl ⟨by rfl,?_⟩) hHeld ?_ ?_
      rotate_left
      · rintro w' ⟨hs0,hs1⟩
        go_simp
        with_reducible rfl
      rotate_left
      · simp only[Act.put,List.setIfInBounds_toArray,List.set_cons_zero,List.set_cons_succ]
        rfl
      refine da (i:=4) (N:=some 20) (v:=?_) (a':=?_) #[true,true,true,true,true,false,false,false,false] rfl rfl (by kernel_rfl) (fun _ _ _ h=>h) (Or.inl ⟨by rfl,?_⟩) hHeld ?_ ?_
      rotate_left
      · rintro w' ⟨hs0,hs1⟩
        go_simp
        with_reducible rfl
      rotate_left
      · simp only[Act.put,List.setIfInBounds_toArray,List.set_cons_zero,List.set_cons_succ]
        rfl
      refine da (i:=5) (N:=some 21) (v:=?_) (a':=?_) #[true,true,true,true,true,true,false,false,false] rfl rfl (by kernel_rfl) (fun _ _ _ h=>h) (Or.inl ⟨by rfl,?_⟩) hHeld ?_ ?_
      rotate_left
      · rintro w' ⟨hs0,hs1⟩
        go_simp
        with_reducible rfl
      rotate_left
      · simp only[Act.put,List.setIfInBounds_toArray,List.set_cons_zero,List.set_cons_succ]
        rfl
      refine da (i:=6) (N:=some 22) (v:=?_) (a':=?_) #[true,true,true,true,true,true,true,false,false] rfl rfl (by kernel_rfl) (fun _ _ _ h=>h) (Or.inl ⟨by rfl,?_⟩) hHeld ?_ ?_
      rotate_left
      · rintro w' ⟨hs0,hs1⟩
        go_simp
        with_reducible rfl
      rotate_left
      · simp only[Act.put,List.setIfInBounds_toArray,List.set_cons_zero,List.set_cons_succ]
        rfl
      refine da (i:=7) (N:=some 23) (v:=?_) (a':=?_) #[true,true,true,true,true,true,true,true,false] rfl rfl (by kernel_rfl) (fun _ _ _ h=>h) (Or.inl ⟨by rfl,?_⟩) hHeld ?_ ?_
      rotate_left
      · rintro w' ⟨hs0,hs1⟩
        go_simp
        with_reducible rfl
      rotate_left
      · simp only[Act.put,List.setIfInBounds_toArray,List.set_cons_zero,List.set_cons_succ]
        rfl
      refine da (i:=8) (N:=some 24) (v:=?_) (a':=?_) #[true,true,true,true,true,true,true,true,true] rfl rfl (by kernel_rfl) (fun _ _ _ h=>h) (Or.inl ⟨by rfl,?_⟩) hHeld ?_ ?_
      rotate_left
      · rintro w' ⟨hs0,hs1⟩
        go_simp
        with_reducible rfl
      rotate_left
      · simp only[Act.put,List.setIfInBounds_toArray,List.set_cons_zero,List.set_cons_succ]
        rfl
      refine tM (by kernel_rfl) ?_
      clear hc0 hc1 hHeld
      go_wp2
      · exact hno'.out _ (by simpa using (show(x0 != y0)=true by assumption)) (hu.drew)
      · go_roundw
        case rel=>exact⟨k+1,by omega,by go_num,hstep.out (by simpa using (show(x0 != y0)=false by assumption)),hu.drew⟩
        case measure=>simp[intOf];omega
    · have hj3:k=xs.length:=by omega
      have H3:=Lib.hid hj3
      rw[hj3] at hpre
      clear hj3 hhx hhy
      go_wp2
      exact hyes _ hpre hu
theorem Al{xs ys:List Bool}  (hx:nB m w u xs)(hy:nB m' w v ys) : Calls Tryz.prog 134 #[u,v] w (dx (decide (xs=ys)) w):=by
  have hhx:=hx
  have hhy:=hy
  obtain⟨A,c,rfl,hc1,hc2⟩:=hx.shape
  obtain⟨B,c',rfl,rE,pB⟩:=hy.shape
  have hn:xs.length≤9223372036854775807:=by have:=hc2;unfold maxLen at this;omega
  by_cases hl:xs.length=ys.length
  case neg =>
    have hno:∀ W,ay [] w W→dx (decide (xs=ys)) w (.returned (.bool false)) W:=by
      intro W hW
      rw[decide_eq_false (fun h=>hl (by rw[h]))]
      exact⟨rfl,hW⟩
    have hli:((xs.length:Int)!=(ys.length:Int))=true:=by simp;omega
    clear hx hy hhx hhy hl
    go_enter Tryz.func134,Tryz.ntmps134
    go_wp2
    go_ret
    exact hno _ (ay.refl _ _)
  have hno:∀ W k,xs.getD k false≠ys.getD k false→ay [] w W→dx (decide (xs=ys)) w (.returned (.bool false)) W:=by
    intro W k hk hW
    rw[decide_eq_false (Bp k hk)]
    exact⟨rfl,hW⟩
  have hyes:∀ W,xs.take xs.length=ys.take xs.length→ay [] w W→dx (decide (xs=ys)) w (.returned (.bool true)) W:=by
    intro W hk hW
    rw[List.take_length,hl,List.take_length] at hk
    rw[decide_eq_true hk]
    exact⟨rfl,hW⟩
  revert hno hyes
  generalize dx (decide (xs=ys)) w=P
  intro hno hyes
  have hli:((xs.length:Int)!=(ys.length:Int))=false:=by simp;omega
  have hL:=Lib.hid hl
  clear hx hy hl
  go_enter Tryz.func134,Tryz.ntmps134
  go_wp2
  go_loopw [13] (fun i wr=>∃ k:Nat,k≤xs.length∧i = .int .i64 (k:Int)∧xs.take k=ys.take k∧ay [] w wr) (fun i _=>xs.length-(intOf i).toNat)
  case atStart=>exact⟨0,by omega,rfl,by simp,ay.refl _ _⟩
  case round =>
    obtain⟨k,hk,rfl,hpre,hu⟩:=hrel
    by_cases hlt:k<xs.length
    · obtain⟨b,off,rfl,cw0⟩:=nB.at_ hhx k hlt
      obtain⟨b',off',rfl,cw1⟩:=nB.at_ hhy k (by have:=hL.out;omega)
      have hlt':k<ys.length:=by have:=hL.out;omega
      have hstep:=fun h=>tK (d:=false) hL.out hlt hpre h
      have hno':=fun W h=>hno W k h
      revert cw0 cw1 hstep hno'
      generalize xs.getD k false=x0
      generalize ys.getD k false=y0
      intro cw0 cw1 hstep hno'
      have hc0:=hu.cell (by simp) cw0
      have hc1:=hu.cell (by simp) cw1
      have hstep:=Lib.hid hstep
      have hno':=Lib.hid hno'
      clear cw0 cw1 hhx hhy hpre hno hyes
      have hc0:wr.drew.cell? ⟨b,off+k,none⟩=some (.bool x0):=hc0
      have hc1:wr.drew.cell? ⟨b',off'+k,none⟩=some (.bool y0):=hc1
      go_wp2
      refine qf (S:=fun w'=>w'.cell? ⟨b,off+k,none⟩=some (.bool x0)∧w'.cell? ⟨b',off'+k,none⟩=some (.bool y0)) (n:=9) #[false,false,false,false,false,false,false,false,false] (by kernel_rfl) rfl rfl ⟨hc0,hc1⟩ (fun hHeld=>?_)
      refine da (i:=0) (N:=some 16) (v:=?_) (a':=?_) #[true,false,false,false,false,false,false,false,false] rfl rfl (by kernel_rfl) (fun _ _ _ h=>h) (Or.inl ⟨by rfl,?_⟩) hHeld ?_ ?_
      rotate_left
      · rintro w' ⟨hs0,hs1⟩
        go_simp
        with_reducible rfl
      rotate_left
      · simp only[Act.put,List.setIfInBounds_toArray,List.set_cons_zero,List.set_cons_succ]
        rfl
      refine da (i:=1) (N:=some 17) (v:=?_) (a':=?_) #[true,true,false,false,false,false,false,false,false] rfl rfl (by kernel_rfl) (fun _ _ _ h=>h) (Or.inl ⟨by rfl,?_⟩) hHeld ?_ ?_
      rotate_left
      · rintro w' ⟨hs0,hs1⟩
        go_simp
        with_reducible rfl
      rotate_left
      · simp only[Act.put,List.setIfInBounds_toArray,List.set_cons_zero,List.set_cons_succ]
        rfl
      refine da (i:=2) (N:=some 18) (v:=?_) (a':=?_) #[true,true,true,false,false,false,false,false,false] rfl rfl (by kernel_rfl) (fun _ _ _ h=>h) (Or.inl ⟨by rfl,?_⟩) hHeld ?_ ?_
      rotate_left
      · rintro w' ⟨hs0,hs1⟩
        go_simp
        with_reducible rfl
      rotate_left
      · simp only[Act.put,List.setIfInBounds_toArray,List.set_cons_zero,List.set_cons_succ]
        rfl
      refine da (i:=3) (N:=some 19) (v:=?_) (a':=?_) #[true,true,true,true,false,false,false,false,false] rfl rfl (by kernel_rfl) (fun _ _ _ h=>h) (Or.inl ⟨by rfl,?_⟩) hHeld ?_ ?_
      rotate_left
      · rintro w' ⟨hs0,hs1⟩
        go_simp
        with_reducible rfl
      rotate_left
      · simp only[Act.put,List.setIfInBounds_toArray,List.set_cons_zero,List.set_cons_succ]
        rfl
      refine da (i:=4) (N:=some 20) (v:=?_) (a':=?_) #[true,true,true,true,true,false,false,false,false] rfl rfl (by kernel_rfl) (fun _ _ _ h=>h) (Or.inl ⟨by rfl,?_⟩) hHeld ?_ ?_
      rotate_left
      · rintro w' ⟨hs0,hs1⟩
        go_simp
        with_reducible rfl
      rotate_left
      · simp only[Act.put,List.setIfInBounds_toArray,List.set_cons_zero,List.set_cons_succ]
        rfl
      refine da (i:=5) (N:=some 21) (v:=?_) (a':=?_) #[true,true,true,true,true,true,false,false,false] rfl rfl (by kernel_rfl) (fun _ _ _ h=>h) (Or.inl ⟨by rfl,?_⟩) hHeld ?_ ?_
      rotate_left
      · rintro w' ⟨hs0,hs1⟩
        go_simp
        with_reducible rfl
      rotate_left
      · simp only[Act.put,List.setIfInBounds_toArray,List.set_cons_zero,List.set_cons_succ]
        rfl
      refine da (i:=6) (N:=some 22) (v:=?_) (a':=?_) #[true,true,true,true,true,true,true,false,false] rfl rfl (by kernel_rfl) (fun _ _ _ h=>h) (Or.inl ⟨by rfl,?_⟩) hHeld ?_ ?_
      rotate_left
      · rintro w' ⟨hs0,hs1⟩
        go_simp
        with_reducible rfl
      rotate_left
      · simp only[Act.put,List.setIfInBounds_toArray,List.set_cons_zero,List.set_cons_succ]
        rfl
      refine da (i:=7) (N:=some 23) (v:=?_) (a':=?_) #[true,true,true,true,true,true,true,true,false] rfl rfl (by kernel_rfl) (fun _ _ _ h=>h) (Or.inl ⟨by rfl,?_⟩) hHeld ?_ ?_
      rotate_left
      · rintro w' ⟨hs0,hs1⟩
        go_simp
        with_reducible rfl
      rotate_left
      · simp only[Act.put,List.setIfInBounds_toArray,List.set_cons_zero,List.set_cons_succ]
        rfl
      refine da (i:=8) (N:=some 24) (v:=?_) (a':=?_) #[true,true,true,true,true,true,true,true,true] rfl rfl (by kernel_rfl) (fun _ _ _ h=>h) (Or.inl ⟨by rfl,?_⟩) hHeld ?_ ?_
      rotate_left
      · rintro w' ⟨hs0,hs1⟩
        go_simp
        with_reducible rfl
      rotate_left
      · simp only[Act.put,List.setIfInBounds_toArray,List.set_cons_zero,List.set_cons_succ]
        rfl
      refine tM (by kernel_rfl) ?_
      clear hc0 hc1 hHeld
      go_wp2
      · exact hno'.out _ (by simpa using (show(x0 != y0)=true by assumption)) (hu.drew)
      · go_roundw
        case rel=>exact⟨k+1,by omega,by go_num,hstep.out (by simpa using (show(x0 != y0)=false by assumption)),hu.drew⟩
        case measure=>simp[intOf];omega
    · have hj3:k=xs.length:=by omega
      have H3:=Lib.hid hj3
      rw[hj3] at hpre
      clear hj3 hhx hhy
      go_wp2
      exact hyes _ hpre hu
open Go.RowKit
theorem aW.cells{n c:Nat}  (h:aW m w (.slice A n c) xs) : (A=none∧xs=[])∨xs=[]∨∃ b off,A=some ⟨b,off,none⟩∧∀ i,i<xs.length→w.cell? ⟨b,off+i,none⟩=some (.int .u8 (xs.getD i 0)):=by
  by_cases h0:xs=[]
  · exact .inr (.inl h0)
  · have hl:0<xs.length:=List.length_pos_iff.2 h0
    obtain⟨b,off,rfl,_⟩:=aW.at_ h 0 hl
    refine .inr (.inr ⟨b,off,rfl,fun i hi=>?_⟩)
    obtain⟨b',off',hA,hc,_⟩:=aW.at_ h i hi
    injection hA with hA
    injection hA with h1 h2
    subst h1 h2
    exact hc
theorem tY(h:aW m w v xs) : (convert 27 9 v).run Tryz.prog w = .ok (.string (strOfNums xs)) w:=by
  have hh:=h
  obtain⟨A,c,rfl,h1,h2,h0,h3⟩:=hh
  rcases Nat.eq_zero_or_pos xs.length with hz|hz
  · obtain rfl:xs=[]:=List.eq_nil_of_length_eq_zero hz
    cases A with
    | none=>exact run_convert_bytes_nil w _ _ Tryz.underlying27 Tryz.underlying5 _ _ _ Tryz.underlying9
    | some a =>
      rw[run_convert_bytes_string w _ _ _ _ _ _ Tryz.underlying27 Tryz.underlying5 Tryz.underlying9]
      rw[run_bytesToString w a _ c [] (by simp[loadCells,loadCellsFrom,Sem.run_pure])]
      rfl
  · obtain⟨b,off,cells,t,fr,rfl,hb,ht,hx⟩:=h3 hz
    exact run_convert_bytes_arg w _ _ Tryz.underlying27 Tryz.underlying5 b off _ c xs rfl (fun i hi=>by
      obtain⟨b',off',hA,hc,_⟩:=aW.at_ h i hi
      injection hA with hA
      injection hA with h1 h2
      subst h1 h2
      exact hc) _ Tryz.underlying9
theorem u5:∀ {xs ys:List Int},(∀ x,x∈xs→0≤x∧x<256)→(∀ x,x∈ys→0≤x∧x<256)→(xs.map fun n=>UInt8.ofNat n.toNat)=(ys.map fun n=>UInt8.ofNat n.toNat)→xs=ys
  | [],[],_,_,_=>rfl
  | [],_ :: _,_,_,h=>by simp at h
  | _ :: _,[],_,_,h=>by simp at h
  | x :: xs,y :: ys,hx,hy,h=>by
    simp only[List.map_cons,List.cons.injEq] at h
    have h1:=hx x (by simp)
    have h2:=hy y (by simp)
    have h3:x=y:=by
      have:=congrArg UInt8.toNat h.1
      simp at this
      omega
    rw[h3,u5 (fun z hz=>hx z (by simp[hz])) (fun z hz=>hy z (by simp[hz])) h.2]
variable {w':World}
theorem uU{W:World}  {ys:List Int}(hx:aW m w u xs)(hy:aW m' w' v ys) : (binOp .eql 9 (.string (strOfNums xs)) (.string (strOfNums ys))).run Tryz.prog W = .ok (.bool (decide (xs=ys))) W:=by
  have e:((strOfNums xs).toList==(strOfNums ys).toList)=decide (xs=ys):=by
    by_cases h:xs=ys
    · subst h;simp
    · rw[decide_eq_false h,beq_eq_false_iff_ne]
      intro h2
      rw[ByteArray.toList_eq,ByteArray.toList_eq] at h2
      exact h (u5 hx.rng hy.rng h2)
  rw[binOp_string_eql,e]
  rfl
theorem Ay{A B:et}:decide (A=B)=(decide (A.file=B.file)&&(decide (A.record=B.record)&&(decide (A.count=B.count)&&decide (A.words=B.words)))):=by
  rw[Bool.eq_iff_iff]
  cases A;cases B
  simp
theorem Bb{ca cb:List Value}{A B:et}  (ha:bL m w A ca)(hb:bL m' w B cb) : Calls Tryz.prog 136 #[.agg ca.toArray,.agg cb.toArray] w (dx (decide (A=B)) w):=by
  obtain⟨va,rfl,hwa,hra⟩:=ha
  obtain⟨vb,rfl,hwb,hrb⟩:=hb
  rw[Ay]
  generalize A.file=f1 at *
  generalize A.record=f2 at *
  generalize A.count=f3 at *
  generalize A.words=f4 at *
  generalize B.file=g1 at *
  generalize B.record=g2 at *
  generalize B.count=g3 at *
  generalize B.words=g4 at *
  clear hra hrb
  have hpost:∀ W,ay [] w W→dx (decide (f1=g1)&&(decide (f2=g2)&&(decide (f3=g3)&&decide (f4=g4)))) w (.returned (.bool (decide (f1=g1)&&(decide (f2=g2)&&(decide (f3=g3)&&decide (f4=g4)))))) W:=fun W h=>⟨rfl,h⟩
  revert hpost
  generalize dx (decide (f1=g1)&&(decide (f2=g2)&&(decide (f3=g3)&&decide (f4=g4)))) w=P
  intro hpost
  by_cases h1:f1=g1
  case neg =>
    have e:(decide (f1=g1)&&(decide (f2=g2)&&(decide (f3=g3)&&decide (f4=g4))))=false:=by simp[h1]
    rw[e] at hpost
    have e1:(f1==g1)=false:=by simpa using h1
    clear h1 e hwa hwb
    replace hpost:=Lib.hid hpost
    go_enter Tryz.func136,Tryz.ntmps136
    go_wp2
    exact hpost.out _ (((ay.refl [] w).alloc _).alloc _)
  subst h1
  by_cases h1:f2=g2
  case neg =>
    have e:(decide (f1=f1)&&(decide (f2=g2)&&(decide (f3=g3)&&decide (f4=g4))))=false:=by simp[h1]
    rw[e] at hpost
    have e1:(f2==g2)=false:=by simpa using h1
    clear h1 e hwa hwb
    replace hpost:=Lib.hid hpost
    go_enter Tryz.func136,Tryz.ntmps136
    go_wp2
    exact hpost.out _ (((ay.refl [] w).alloc _).alloc _)
  subst h1
  by_cases h1:f3=g3
  case neg =>
    have e:(decide (f1=f1)&&(decide (f2=f2)&&(decide (f3=g3)&&decide (f4=g4))))=false:=by simp[h1]
    rw[e] at hpost
    have e1:(f3==g3)=false:=by simpa using h1
    clear h1 e hwa hwb
    replace hpost:=Lib.hid hpost
    go_enter Tryz.func136,Tryz.ntmps136
    go_wp2
    exact hpost.out _ (((ay.refl [] w).alloc _).alloc _)
  subst h1
  have e:(decide (f1=f1)&&(decide (f2=f2)&&(decide (f3=f3)&&decide (f4=g4))))=decide (f4=g4):=by simp
  rw[e] at hpost
  clear e
  have hcall:=fun(W:World) (h:ay [] w W)=>tP (hwa.old h) (hwb.old h)
  replace hpost:=Lib.hid hpost
  go_enter Tryz.func136,Tryz.ntmps136
  go_wp2_with (go_at_call 133;refine(hcall _ (((ay.refl [] w).alloc _).alloc _)).mono ?_;rintro e w1 ⟨rfl,hu1⟩)
  exact hpost.out _ ((((ay.refl [] w).alloc _).alloc _).step hu1)
theorem zE{A B:Obj}:decide (A=B)=(decide (A.id=B.id)&&decide (A.value=B.value)):=by
  rw[Bool.eq_iff_iff]
  cases A;cases B
  simp
theorem s9{ca cb:List Value}{A B:Obj}  (ha:cH m w A ca)(hb:cH m' w B cb) : Calls Tryz.prog 138 #[.agg ca.toArray,.agg cb.toArray] w (dx (decide (A=B)) w):=by
  obtain⟨va,rfl,hwa,hra⟩:=ha
  obtain⟨vb,rfl,hwb,hrb⟩:=hb
  rw[zE]
  generalize A.id=f1 at *
  generalize A.value=f4 at *
  generalize B.id=g1 at *
  generalize B.value=g4 at *
  clear hra hrb
  have hpost:∀ W,ay [] w W→dx (decide (f1=g1)&&decide (f4=g4)) w (.returned (.bool (decide (f1=g1)&&decide (f4=g4)))) W:=fun W h=>⟨rfl,h⟩
  revert hpost
  generalize dx (decide (f1=g1)&&decide (f4=g4)) w=P
  intro hpost
  by_cases h1:f1=g1
  case neg =>
    have e:(decide (f1=g1)&&decide (f4=g4))=false:=by simp[h1]
    rw[e] at hpost
    have e1:(f1==g1)=false:=by simpa using h1
    clear h1 e hwa hwb
    replace hpost:=Lib.hid hpost
    go_enter Tryz.func138,Tryz.ntmps138
    go_wp2
    exact hpost.out _ (((ay.refl [] w).alloc _).alloc _)
  subst h1
  have e:(decide (f1=f1)&&decide (f4=g4))=decide (f4=g4):=by simp
  rw[e] at hpost
  have hu0:ay [] w ((w.alloc (.cells #[.int .u8 f1,va] 100)).alloc (.cells #[.int .u8 f1,vb] 100)):=((ay.refl [] w).alloc _).alloc _
  have c1:=tY (hwa.old hu0)
  have c2:=tY (hwb.old hu0)
  have c3:=uU (hwa.old hu0) (hwb.old hu0) (W:=(w.alloc (.cells #[.int .u8 f1,va] 100)).alloc (.cells #[.int .u8 f1,vb] 100))
  replace hpost:=hpost _ hu0
  generalize strOfNums f4=s1 at *
  generalize strOfNums g4=s2 at *
  generalize decide (f4=g4)=D at *
  clear hu0 hwa hwb e
  rw[binOp_string_eql] at c3
  have c4:(s1.toList==s2.toList)=D:=by simpa [Sem.run_pure] using c3
  clear c3
  replace hpost:=Lib.hid hpost
  go_enter Tryz.func138,Tryz.ntmps138
  go_wp2
  exact hpost.out
open Go.RowKit
theorem aT.at_{e:TypeId}{sz:Nat}{R:World→α→List Value→Prop}   {n c:Nat}{xs:List α}(h:aT m e sz R w (.slice A n c) xs)(d:α)(j:Nat)(hj:j<xs.length) :
    ∃ b off cs,A=some ⟨b,off,none⟩∧w.rangeAt b (off+j*sz) cs∧R w (xs.getD j d) cs∧cs.length=sz:=by
  obtain⟨A',c',hv,h1,h2,h0,h3⟩:=h
  injection hv with e1 e2 e3
  subst e1 e3
  obtain⟨b,off,cells,t,fr,rfl,hb,ht,hx⟩:=h3 (by omega)
  obtain⟨cs,h4,h5,h6⟩:=hx j (xs.getD j d) (by simp[List.getD_eq_getElem?_getD,List.getElem?_eq_getElem hj])
  exact⟨b,off,cs,rfl,fun i u hi=>by rw[bh hb];exact h6 i u hi,h5,h4⟩
variable {cs:List Value}
theorem bL.upd0(hu:ay [] w w'){r:et}  (h:bL m w r cs) : bL m w' r cs:=bL.upd hu (bV.nil _ _ _) r cs h
theorem cH.upd0(hu:ay [] w w'){r:Obj}  (h:cH m w r cs) : cH m w' r cs:=cH.upd hu (bV.nil _ _ _) r cs h
theorem fB{b o:Nat}  (h:w.rangeAt b o cs){S:List Nat}(hu:ay S w w')(hb:b∉S) : w'.rangeAt b o cs:=fun j v hj=>hu.cell hb (h j v hj)
theorem qa:(Tryz.prog.info? 98).map (·.zero)=some (some (.agg #[.int .u16 0,.int .u16 0,.int .u16 0,.slice none 0 0])):=by kernel_rfl
theorem i7:(Tryz.prog.info? 98).map (·.size)=some 4:=by kernel_rfl
theorem rz:(Tryz.prog.info? 100).map (·.zero)=some (some (.agg #[.int .u8 0,.slice none 0 0])):=by kernel_rfl
theorem ic:(Tryz.prog.info? 100).map (·.size)=some 2:=by kernel_rfl
theorem bL.one{r:et}  (h:bL m w r cs) : cs.toArray.all (·.oneCell')=true∧cs.length=4:=by
  obtain⟨v,rfl,h1,_⟩:=h
  obtain⟨A,c,rfl,_⟩:=h1
  exact⟨by simp[Value.oneCell'],rfl⟩
theorem cH.one{r:Obj}  (h:cH m w r cs) : cs.toArray.all (·.oneCell')=true∧cs.length=2:=by
  obtain⟨v,rfl,h1,_⟩:=h
  obtain⟨A,c,rfl,_⟩:=h1
  exact⟨by simp[Value.oneCell'],rfl⟩
theorem Aj{xs ys:List et}  (hx:pD m w u xs)(hy:pD m' w v ys) :
    Calls Tryz.prog 135 #[u,v,.func (.func 136) #[] #[]] w (dx (decide (xs=ys)) w):=by
  have hhx:=hx
  have hhy:=hy
  obtain⟨A,c,rfl,hc1,hc2⟩:=hx.shape
  obtain⟨B,c',rfl,rE,pB⟩:=hy.shape
  have hn:xs.length≤9223372036854775807:=by have:=hc2;unfold maxLen at this;omega
  by_cases hl:xs.length=ys.length
  case neg =>
    have hno:∀ W,ay [] w W→dx (decide (xs=ys)) w (.returned (.bool false)) W:=by
      intro W hW
      rw[decide_eq_false (fun h=>hl (by rw[h]))]
      exact⟨rfl,hW⟩
    have hli:((xs.length:Int)!=(ys.length:Int))=true:=by simp;omega
    clear hx hy hhx hhy hl
    go_enter Tryz.func135,Tryz.ntmps135
    go_wp2
    go_ret
    exact hno _ (ay.refl _ _)
  have hno:∀ W k,xs.getD k ⟨0,0,0,[]⟩≠ys.getD k ⟨0,0,0,[]⟩→ay [] w W→dx (decide (xs=ys)) w (.returned (.bool false)) W:=by
    intro W k hk hW
    rw[decide_eq_false (Bp k hk)]
    exact⟨rfl,hW⟩
  have hyes:∀ W,xs.take xs.length=ys.take xs.length→ay [] w W→dx (decide (xs=ys)) w (.returned (.bool true)) W:=by
    intro W hk hW
    rw[List.take_length,hl,List.take_length] at hk
    rw[decide_eq_true hk]
    exact⟨rfl,hW⟩
  revert hno hyes
  generalize dx (decide (xs=ys)) w=P
  intro hno hyes
  have hli:((xs.length:Int)!=(ys.length:Int))=false:=by simp;omega
  have hL:=Lib.hid hl
  clear hx hy hl
  go_enter Tryz.func135,Tryz.ntmps135
  go_wp2
  go_loopw [17] (fun i wr=>∃ k:Nat,k≤xs.length∧i = .int .i64 (k:Int)∧xs.take k=ys.take k∧ay [] w wr) (fun i _=>xs.length-(intOf i).toNat)
  case atStart=>exact⟨0,by omega,rfl,by simp,ay.refl _ _⟩
  case round =>
    obtain⟨k,hk,rfl,hpre,hu⟩:=hrel
    by_cases hlt:k<xs.length
    · obtain⟨b,off,ca,rfl,cw0,hr0,hl0⟩:=aT.at_ hhx ⟨0,0,0,[]⟩ k hlt
      obtain⟨b',off',cb,rfl,cw1,hr1,hl1⟩:=aT.at_ hhy ⟨0,0,0,[]⟩ k (by have:=hL.out;omega)
      have hlt':k<ys.length:=by have:=hL.out;omega
      have hstep:=fun h=>tK (d:=⟨0,0,0,[]⟩) hL.out hlt hpre h
      have hno':=fun W h=>hno W k h
      revert hstep hno' hr0 hr1
      generalize xs.getD k ⟨0,0,0,[]⟩=x0
      generalize ys.getD k ⟨0,0,0,[]⟩=y0
      intro hr0 hr1 hstep hno'
      have hc0:=Lib.hid (fB cw0 hu (by simp))
      have hc1:=Lib.hid (fB cw1 hu (by simp))
      replace hstep:=Lib.hid hstep
      replace hno':=Lib.hid hno'
      have ha:=Lib.hid hr0
      have hb:=Lib.hid hr1
      clear cw0 cw1 hhx hhy hpre hno hyes hr0 hr1
      have tok1_0:True:=trivial
      have tok1_1:True:=trivial
      have tok1_2:True:=trivial
      have tok1_3:True:=trivial
      have tok1_4:True:=trivial
      have tok1_5:True:=trivial
      have tok1_6:True:=trivial
      have tok1_7:True:=trivial
      have tok1_8:True:=trivial
      go_wp2_with (first | (have _t:=tok1_0;refine wpList_load_mid rfl 98 _ rfl b (off+k*4) rfl ca _ hc0.out Tryz.underlying98 rfl (by rw[hl0];exact i7) ?_;clear _t tok1_0) | (have _t:=tok1_1;refine ia rfl 98 rfl _ qa ?_;intro g1 w1 hg1 hB1 hu1;clear _t tok1_1) | (have _t:=tok1_2;refine gX rfl 98 _ _ rfl g1 rfl ca.toArray rfl _ _ hB1 (by simp only[List.size_toArray,hl0];exact i7) (by simp only[List.size_toArray,hl0];rfl) (bL.one ha.out).1 ?_;intro w2 hB2 hu2;have U2:=hu1.fresh1 hu2 hg1;clear _t tok1_2) | (have _t:=tok1_3;refine wpList_load_mid rfl 98 _ rfl b' (off'+k*4) rfl cb _ (fB hc1.out U2 (by simp)) Tryz.underlying98 rfl (by rw[hl1];exact i7) ?_;clear _t tok1_3) | (have _t:=tok1_4;refine ia rfl 98 rfl _ qa ?_;intro g3 w3 hg3 hB3 hu3;clear _t tok1_4) | (have _t:=tok1_5;refine gX rfl 98 _ _ rfl g3 rfl cb.toArray rfl _ _ hB3 (by simp only[List.size_toArray,hl1];exact i7) (by simp only[List.size_toArray,hl1];rfl) (bL.one hb.out).1 ?_;intro w4 hB4 hu4;have U4:=hu3.fresh1 hu4 hg3;have a:=U4.blk (by simp) hB2;have V4:=hu.step (U2.step U4);clear _t tok1_5) | (have _t:=tok1_6;refine wpList_load_row rfl 98 _ rfl g1 rfl _ _ _ _ a Tryz.underlying98 rfl (by simp only[List.size_toArray,hl0];exact i7) ?_;clear _t tok1_6) | (have _t:=tok1_7;refine wpList_load_row rfl 98 _ rfl g3 rfl _ _ _ _ hB4 Tryz.underlying98 rfl (by simp only[List.size_toArray,hl1];exact i7) ?_;clear _t tok1_7) | (have _t:=tok1_8;go_at_call 136;refine(Bb (bL.upd0 V4 ha.out) (bL.upd0 V4 hb.out)).mono ?_;rintro e w5 ⟨rfl,hu5⟩;generalize hD:decide (x0=y0)=D;have HD:=Lib.hid hD;clear hD a hB4;clear _t tok1_8))
      · have hD0:(!D)=true:=by assumption
        exact hno'.out _ (by have:=HD.out;intro h;rw[← this,h] at hD0;simp at hD0) (V4.step hu5)
      · have hD0:(!D)=false:=by assumption
        have hxy:x0=y0:=by have:=HD.out;rw[← this] at hD0;simpa using hD0
        go_roundw
        case rel=>exact⟨k+1,by omega,by go_num,hstep.out hxy,V4.step hu5⟩
        case measure=>simp[intOf];omega
    · have hj3:k=xs.length:=by omega
      have H3:=Lib.hid hj3
      rw[hj3] at hpre
      clear hj3 hhx hhy
      go_wp2
      exact hyes _ hpre hu
theorem AG{xs ys:List Obj}  (hx:pC m w u xs)(hy:pC m' w v ys) :
    Calls Tryz.prog 137 #[u,v,.func (.func 138) #[] #[]] w (dx (decide (xs=ys)) w):=by
  have hhx:=hx
  have hhy:=hy
  obtain⟨A,c,rfl,hc1,hc2⟩:=hx.shape
  obtain⟨B,c',rfl,rE,pB⟩:=hy.shape
  have hn:xs.length≤9223372036854775807:=by have:=hc2;unfold maxLen at this;omega
  by_cases hl:xs.length=ys.length
  case neg =>
    have hno:∀ W,ay [] w W→dx (decide (xs=ys)) w (.returned (.bool false)) W:=by
      intro W hW
      rw[decide_eq_false (fun h=>hl (by rw[h]))]
      exact⟨rfl,hW⟩
    have hli:((xs.length:Int)!=(ys.length:Int))=true:=by simp;omega
    clear hx hy hhx hhy hl
    go_enter Tryz.func137,Tryz.ntmps137
    go_wp2
    go_ret
    exact hno _ (ay.refl _ _)
  have hno:∀ W k,xs.getD k ⟨0,[]⟩≠ys.getD k ⟨0,[]⟩→ay [] w W→dx (decide (xs=ys)) w (.returned (.bool false)) W:=by
    intro W k hk hW
    rw[decide_eq_false (Bp k hk)]
    exact⟨rfl,hW⟩
  have hyes:∀ W,xs.take xs.length=ys.take xs.length→ay [] w W→dx (decide (xs=ys)) w (.returned (.bool true)) W:=by
    intro W hk hW
    rw[List.take_length,hl,List.take_length] at hk
    rw[decide_eq_true hk]
    exact⟨rfl,hW⟩
  revert hno hyes
  generalize dx (decide (xs=ys)) w=P
  intro hno hyes
  have hli:((xs.length:Int)!=(ys.length:Int))=false:=by simp;omega
  have hL:=Lib.hid hl
  clear hx hy hl
  go_enter Tryz.func137,Tryz.ntmps137
  go_wp2
  go_loopw [17] (fun i wr=>∃ k:Nat,k≤xs.length∧i = .int .i64 (k:Int)∧xs.take k=ys.take k∧ay [] w wr) (fun i _=>xs.length-(intOf i).toNat)
  case atStart=>exact⟨0,by omega,rfl,by simp,ay.refl _ _⟩
  case round =>
    obtain⟨k,hk,rfl,hpre,hu⟩:=hrel
    by_cases hlt:k<xs.length
    · obtain⟨b,off,ca,rfl,cw0,hr0,hl0⟩:=aT.at_ hhx ⟨0,[]⟩ k hlt
      obtain⟨b',off',cb,rfl,cw1,hr1,hl1⟩:=aT.at_ hhy ⟨0,[]⟩ k (by have:=hL.out;omega)
      have hlt':k<ys.length:=by have:=hL.out;omega
      have hstep:=fun h=>tK (d:=⟨0,[]⟩) hL.out hlt hpre h
      have hno':=fun W h=>hno W k h
      revert hstep hno' hr0 hr1
      generalize xs.getD k ⟨0,[]⟩=x0
      generalize ys.getD k ⟨0,[]⟩=y0
      intro hr0 hr1 hstep hno'
      have hc0:=Lib.hid (fB cw0 hu (by simp))
      have hc1:=Lib.hid (fB cw1 hu (by simp))
      replace hstep:=Lib.hid hstep
      replace hno':=Lib.hid hno'
      have ha:=Lib.hid hr0
      have hb:=Lib.hid hr1
      clear cw0 cw1 hhx hhy hpre hno hyes hr0 hr1
      have tok2_0:True:=trivial
      have tok2_1:True:=trivial
      have tok2_2:True:=trivial
      have tok2_3:True:=trivial
      have tok2_4:True:=trivial
      have tok2_5:True:=trivial
      have tok2_6:True:=trivial
      have tok2_7:True:=trivial
      have tok2_8:True:=trivial
      go_wp2_with (first | (have _t:=tok2_0;refine wpList_load_mid rfl 100 _ rfl b (off+k*2) rfl ca _ hc0.out Tryz.underlying100 rfl (by rw[hl0];exact ic) ?_;clear _t tok2_0) | (have _t:=tok2_1;refine ia rfl 100 rfl _ rz ?_;intro g1 w1 hg1 hB1 hu1;clear _t tok2_1) | (have _t:=tok2_2;refine gX rfl 100 _ _ rfl g1 rfl ca.toArray rfl _ _ hB1 (by simp only[List.size_toArray,hl0];exact ic) (by simp only[List.size_toArray,hl0];rfl) (cH.one ha.out).1 ?_;intro w2 hB2 hu2;have U2:=hu1.fresh1 hu2 hg1;clear _t tok2_2) | (have _t:=tok2_3;refine wpList_load_mid rfl 100 _ rfl b' (off'+k*2) rfl cb _ (fB hc1.out U2 (by simp)) Tryz.underlying100 rfl (by rw[hl1];exact ic) ?_;clear _t tok2_3) | (have _t:=tok2_4;refine ia rfl 100 rfl _ rz ?_;intro g3 w3 hg3 hB3 hu3;clear _t tok2_4) | (have _t:=tok2_5;refine gX rfl 100 _ _ rfl g3 rfl cb.toArray rfl _ _ hB3 (by simp only[List.size_toArray,hl1];exact ic) (by simp only[List.size_toArray,hl1];rfl) (cH.one hb.out).1 ?_;intro w4 hB4 hu4;have U4:=hu3.fresh1 hu4 hg3;have a:=U4.blk (by simp) hB2;have V4:=hu.step (U2.step U4);clear _t tok2_5) | (have _t:=tok2_6;refine wpList_load_row rfl 100 _ rfl g1 rfl _ _ _ _ a Tryz.underlying100 rfl (by simp only[List.size_toArray,hl0];exact ic) ?_;clear _t tok2_6) | (have _t:=tok2_7;refine wpList_load_row rfl 100 _ rfl g3 rfl _ _ _ _ hB4 Tryz.underlying100 rfl (by simp only[List.size_toArray,hl1];exact ic) ?_;clear _t tok2_7) | (have _t:=tok2_8;go_at_call 138;refine(s9 (cH.upd0 V4 ha.out) (cH.upd0 V4 hb.out)).mono ?_;rintro e w5 ⟨rfl,hu5⟩;generalize hD:decide (x0=y0)=D;have HD:=Lib.hid hD;clear hD a hB4;clear _t tok2_8))
      · have hD0:(!D)=true:=by assumption
        exact hno'.out _ (by have:=HD.out;intro h;rw[← this,h] at hD0;simp at hD0) (V4.step hu5)
      · have hD0:(!D)=false:=by assumption
        have hxy:x0=y0:=by have:=HD.out;rw[← this] at hD0;simpa using hD0
        go_roundw
        case rel=>exact⟨k+1,by omega,by go_num,hstep.out hxy,V4.step hu5⟩
        case measure=>simp[intOf];omega
    · have hj3:k=xs.length:=by omega
      have H3:=Lib.hid hj3
      rw[hj3] at hpre
      clear hj3 hhx hhy
      go_wp2
      exact hyes _ hpre hu
open Go.RowKit
def dS (M:b7) : List Int:=[M.code,M.fail,M.addr,M.count,M.value,M.and_,M.or_,M.addr2,M.sub,M.status,M.events,M.messages,M.mei*256+M.kind,M.level*256+M.more,M.next]
def it (M:b7) : Array Value:=((dS M).map (Value.int .u16)).toArray
theorem tz:(Tryz.prog.info? 158).map (·.zero)=some (some (.agg ((List.replicate 15 (Value.int .u16 0)).toArray))):=by kernel_rfl
theorem n9:(Tryz.prog.info? 158).map (·.size)=some 15:=by kernel_rfl
theorem qI(a0 a1 a2 a3 a4 a5 a6 a7 a8 a9 a b c d e:Int)(w:World) : (Instr.build 158 #[(0,.int .u16 a0),(1,.int .u16 a1),(2,.int .u16 a2),(3,.int .u16 a3),(4,.int .u16 a4),(5,.int .u16 a5),(6,.int .u16 a6),(7,.int .u16 a7),(8,.int .u16 a8),(9,.int .u16 a9),(10,.int .u16 a),(11,.int .u16 b),(12,.int .u16 c),(13,.int .u16 d),(14,.int .u16 e)]).run Tryz.prog w
    = .ok (.agg #[.int .u16 a0,.int .u16 a1,.int .u16 a2,.int .u16 a3,.int .u16 a4,.int .u16 a5,.int .u16 a6,.int .u16 a7,.int .u16 a8,.int .u16 a9,.int .u16 a,.int .u16 b,.int .u16 c,.int .u16 d,.int .u16 e]) w:=by kernel_rfl
theorem wT{P:Program}{fn:Func}{p:Tmp}{ty:TypeId}(h:fn.results = #[.cell p ty]){R:Ending→World→Prop}{a:Act}  (hd0:a.defers=[])(g:Nat)(t:TypeId)(cs:Array Value)(fr:Nat × Nat)(d:TypeDesc)
    (hp:a.tmps.getD p undef = .pointer (some ⟨g,0,none⟩)) (hg:w.heap[g]? = some (.cells cs t fr))
    (hu:P.underlying ty=some d) (hd:(match d with | .struct _ | .array _ _=>true | _=>false)=true) (hi:(P.info? ty).map (·.size)=some cs.size)
    (hR:R (.returned (.agg cs)) w) : bodyPost P fn R .ret a w:=by
  have hp':a.tmps[p]?.getD undef = .pointer (some ⟨g,0,none⟩):=by simpa using hp
  exact bodyPost_ret (by simp[results,h,hp',asAddr,run_loadVar_row w g t ty cs fr d hg hu hd hi]) hd0 hR
theorem o7{cs:Array Value}{M:b7}  (h:aH m w cs.toList M) : Calls Tryz.prog 132 #[.agg cs] w (bS (.agg (it M)) w):=by
  obtain⟨vw,vb,vd,vr,vo,h0,_,_,_,_,_,hR⟩:=h
  obtain⟨c0,c1,c2,c3,c4,c5,c6,c7,c8,c9,f,i,l1,l2,l3,l4,a,c,b,d,e,l5⟩:=M
  obtain⟨r0,r1,r2,r3,r4,r5,r6,r7,r8,r9,o,p,j,k,l,n,q⟩:=hR
  simp only[B8,eT] at r0 r1 r2 r3 r4 r5 r6 r7 r8 r9 o p j k l n q
  have hpost:∀ W,ay [] w W→bS (.agg (it ⟨c0,c1,c2,c3,c4,c5,c6,c7,c8,c9,f,i,l1,l2,l3,l4,a,c,b,d,e,l5⟩)) w (.returned (.agg #[.int .u16 c0,.int .u16 c1,.int .u16 c2,.int .u16 c3,.int .u16 c4,.int .u16 c5,.int .u16 c6,.int .u16 c7,.int .u16 c8,.int .u16 c9,.int .u16 f,.int .u16 i,.int .u16 (a*256+c),.int .u16 (b*256+d),.int .u16 e])) W:=fun W hW=>⟨rfl,hW⟩
  revert hpost
  generalize bS (.agg (it ⟨c0,c1,c2,c3,c4,c5,c6,c7,c8,c9,f,i,l1,l2,l3,l4,a,c,b,d,e,l5⟩)) w=P
  intro hpost
  replace hpost:=Lib.hid hpost
  have w0:IntKind.u16.wrap c0=c0:=by show c0%65536=c0;omega
  have w1:IntKind.u16.wrap c1=c1:=by show c1%65536=c1;omega
  have r:IntKind.u16.wrap a=a:=by show a%65536=a;omega
  have s:IntKind.u16.wrap c=c:=by show c%65536=c;omega
  have t:IntKind.u16.wrap b=b:=by show b%65536=b;omega
  have u:IntKind.u16.wrap d=d:=by show d%65536=d;omega
  have v:IntKind.u16.wrap e=e:=by show e%65536=e;omega
  have x1:IntKind.u16.wrap (a*256)=a*256:=by show(a*256)%65536=a*256;omega
  have x2:IntKind.u16.wrap (b*256)=b*256:=by show(b*256)%65536=b*256;omega
  have o1:=ph j k
  have o2:=ph l n
  have hcs:cs = #[.int .u8 c0,.int .u8 c1,.int .u16 c2,.int .u16 c3,.int .u16 c4,.int .u16 c5,.int .u16 c6,.int .u16 c7,.int .u16 c8,.int .u16 c9,.int .u16 f,.int .u16 i,vw,vb,vd,vr,.int .u8 a,.int .u8 c,.int .u8 b,.int .u8 d,.int .u8 e,vo]:=by
    apply Array.toList_inj.1
    exact h0
  subst hcs
  have hbp:=qI
  clear h0 r0 r1 r2 r3 r4 r5 r6 r7 r8 r9 o p j k l n q
  go_enter Tryz.func132,Tryz.ntmps132
  have tok1_0:True:=trivial
  have tok1_1:True:=trivial
  have tok1_2:True:=trivial
  go_wp2_with (first | (have _t:=tok1_0;refine Ak rfl 45 _ rfl (.agg #[.int .u8 c0,.int .u8 c1,.int .u16 c2,.int .u16 c3,.int .u16 c4,.int .u16 c5,.int .u16 c6,.int .u16 c7,.int .u16 c8,.int .u16 c9,.int .u16 f,.int .u16 i,vw,vb,vd,vr,.int .u8 a,.int .u8 c,.int .u8 b,.int .u8 d,.int .u8 e,vo]) rfl ?_;intro g w1 hg hB hu1;clear _t tok1_0) | (have _t:=tok1_1;refine ia rfl 158 rfl _ tz ?_;intro gp w2 hgp hBp hu2;replace hB:=hu2.blk (by simp) hB;have k0:w2.cell? ⟨g,0,none⟩=some (.int .u8 c0):=(bh hB 0).trans rfl;have k1:w2.cell? ⟨g,1,none⟩=some (.int .u8 c1):=(bh hB 1).trans rfl;have k2:w2.cell? ⟨g,2,none⟩=some (.int .u16 c2):=(bh hB 2).trans rfl;have k3:w2.cell? ⟨g,3,none⟩=some (.int .u16 c3):=(bh hB 3).trans rfl;have k4:w2.cell? ⟨g,4,none⟩=some (.int .u16 c4):=(bh hB 4).trans rfl;have k5:w2.cell? ⟨g,5,none⟩=some (.int .u16 c5):=(bh hB 5).trans rfl;have k6:w2.cell? ⟨g,6,none⟩=some (.int .u16 c6):=(bh hB 6).trans rfl;have k7:w2.cell? ⟨g,7,none⟩=some (.int .u16 c7):=(bh hB 7).trans rfl;have k8:w2.cell? ⟨g,8,none⟩=some (.int .u16 c8):=(bh hB 8).trans rfl;have k9:w2.cell? ⟨g,9,none⟩=some (.int .u16 c9):=(bh hB 9).trans rfl;have x:w2.cell? ⟨g,10,none⟩=some (.int .u16 f):=(bh hB 10).trans rfl;have y:w2.cell? ⟨g,11,none⟩=some (.int .u16 i):=(bh hB 11).trans rfl;have z:w2.cell? ⟨g,16,none⟩=some (.int .u8 a):=(bh hB 16).trans rfl;have A:w2.cell? ⟨g,17,none⟩=some (.int .u8 c):=(bh hB 17).trans rfl;have B:w2.cell? ⟨g,18,none⟩=some (.int .u8 b):=(bh hB 18).trans rfl;have C:w2.cell? ⟨g,19,none⟩=some (.int .u8 d):=(bh hB 19).trans rfl;have D:w2.cell? ⟨g,20,none⟩=some (.int .u8 e):=(bh hB 20).trans rfl;clear hB;clear _t tok1_1) | (have _t:=tok1_2;refine gX rfl 158 _ _ rfl gp rfl _ rfl _ _ hBp n9 rfl (by simp[Value.oneCell']) ?_;intro w3 hB3 hu3;clear _t tok1_2))
  refine wT rfl rfl gp _ _ _ _ rfl hB3 Tryz.underlying158 rfl n9 ?_
  exact hpost.out _ (hu1.step (hu2.fresh1 hu3 hgp))
open Go.RowKit
theorem ju:∀ (xs ys:List Int),xs.length=ys.length→((List.range xs.length).all fun i=>xs.getD i 0==ys.getD i 0)=(xs==ys)
  | [],[],_=>rfl
  | x :: xs,y :: ys,h=>by
    have ih:=ju xs ys (by simpa using h)
    rw[List.length_cons,List.range_succ_eq_map,List.all_cons,List.all_map]
    simp only[List.getD_cons_zero,Function.comp_def,List.getD_cons_succ,ih]
    simp[List.cons_beq_cons]
  | [],_ :: _,h=>by simp at h
  | _ :: _,[],h=>by simp at h
theorem pu{P:Program}(w:World)(t e:TypeId)(k:IntKind)(n:Nat)(ht:P.underlying t=some (.array n e))(he:P.underlying e=some (.int k))(hsz:∀ w,(sizeOf e).run P w = .ok 1 w)
    (xs ys:List Int) (hx:xs.length=n) (hy:ys.length=n) :
    (binOp .eql t (.agg (xs.map (Value.int k)).toArray) (.agg (ys.map (Value.int k)).toArray)).run P w = .ok (.bool (xs==ys)) w:=by
  rw[run_eql_struct]
  suffices h:(Op.equalIn 10000 t (.agg (xs.map (Value.int k)).toArray) (.agg (ys.map (Value.int k)).toArray)).run P w = .ok (xs==ys) w by
    rw[h]
    rfl
  rw[show(10000:Nat)=9998+2 from rfl]
  rw[← ju xs ys (hx.trans hy.symm),hx,List.range_eq_range',Op.equalIn]
  simp only[Sem.run_bind,run_underlying ht,Result.andThen_ok,hsz,Std.Legacy.Range.forIn_eq_forIn_range',Std.Legacy.Range.size,Nat.sub_zero,Nat.add_sub_cancel,Nat.div_one]
  have hl:∀ i∈List.range' 0 n 1,i<n:=fun i hi=>by simpa using (List.mem_range'_1.1 hi).2
  generalize List.range' 0 n 1=l at hl ⊢
  induction l with
  | nil=>simp
  | cons i l ih =>
    have hi:i<n:=hl i (by simp)
    have px:(part e (xs.map (Value.int k)).toArray (i*1)).run P w = .ok (Value.int k (xs.getD i 0)) w:=by
      simp[part,isAgg,run_underlying he,List.getD,List.getElem?_eq_getElem (show i<xs.length by omega)]
    have py:(part e (ys.map (Value.int k)).toArray (i*1)).run P w = .ok (Value.int k (ys.getD i 0)) w:=by
      simp[part,isAgg,run_underlying he,List.getD,List.getElem?_eq_getElem (show i<ys.length by omega)]
    have pe:(Op.equalIn (9998+1) e (Value.int k (xs.getD i 0)) (Value.int k (ys.getD i 0))).run P w = .ok (xs.getD i 0==ys.getD i 0) w:=run_equalIn_int w 9998 e k k _ _ he
    simp only[List.forIn_cons,Sem.run_bind,px,py,pe,Result.andThen_ok,List.all_cons]
    cases hb:(xs.getD i 0==ys.getD i 0)
    · simp
    · simp only[Bool.not_true,Bool.false_eq_true,if_false,Sem.run_pure,Result.andThen_ok,Bool.true_and]
      exact ih fun j hj=>hl j (by simp[hj])
variable {B:b7}
theorem xm{A:b7}(ha:fK A)(hb:fK B) : dS A=dS B↔A = { B with words:=A.words,bits:=A.bits,data:=A.data,recs:=A.recs,objects:=A.objects }:=by
  obtain⟨_,_,_,_,_,_,_,_,_,_,_,_,a1,a2,a3,a4,_⟩:=ha
  obtain⟨_,_,_,_,_,_,_,_,_,_,_,_,b1,b2,b3,b4,_⟩:=hb
  cases A;cases B
  simp only[B8] at a1 a2 a3 a4 b1 b2 b3 b4
  simp only[dS,List.cons.injEq,and_true,b7.mk.injEq,true_and]
  constructor
  · rintro⟨h1,h2,h3,h4,h5,h6,h7,h8,h9,a,b,c,e,f,d⟩
    refine⟨h1,h2,h3,h4,h5,h6,h7,h8,h9,a,b,c,?_,?_,?_,?_,d⟩<;>omega
  · rintro⟨h1,h2,h3,h4,h5,h6,h7,h8,h9,a,b,c,e,f,d,h,g⟩
    refine⟨h1,h2,h3,h4,h5,h6,h7,h8,h9,a,b,c,?_,?_,g⟩<;>omega
theorem Cy{A:b7}(ha:fK A)(hb:fK B) : A=B↔dS A=dS B∧A.words=B.words∧A.bits=B.bits∧A.data=B.data∧A.recs=B.recs∧A.objects=B.objects:=by
  rw[xm ha hb]
  constructor
  · rintro rfl
    exact⟨rfl,rfl,rfl,rfl,rfl,rfl⟩
  · rintro⟨h1,h2,h3,h4,h5,h6⟩
    rw[h1,h2,h3,h4,h5,h6]
open Go.RowKit
theorem qQ{ev:Operand→Value}{o:Oper}{x y:Operand}{t:TypeId}{A:b7}  (ho:o.op = .binOp .eql 158 x y t)(hx:ev x = .agg (it A))(hy:ev y = .agg (it B)) :
    (execOp ev o).run Tryz.prog w = .ok (.value (.bool (dS A==dS B))) w:=by
  have hg:(eqGuard .eql 158 x y (.agg (it A)) (.agg (it B))).run Tryz.prog w = .ok () w:=run_eqGuard_agg w .eql _ x y _ _ (by kernel_rfl)
  have he:(binOp .eql 158 (.agg (it A)) (.agg (it B))).run Tryz.prog w = .ok (.bool (dS A==dS B)) w:=pu (P:=Tryz.prog) w 158 37 .u16 15 Tryz.underlying158 Tryz.underlying37 (fun w=>by kernel_rfl) (dS A) (dS B) rfl rfl
  unfold execOp
  simp only[ho,hx,hy,Sem.run_bind,hg,he,Sem.run_pure,Result.andThen]
theorem gU{A:b7}(ha:fK A)(hb:fK B) : decide (A=B)=(dS A==dS B&&(decide (A.words=B.words)&&(decide (A.bits=B.bits)&&(decide (A.data=B.data)&&(decide (A.recs=B.recs)&&decide (A.objects=B.objects)))))):=by
  rw[Bool.eq_iff_iff]
  simp only[Bool.and_eq_true,decide_eq_true_eq,beq_iff_eq]
  exact Cy ha hb
theorem gY{pc qc:Array Value}{A:b7}  (ha:aH m w pc.toList A)(hb:aH m' w qc.toList B) :
    Calls Tryz.prog 94 #[.agg pc,.agg qc] w (dx (decide (A=B)) w):=by
 have pM:=ha
 obtain⟨pvw,pvb,pvd,pvr,pvo,ph0,phw,phb,phd,phr,pho,pR⟩:=ha
 obtain rfl:pc=(eG A pvw pvb pvd pvr pvo).toArray:=by apply Array.toList_inj.1;simpa using ph0
 clear ph0
 obtain⟨pw,pkw,rfl,_,_⟩:=phw.shape
 obtain⟨pb,pkb,rfl,_,_⟩:=phb.shape
 obtain⟨pd,pkd,rfl,_,_⟩:=phd.shape
 obtain⟨pr,pkr,rfl,_,_⟩:=phr.shape
 obtain⟨po,pko,rfl,_,_⟩:=pho.shape
 have qM:=hb
 obtain⟨qvw,qvb,qvd,qvr,qvo,qh0,qhw,qhb,qhd,qhr,qho,qR⟩:=hb
 obtain rfl:qc=(eG B qvw qvb qvd qvr qvo).toArray:=by apply Array.toList_inj.1;simpa using qh0
 clear qh0
 obtain⟨qw,qkw,rfl,_,_⟩:=qhw.shape
 obtain⟨qb,qkb,rfl,_,_⟩:=qhb.shape
 obtain⟨qd,qkd,rfl,_,_⟩:=qhd.shape
 obtain⟨qr,qkr,rfl,_,_⟩:=qhr.shape
 obtain⟨qo,qko,rfl,_,_⟩:=qho.shape
 refine en 47 Tryz.func94 rfl<|sg<|L0<|cX (mG A.code A.fail A.addr A.count A.value A.and_ A.or_ A.addr2 A.sub A.status A.events A.messages (.slice pw A.words.length pkw) (.slice pb A.bits.length pkb) (.slice pd A.data.length pkd) (.slice pr A.recs.length pkr) A.mei A.kind A.level A.more A.next (.slice po A.objects.length pko)) fun k aj ak ab ac=>L0<|cX (mG B.code B.fail B.addr B.count B.value B.and_ B.or_ B.addr2 B.sub B.status B.events B.messages (.slice qw B.words.length qkw) (.slice qb B.bits.length qkb) (.slice qd B.data.length qkd) (.slice qr B.recs.length qkr) B.mei B.kind B.level B.more B.next (.slice qo B.objects.length qko)) fun l am an ad X=>al 1<|sq<|Rg 43 (fun w'=>w'.heap[k]? = some (.cells (mG A.code A.fail A.addr A.count A.value A.and_ A.or_ A.addr2 A.sub A.status A.events A.messages (.slice pw A.words.length pkw) (.slice pb A.bits.length pkb) (.slice pd A.data.length pkd) (.slice pr A.recs.length pkr) A.mei A.kind A.level A.more A.next (.slice po A.objects.length pko)) 45 (0,0))∧w'.heap[l]? = some (.cells (mG B.code B.fail B.addr B.count B.value B.and_ B.or_ B.addr2 B.sub B.status B.events B.messages (.slice qw B.words.length qkw) (.slice qb B.bits.length qkb) (.slice qd B.data.length qkd) (.slice qr B.recs.length qkr) B.mei B.kind B.level B.more B.next (.slice qo B.objects.length qko)) 45 (0,0))∧w'.cell? ⟨k,12,none⟩=some (.slice pw A.words.length pkw)∧w'.cell? ⟨l,12,none⟩=some (.slice qw B.words.length qkw)∧w'.cell? ⟨k,13,none⟩=some (.slice pb A.bits.length pkb)∧w'.cell? ⟨l,13,none⟩=some (.slice qb B.bits.length qkb)∧w'.cell? ⟨k,14,none⟩=some (.slice pd A.data.length pkd)∧aW false w' (.slice pd A.data.length pkd) A.data∧w'.cell? ⟨l,14,none⟩=some (.slice qd B.data.length qkd)∧aW false w' (.slice qd B.data.length qkd) B.data∧w'.cell? ⟨k,15,none⟩=some (.slice pr A.recs.length pkr)∧w'.cell? ⟨l,15,none⟩=some (.slice qr B.recs.length qkr)∧w'.cell? ⟨k,21,none⟩=some (.slice po A.objects.length pko)∧w'.cell? ⟨l,21,none⟩=some (.slice qo B.objects.length qko)) fun ao U=>?_
 have o:=ub (aK X U) ab
 have p:=ub U ad
 have Q:=aK (aK ac X) U
 have Y:=aW.old phd Q
 have Z:=aW.old qhd Q
 refine bi ⟨o,p,(ae o rfl),(ae p rfl),(ae o rfl),(ae p rfl),(ae o rfl),(aT.any Y (fun _ _ h=>h)),(ae p rfl),(aT.any Z (fun _ _ h=>h)),(ae o rfl),(ae p rfl),(ae o rfl),(ae p rfl)⟩ fun a0=>Rr 0 a0 (.agg (mG A.code A.fail A.addr A.count A.value A.and_ A.or_ A.addr2 A.sub A.status A.events A.messages (.slice pw A.words.length pkw) (.slice pb A.bits.length pkb) (.slice pd A.data.length pkd) (.slice pr A.recs.length pkr) A.mei A.kind A.level A.more A.next (.slice po A.objects.length pko))) (fun w' hs=>ie (g:=k) (off:=0) [vB A.code,vB A.fail,vW A.addr,vW A.count,vW A.value,vW A.and_,vW A.or_,vW A.addr2,vW A.sub,vW A.status,vW A.events,vW A.messages,.slice pw A.words.length pkw,.slice pb A.bits.length pkb,.slice pd A.data.length pkd,.slice pr A.recs.length pkr,vB A.mei,vB A.kind,vB A.level,vB A.more,vB A.next,.slice po A.objects.length pko] rfl (by kernel_rfl) hs.1 (by kernel_rfl) (by kernel_rfl) rfl)<|Rr 2 a0 (.agg (mG B.code B.fail B.addr B.count B.value B.and_ B.or_ B.addr2 B.sub B.status B.events B.messages (.slice qw B.words.length qkw) (.slice qb B.bits.length qkb) (.slice qd B.data.length qkd) (.slice qr B.recs.length qkr) B.mei B.kind B.level B.more B.next (.slice qo B.objects.length qko))) (fun w' hs=>ie (g:=l) (off:=0) [vB B.code,vB B.fail,vW B.addr,vW B.count,vW B.value,vW B.and_,vW B.or_,vW B.addr2,vW B.sub,vW B.status,vW B.events,vW B.messages,.slice qw B.words.length qkw,.slice qb B.bits.length qkb,.slice qd B.data.length qkd,.slice qr B.recs.length qkr,vB B.mei,vB B.kind,vB B.level,vB B.more,vB B.next,.slice qo B.objects.length qko] rfl (by kernel_rfl) hs.2.1 (by kernel_rfl) (by kernel_rfl) rfl)<|?_
 refine R0 1 rfl<|Oc<|m1 (o7 (aH.old pM Q)) fun ap I=>?_
 have q:=ub I o
 have r:=ub I p
 have a1:=aW.old Y I
 have a2:=aW.old Z I
 refine bi ⟨q,r,(ae q rfl),(ae r rfl),(ae q rfl),(ae r rfl),(ae q rfl),(aT.any a1 (fun _ _ h=>h)),(ae r rfl),(aT.any a2 (fun _ _ h=>h)),(ae q rfl),(ae r rfl),(ae q rfl),(ae r rfl)⟩ fun aq=>?_
 have a3:=aK Q I
 refine R0 3 rfl<|Oc<|m1 (o7 (aH.old qM a3)) fun ar J=>?_
 have s:=ub J q
 have t:=ub J r
 have a4:=aW.old a1 J
 have a5:=aW.old a2 J
 refine bi ⟨s,t,(ae s rfl),(ae t rfl),(ae s rfl),(ae t rfl),(ae s rfl),(aT.any a4 (fun _ _ h=>h)),(ae t rfl),(aT.any a5 (fun _ _ h=>h)),(ae s rfl),(ae t rfl),(ae s rfl),(ae t rfl)⟩ fun e=>Rr 4 e (.bool (dS A==dS B)) (fun _ _=>qQ rfl (by kernel_rfl) (by kernel_rfl))<|Rt 5 e<|?_
 have R:=aK a3 J
 refine zv 10 ((dS A==dS B)) (fun u=>?_) (fun u=>?_)
 refine Rt 6 e<|Rl 7 e (fun _ hs=>hs.2.2.1)<|Rt 8 e<|Rl 9 e (fun _ hs=>hs.2.2.2.1)<|?_
 refine R0 10 rfl<|Oc<|m1 (tP (fv.old phw R) (fv.old qhw R)) fun au K=>?_
 have v:=ub K s
 have x:=ub K t
 have a6:=aW.old a4 K
 have a7:=aW.old a5 K
 refine bi ⟨v,x,(ae v rfl),(ae x rfl),(ae v rfl),(ae x rfl),(ae v rfl),(aT.any a6 (fun _ _ h=>h)),(ae x rfl),(aT.any a7 (fun _ _ h=>h)),(ae v rfl),(ae x rfl),(ae v rfl),(ae x rfl)⟩ fun f=>Rt 11 f<|Rt 12 f<|?_
 have S:=aK R K
 refine zv 17 ((decide (A.words=B.words))) (fun j=>?_) (fun j=>?_)
 have af:=of_decide_eq_true j
 refine Rt 13 f<|Rl 14 f (fun _ hs=>hs.2.2.2.2.1)<|Rt 15 f<|Rl 16 f (fun _ hs=>hs.2.2.2.2.2.1)<|?_
 refine R0 17 rfl<|Oc<|m1 (Al (nB.old phb S) (nB.old qhb S)) fun av L=>?_
 have y:=ub L v
 have z:=ub L x
 have V:=aW.old a6 L
 have W:=aW.old a7 L
 refine bi ⟨y,z,(ae y rfl),(ae z rfl),(ae y rfl),(ae z rfl),(ae y rfl),(aT.any V (fun _ _ h=>h)),(ae z rfl),(aT.any W (fun _ _ h=>h)),(ae y rfl),(ae z rfl),(ae y rfl),(ae z rfl)⟩ fun d=>Rt 18 d<|Rt 19 d<|?_
 have M:=aK S L
 refine zv 24 ((decide (A.bits=B.bits))) (fun C=>?_) (fun C=>?_)
 have ag:=of_decide_eq_true C
 refine Rt 20 d<|Rl 21 d (fun _ hs=>hs.2.2.2.2.2.2.1)<|Rr 22 d (.string (strOfNums A.data)) (fun _ hs=>cz (A:=pd) (n:=A.data.length) (c:=pkd) rfl (by kernel_rfl) Tryz.underlying27 Tryz.underlying5 Tryz.underlying9 hs.2.2.2.2.2.2.2.1)<|Rt 23 d<|Rl 24 d (fun _ hs=>hs.2.2.2.2.2.2.2.2.1)<|Rr 25 d (.string (strOfNums B.data)) (fun _ hs=>cz (A:=qd) (n:=B.data.length) (c:=qkd) rfl (by kernel_rfl) Tryz.underlying27 Tryz.underlying5 Tryz.underlying9 hs.2.2.2.2.2.2.2.2.2.1)<|Rr 26 d (.bool (decide (A.data=B.data))) (fun _ _=>eF (a:=(strOfNums A.data)) (b:=(strOfNums B.data)) rfl (by kernel_rfl) (by kernel_rfl) (jy V W))<|Rt 27 d<|Rt 28 d<|zv 33 ((decide (A.data=B.data))) (fun F=>?_) (fun F=>?_)
 have ah:=of_decide_eq_true F
 refine Rt 29 d<|Rl 30 d (fun _ hs=>hs.2.2.2.2.2.2.2.2.2.2.1)<|Rt 31 d<|Rl 32 d (fun _ hs=>hs.2.2.2.2.2.2.2.2.2.2.2.1)<|?_
 refine R0 33 rfl<|Oc<|m1 (Aj (pD.old phr M) (pD.old qhr M)) fun aw N=>?_
 have D:=ub N y
 have E:=ub N z
 have a8:=aW.old V N
 have a9:=aW.old W N
 refine bi ⟨D,E,(ae D rfl),(ae E rfl),(ae D rfl),(ae E rfl),(ae D rfl),(aT.any a8 (fun _ _ h=>h)),(ae E rfl),(aT.any a9 (fun _ _ h=>h)),(ae D rfl),(ae E rfl),(ae D rfl),(ae E rfl)⟩ fun i=>Rt 34 i<|Rt 35 i<|?_
 have T:=aK M N
 refine zv 40 ((decide (A.recs=B.recs))) (fun O=>?_) (fun O=>?_)
 have ai:=of_decide_eq_true O
 refine Rt 36 i<|Rl 37 i (fun _ hs=>hs.2.2.2.2.2.2.2.2.2.2.2.2.1)<|Rt 38 i<|Rl 39 i (fun _ hs=>hs.2.2.2.2.2.2.2.2.2.2.2.2.2)<|?_
 refine R0 40 rfl<|Oc<|m1 (AG (pC.old pho T) (pC.old qho T)) fun ax P=>?_
 have G:=ub P D
 have H:=ub P E
 refine bi ⟨G,H,(ae G rfl),(ae H rfl),(ae G rfl),(ae H rfl),(ae G rfl),(aT.any (aW.old a8 P) (fun _ _ h=>h)),(ae H rfl),(aT.any (aW.old a9 P) (fun _ _ h=>h)),(ae G rfl),(ae H rfl),(ae G rfl),(ae H rfl)⟩ fun aa=>Rt 41 aa<|Rt 42 aa<|re<|tn<|rt<|rr (.bool (decide (A.objects=B.objects)))<|?_
 have hs:decide (A=B)=(decide (A.objects=B.objects)):=by
   rw[gU pR qR]
   (try simp only[u,j,C,F,O,bC])
 rw[hs]
 exact⟨rfl,(aK T P)⟩
 have ai:=of_decide_eq_false O
 refine Ro 36 i<|Ro 37 i<|Ro 38 i<|Ro 39 i<|Ro 40 i<|Rt 41 i<|Rt 42 i<|re<|tn<|rt<|rr (.bool false)<|?_
 have hs:decide (A=B)=false:=by
   rw[gU pR qR]
   (try simp only[u,j,C,F,O,bC])
 rw[hs]
 exact⟨rfl,T⟩
 have ah:=of_decide_eq_false F
 refine Ro 29 d<|Ro 30 d<|Ro 31 d<|Ro 32 d<|Ro 33 d<|Rt 34 d<|Rt 35 d<|Ro 36 d<|Ro 37 d<|Ro 38 d<|Ro 39 d<|Ro 40 d<|Rt 41 d<|Rt 42 d<|re<|tn<|rt<|rr (.bool false)<|?_
 have hs:decide (A=B)=false:=by
   rw[gU pR qR]
   (try simp only[u,j,C,F,bC])
 rw[hs]
 exact⟨rfl,M⟩
 have ag:=of_decide_eq_false C
 refine Ro 20 d<|Ro 21 d<|Ro 22 d<|Ro 23 d<|Ro 24 d<|Ro 25 d<|Ro 26 d<|Rt 27 d<|Rt 28 d<|Ro 29 d<|Ro 30 d<|Ro 31 d<|Ro 32 d<|Ro 33 d<|Rt 34 d<|Rt 35 d<|Ro 36 d<|Ro 37 d<|Ro 38 d<|Ro 39 d<|Ro 40 d<|Rt 41 d<|Rt 42 d<|re<|tn<|rt<|rr (.bool false)<|?_
 have hs:decide (A=B)=false:=by
   rw[gU pR qR]
   (try simp only[u,j,C,bC])
 rw[hs]
 exact⟨rfl,M⟩
 have af:=of_decide_eq_false j
 refine Ro 13 f<|Ro 14 f<|Ro 15 f<|Ro 16 f<|Ro 17 f<|Rt 18 f<|Rt 19 f<|Ro 20 f<|Ro 21 f<|Ro 22 f<|Ro 23 f<|Ro 24 f<|Ro 25 f<|Ro 26 f<|Rt 27 f<|Rt 28 f<|Ro 29 f<|Ro 30 f<|Ro 31 f<|Ro 32 f<|Ro 33 f<|Rt 34 f<|Rt 35 f<|Ro 36 f<|Ro 37 f<|Ro 38 f<|Ro 39 f<|Ro 40 f<|Rt 41 f<|Rt 42 f<|re<|tn<|rt<|rr (.bool false)<|?_
 have hs:decide (A=B)=false:=by
   rw[gU pR qR]
   (try simp only[u,j,bC])
 rw[hs]
 exact⟨rfl,S⟩
 refine Ro 6 e<|Ro 7 e<|Ro 8 e<|Ro 9 e<|Ro 10 e<|Rt 11 e<|Rt 12 e<|Ro 13 e<|Ro 14 e<|Ro 15 e<|Ro 16 e<|Ro 17 e<|Rt 18 e<|Rt 19 e<|Ro 20 e<|Ro 21 e<|Ro 22 e<|Ro 23 e<|Ro 24 e<|Ro 25 e<|Ro 26 e<|Rt 27 e<|Rt 28 e<|Ro 29 e<|Ro 30 e<|Ro 31 e<|Ro 32 e<|Ro 33 e<|Rt 34 e<|Rt 35 e<|Ro 36 e<|Ro 37 e<|Ro 38 e<|Ro 39 e<|Ro 40 e<|Rt 41 e<|Rt 42 e<|re<|tn<|rt<|rr (.bool false)<|?_
 have hs:decide (A=B)=false:=by
   rw[gU pR qR]
   (try simp only[u,bC])
 rw[hs]
 exact⟨rfl,R⟩
open Go.RowKit
def jF (Q:World→Ending→World→Prop)(w:World)(e:Ending)(w':World) : Prop:=∃ F free,e = .returned (.func (.func F) #[] free)∧BW Tryz.prog F=some (false,true)∧ay [] w w'∧Calls Tryz.prog F free w' (Q w')
variable {C:aF}{g:Nat}{most:Int}
theorem oc(hC:ah w g C)(ha:0≤a∧a<65536) :
    Calls Tryz.prog 199 #[vP g 0,vW a,vI most] w (nM g .i64 65536 C.wordV (bI C a most) w):=by
 have hlen:=hC.len
 have hrr:=hC.wordV
 refine en 26 Tryz.func199 rfl<|aA 1<|aU 1<|aG<|m3 (bK hC) fun k b c l=>bD C.wordV<|al 1<|aA 4<|ij 4 [14] 18 14 (decide (1≤C.wordV)) (decide (C.wordV≤most)) (fun K d e=>?_) ?_
 have m:=of_decide_eq_true e
 exact Pl 4<|ce d _ rfl
 refine aG<|m2 (aY (((decide (1≤C.wordV))&&(decide (C.wordV≤most)))) 5 b) fun o f h=>aU 3<|aG<|mq (jG (a:=a) (n:=C.wordV) (by omega))<|aG<|m2 (aY ((fq a C.wordV)) 7 f) fun p i j=>aU 2<|nl<|tn<|rt<|rr (vI C.wordV)<|?_
 exact dQ (by unfold bI;(try simp only[bC,reduceIte])<;>rfl) ⟨rfl,i,(u1 c (u1 h j im) im),hrr⟩
theorem lh{n:Int}(hC:ah w g C)(hn:0≤n∧n<65536) :
    Calls Tryz.prog 205 #[vP g 0,vI n] w (fun e w'=>∃ v,e = .returned v∧oZ w.heap.size w' v ((cK C n).wordsR n)∧ah w' g ((cK C n).wordsC n)∧ay [g] w w'):=by
 have hlen:=hC.len
 refine en 16 Tryz.func205 rfl<|aA 1<|aU 2<|aG<|m3 (bJ hC) fun l c a m=>bD C.byteV<|Pl 1<|bD (2*n)<|Pl 1<|aG<|m2 (aY ((C.byteV==(2*n))) 5 c) fun o d b=>?_
 refine aU 2<|aG<|tS (ek (n:=n) d) fun f h p i q r j k=>al 1<|rt<|rr (.slice f ((((C.bytesC 1).need (C.byteV==(2*n)) 5).wordsR n).length) h)<|?_
 have hs:cK C n=((C.bytesC 1).need (C.byteV==(2*n)) 5):=by
   unfold cK
   (try simp only[bC,reduceIte])
   all_goals rfl
 rw[hs]
 exact⟨_,rfl,(aQ.weaken i (le a.size b.size)),j,(u1 a (u1 b k im) im)⟩
variable {bc bm gm:Nat}{c:Int}
theorem jg(hcode:B8 c)(hC:ah w g C)(hm:w.heap[gm]? = some (.cells (mC c) 45 (0,0)))(hne:g≠gm)   (hbc:w.heap[bc]? = some (.cells #[vP g 0] 164 (0,0)))(n_bc_g:bc≠g)(n_bc_gm:bc≠gm)(hbm:w.heap[bm]? = some (.cells #[vP gm 0] 166 (0,0)))(n_bm_g:bm≠g)(n_bm_gm:bm≠gm) :
    Calls Tryz.prog 198 #[vI most,vP bc 0,vP bm 0] w (so g gm (bI (C.wordsC 1) C.wordV most) (mG c 0 C.wordV (C.wordsC 1).wordV 0 0 0 0 0 0 0 0 nS nS nS nS 0 0 0 0 0 nS) w):=by
 obtain⟨hcode1,hcode2⟩:=hcode
 have hlen:=hC.len
 refine en 20 Tryz.func198 rfl<|sq<|Rg 6 (fun w'=>w'.cell? ⟨bm,0,none⟩=some (vP gm 0)∧w'.cell? ⟨bc,0,none⟩=some (vP g 0)) fun I d=>?_
 have m:=ub d hbm
 have n:=ub d hbc
 refine bi ⟨(ae m rfl),(ae n rfl)⟩ fun o=>Rl 0 o (fun _ hs=>hs.1)<|Rl 1 o (fun _ hs=>hs.2)<|?_
 refine R0 2 rfl<|Oc<|m3 (bK (ah.old hC d)) fun J F i K=>?_
 have p:=bf i n_bm_g m
 have q:=bf i n_bc_g n
 refine bi ⟨(ae p rfl),(ae q rfl)⟩ fun r=>Rt 3 r<|Rt 4 r<|?_
 have s:=uz d i
 have t:=bf s (Ne.symm hne) hm
 refine R0 5 rfl<|cA t 2 (mG c 0 C.wordV 0 0 0 0 0 0 0 0 0 nS nS nS nS 0 0 0 0 0 nS) fun L G j=>?_
 have u:=bf j n_bm_gm p
 have v:=bf j n_bc_gm q
 refine bi ⟨(ae u rfl),(ae v rfl)⟩ fun M=>re<|tn<|Rg 12 (fun w'=>w'.cell? ⟨bm,0,none⟩=some (vP gm 0)∧w'.cell? ⟨bc,0,none⟩=some (vP g 0)∧w'.cell? ⟨gm,2,none⟩=some (vW C.wordV)) fun N e=>?_
 have x:=ub e u
 have y:=ub e v
 have z:=ub e G
 refine bi ⟨(ae x rfl),(ae y rfl),(ae z rfl)⟩ fun b=>Rl 0 b (fun _ hs=>hs.1)<|Rl 1 b (fun _ hs=>hs.2.1)<|Rl 2 b (fun _ hs=>hs.1)<|Rt 3 b<|Rt 4 b<|Rl 5 b (fun _ hs=>hs.2.2)<|Rt 6 b<|?_
 have A:=aK j e
 refine R0 7 rfl<|Oc<|m3 (oc (a:=C.wordV) (most:=most) (ah.upd F A (aa hne av) (am (b6 t (by decide)) aP)) (by omega)) fun O H f P=>?_
 have B:=bf f n_bm_g x
 have D:=bf f n_bc_g y
 have k:=bf f (Ne.symm hne) z
 refine bi ⟨(ae B rfl),(ae D rfl),(ae k rfl)⟩ fun l=>Rr 8 l (vW ((C.wordsC 1).wordV)) (fun _ _=>cR (vW (IntKind.u16.wrap ((C.wordsC 1).wordV))) (by kernel_rfl) (congrArg (Value.int .u16) (rP (by omega))))<|Rt 9 l<|Rt 10 l<|R0 11 rfl<|cA k 3 (mG c 0 C.wordV ((C.wordsC 1).wordV) 0 0 0 0 0 0 0 0 nS nS nS nS 0 0 0 0 0 nS) fun Q E h=>?_
 refine bi ⟨(ae (bf h n_bm_gm B) rfl),(ae (bf h n_bc_gm D) rfl),(ae E rfl)⟩ fun R=>re<|rm (.tuple #[])<|?_
 exact⟨rfl,(ah.upd H h (aa hne av) (am (b6 k (by decide)) aP)),E,(ui s (ui A (us f h)))⟩
variable {bw:Nat}
theorem ET(hcode:B8 c)(hC:ah w g C)(hm:w.heap[gm]? = some (.cells (mC c) 45 (0,0)))(hne:g≠gm)    (hbc:w.heap[bc]? = some (.cells #[vP g 0] 164 (0,0)))(n_bc_g:bc≠g)(n_bc_gm:bc≠gm)(hbm:w.heap[bm]? = some (.cells #[vP gm 0] 166 (0,0)))(n_bm_g:bm≠g)(n_bm_gm:bm≠gm)(hbw:w.heap[bw]? = some (.cells #[.func (.func 198) #[] #[vP bc 0,vP bm 0]] 218 (0,0)))(n_bw_g:bw≠g)(n_bw_gm:bw≠gm) :
    Calls Tryz.prog 200 #[vP bw 0] w (cg g gm (d6 125 c C).1 (d6 125 c C).2 w):=by
 obtain⟨hcode1,hcode2⟩:=hcode
 have hlen:=hC.len
 refine en 3 Tryz.func200 rfl<|go<|aD hbw 0<|L0<|gk #[] #[vP bc 0,vP bm 0] (args:=#[vI 125,vP bc 0,vP bm 0])<|m3 (jg (most:=125) ⟨hcode1,hcode2⟩ hC hm hne hbc n_bc_g n_bc_gm hbm n_bm_g n_bm_gm) fun e a b d=>?_
 have f:=(hC).wordV
 have h:=dC (dk (hC).rng 1)
 refine nl<|rm (.tuple #[])<|?_
 have hs:d6 125 c C=((bI (C.wordsC 1) C.wordV 125),(b7.mk c 0 C.wordV ((C.wordsC 1).wordV) 0 0 0 0 0 0 0 0 [] [] [] [] 0 0 0 0 0 [])):=by
   unfold d6
   (try simp only[bC,reduceIte])
   all_goals rfl
 rw[hs]
 exact⟨rfl,a,⟨_,⟨b,rfl⟩,⟨_,_,_,_,_,rfl,aT.nil ..,aT.nil ..,aT.nil ..,aT.nil ..,aT.nil ..,(eR (by omega))⟩⟩,d⟩
theorem Eh(hcode:B8 c)(hC:ah w g C)(hm:w.heap[gm]? = some (.cells (mC c) 45 (0,0)))(hne:g≠gm)   (hbc:w.heap[bc]? = some (.cells #[vP g 0] 164 (0,0)))(n_bc_g:bc≠g)(n_bc_gm:bc≠gm)(hbm:w.heap[bm]? = some (.cells #[vP gm 0] 166 (0,0)))(n_bm_g:bm≠g)(n_bm_gm:bm≠gm) :
    Calls Tryz.prog 201 #[vP bc 0,vP bm 0] w (cg g gm (dT c C).1 (dT c C).2 w):=by
 obtain⟨hcode1,hcode2⟩:=hcode
 have hlen:=hC.len
 refine en 26 Tryz.func201 rfl<|sg<|aD hbc 0<|aG<|m3 (bJ hC) fun M y i N=>bD C.byteV<|Pl 1<|ng<|?_
 have j:=bf i n_bc_g hbc
 refine aD j 0<|Pl 1<|L0<|Oe (vI (Int.tmod C.byteV 2)) (vI (C.byteV%2)) (congrArg (Value.int .i64) (Int.tmod_eq_emod_of_nonneg (by omega)))<|Pl 2<|ij 3 [10] 13 10 ((C.byteV%2)==0) (decide (2≤C.byteV)) (fun K z A=>?_) ?_
 have O:=aI A
 exact Pl 3<|ce z _ rfl
 refine Pl 1<|ij 3 [14] 17 14 (((C.byteV%2)==0)&&(decide (2≤C.byteV))) (decide (C.byteV≤250)) (fun K B k=>?_) ?_
 have D:=(bW k).1
 have E:=(bW k).2
 have P:=aI D
 have Q:=of_decide_eq_true E
 exact Pl 3<|ce B _ rfl
 refine aG<|m2 (aY (((((C.byteV%2)==0)&&(decide (2≤C.byteV)))&&(decide (C.byteV≤250)))) 5 y) fun R F G=>nt<|Rg 8 (fun w'=>w'.cell? ⟨bm,0,none⟩=some (vP gm 0)∧w'.cell? ⟨bc,0,none⟩=some (vP g 0)) fun S l=>?_
 have m:=aK G l
 have b:=u1 i m im
 have o:=bf b n_bm_g hbm
 have p:=bf m n_bc_g j
 refine bi ⟨(ae o rfl),(ae p rfl)⟩ fun d=>Rl 0 d (fun _ hs=>hs.1)<|Rl 1 d (fun _ hs=>hs.2)<|Rt 2 d<|Rr 3 d (vI (C.byteV/2)) (fun _ _=>cR (vI (IntKind.i64.wrap (Int.tdiv C.byteV 2))) (by kernel_rfl) (congrArg (Value.int .i64) (tG (by omega) (by omega))))<|?_
 refine R0 4 rfl<|Oc<|tS (ek (n:=(C.byteV/2)) (ah.old F l)) fun H I T q U V J f=>?_
 have r:=bf f n_bm_g o
 have s:=bf f n_bc_g p
 refine bi ⟨(ae r rfl),(ae s rfl)⟩ fun t=>Rt 5 t<|Rt 6 t<|?_
 have u:=u1 b f im
 have v:=bf u (Ne.symm hne) hm
 refine R0 7 rfl<|cA v 12 (mG c 0 0 0 0 0 0 0 0 0 0 0 (.slice H ((((C.bytesC 1).need ((((C.byteV%2)==0)&&(decide (2≤C.byteV)))&&(decide (C.byteV≤250))) 5).wordsR (C.byteV/2)).length) I) nS nS nS 0 0 0 0 0 nS) fun W L a=>?_
 refine bi ⟨(ae (bf a n_bm_gm r) rfl),(ae (bf a n_bc_gm s) rfl)⟩ fun X=>re<|rm (.tuple #[])<|?_
 exact dQ (by unfold dT ms kV;(try simp only[bC,reduceIte])<;>rfl) ⟨rfl,(ah.upd J a (aa hne av) (am (b6 v (by decide)) aP)),⟨_,⟨L,rfl⟩,⟨_,_,_,_,_,rfl,(aQ.hi (ak q a (fun x hx=>(aa (fun e=>(az (ag hm) b.size q) (e▸hx)) av)) (fun _ _ h=>h)) b.size),aT.nil ..,aT.nil ..,aT.nil ..,aT.nil ..,(eR (by omega))⟩⟩,(us u a)⟩
theorem EV(hcode:B8 c)(hC:ah w g C)(hm:w.heap[gm]? = some (.cells (mC c) 45 (0,0)))(hne:g≠gm)   (hbc:w.heap[bc]? = some (.cells #[vP g 0] 164 (0,0)))(n_bc_g:bc≠g)(n_bc_gm:bc≠gm)(hbm:w.heap[bm]? = some (.cells #[vP gm 0] 166 (0,0)))(n_bm_g:bm≠g)(n_bm_gm:bm≠gm) :
    Calls Tryz.prog 203 #[vP bc 0,vP bm 0] w (cg g gm (i4 c C).1 (i4 c C).2 w):=by
 obtain⟨hcode1,hcode2⟩:=hcode
 have hlen:=hC.len
 refine en 12 Tryz.func203 rfl<|Rg 12 (fun w'=>w'.cell? ⟨bm,0,none⟩=some (vP gm 0)∧w'.cell? ⟨bc,0,none⟩=some (vP g 0)) fun A a=>?_
 have i:=ub a hbm
 have j:=ub a hbc
 refine bi ⟨(ae i rfl),(ae j rfl)⟩ fun b=>Rl 0 b (fun _ hs=>hs.1)<|Rl 1 b (fun _ hs=>hs.1)<|Rl 2 b (fun _ hs=>hs.2)<|Rl 4 b (fun _ hs=>hs.2)<|?_
 refine R0 3 rfl<|Oc<|m3 (bK (ah.old hC a)) fun B v d D=>?_
 have k:=bf d n_bm_g i
 have l:=bf d n_bc_g j
 refine bi ⟨(ae k rfl),(ae l rfl)⟩ fun E=>R0 5 rfl<|Oc<|m3 (bK v) fun F x e G=>?_
 have m:=bf e n_bm_g k
 have n:=bf e n_bc_g l
 refine bi ⟨(ae m rfl),(ae n rfl)⟩ fun o=>Rt 6 o<|Rt 7 o<|?_
 have p:=uz a (u1 d e im)
 have q:=bf p (Ne.symm hne) hm
 refine R0 8 rfl<|cA q 2 (mG c 0 C.wordV 0 0 0 0 0 0 0 0 0 nS nS nS nS 0 0 0 0 0 nS) fun H y f=>?_
 have r:=bf f n_bm_gm m
 have s:=bf f n_bc_gm n
 refine bi ⟨(ae r rfl),(ae s rfl)⟩ fun t=>Rt 9 t<|Rt 10 t<|R0 11 rfl<|cA y 4 (mG c 0 C.wordV 0 ((C.wordsC 1).wordV) 0 0 0 0 0 0 0 nS nS nS nS 0 0 0 0 0 nS) fun I z h=>?_
 refine bi ⟨(ae (bf h n_bm_gm r) rfl),(ae (bf h n_bc_gm s) rfl)⟩ fun J=>re<|rm (.tuple #[])<|?_
 have hs:i4 c C=(((C.wordsC 1).wordsC 1),(b7.mk c 0 C.wordV 0 ((C.wordsC 1).wordV) 0 0 0 0 0 0 0 [] [] [] [] 0 0 0 0 0 [])):=by
   unfold i4
   (try simp only[bC,reduceIte])
   all_goals rfl
 rw[hs]
 have u:=u1 f h im
 exact⟨rfl,(ah.upd x u (aa hne av) (am (b6 q (by decide)) aP)),⟨_,⟨z,rfl⟩,⟨_,_,_,_,_,rfl,aT.nil ..,aT.nil ..,aT.nil ..,aT.nil ..,aT.nil ..,(eR (by omega))⟩⟩,(us p u)⟩
theorem Ez{ask:Bool}     (hcode:B8 c)(hC:ah w g C)(hm:w.heap[gm]? = some (.cells (mC c) 45 (0,0)))(hne:g≠gm)    {ba:Nat}(hbc:w.heap[bc]? = some (.cells #[vP g 0] 164 (0,0)))(n_bc_g:bc≠g)(n_bc_gm:bc≠gm)(hbm:w.heap[bm]? = some (.cells #[vP gm 0] 166 (0,0)))(n_bm_g:bm≠g)(n_bm_gm:bm≠gm)(hbw:w.heap[bw]? = some (.cells #[.func (.func 198) #[] #[vP bc 0,vP bm 0]] 218 (0,0)))(n_bw_g:bw≠g)(n_bw_gm:bw≠gm)(hba:w.heap[ba]? = some (.cells #[.bool ask] 4 (0,0)))(n_ba_g:ba≠g)(n_ba_gm:ba≠gm)(hask:ask=true) :
    Calls Tryz.prog 204 #[vP bw 0,vP ba 0,vP bc 0,vP bm 0] w (cg g gm (fI c C).1 (fI c C).2 w):=by
 obtain⟨hcode1,hcode2⟩:=hcode
 have hlen:=hC.len
 refine en 17 Tryz.func204 rfl<|sg<|aD hbw 0<|L0<|gk #[] #[vP bc 0,vP bm 0] (args:=#[vI 123,vP bc 0,vP bm 0])<|m3 (jg (most:=123) ⟨hcode1,hcode2⟩ hC hm hne hbc n_bc_g n_bc_gm hbm n_bm_g n_bm_gm) fun B u v k=>?_
 have D:=(hC).wordV
 have E:=dC (dk (hC).rng 1)
 refine ng<|?_
 refine aD (ay.blk k (aa n_ba_g (aa n_ba_gm av)) hba) 0<|nt<|ct hask<|Rg 11 (fun w'=>w'.cell? ⟨bm,0,none⟩=some (vP gm 0)∧w'.cell? ⟨bc,0,none⟩=some (vP g 0)∧w'.cell? ⟨gm,3,none⟩=some (vW ((C.wordsC 1).wordV))) fun F i=>?_
 have b:=aK k i
 have l:=ay.blk b (aa n_bm_g (aa n_bm_gm av)) hbm
 have m:=ay.blk b (aa n_bc_g (aa n_bc_gm av)) hbc
 have o:=ub i v
 refine bi ⟨(ae l rfl),(ae m rfl),(ae o rfl)⟩ fun a=>Rl 0 a (fun _ hs=>hs.1)<|Rl 1 a (fun _ hs=>hs.2.1)<|Rl 2 a (fun _ hs=>hs.1)<|Rt 3 a<|Rt 4 a<|Rl 5 a (fun _ hs=>hs.2.2)<|Rr 6 a (vI ((C.wordsC 1).wordV)) (fun _ _=>cR (vI (IntKind.i64.wrap ((C.wordsC 1).wordV))) (by kernel_rfl) (congrArg (Value.int .i64) (i64_in (by omega))))<|?_
 refine R0 7 rfl<|Oc<|tS (lh (n:=(C.wordsC 1).wordV) (ah.old u i) (by omega)) fun y z G p H I A f=>?_
 have q:=bf f n_bm_g l
 have r:=bf f n_bc_g m
 have j:=bf f (Ne.symm hne) o
 refine bi ⟨(ae q rfl),(ae r rfl),(ae j rfl)⟩ fun s=>Rt 8 s<|Rt 9 s<|R0 10 rfl<|cA j 12 (mG c 0 C.wordV ((C.wordsC 1).wordV) 0 0 0 0 0 0 0 0 (.slice y (((cK (bI (C.wordsC 1) C.wordV 123) ((C.wordsC 1).wordV)).wordsR ((C.wordsC 1).wordV)).length) z) nS nS nS 0 0 0 0 0 nS) fun J t d=>?_
 refine bi ⟨(ae (bf d n_bm_gm q) rfl),(ae (bf d n_bc_gm r) rfl),(ae t rfl)⟩ fun K=>re<|rm (.tuple #[])<|?_
 have hs:fI c C=(((cK (bI (C.wordsC 1) C.wordV 123) ((C.wordsC 1).wordV)).wordsC ((C.wordsC 1).wordV)),(b7.mk c 0 C.wordV ((C.wordsC 1).wordV) 0 0 0 0 0 0 0 0 ((cK (bI (C.wordsC 1) C.wordV 123) ((C.wordsC 1).wordV)).wordsR ((C.wordsC 1).wordV)) [] [] [] 0 0 0 0 0 [])):=by
   unfold fI jD
   (try simp only[hask,bC,reduceIte])
   all_goals rfl
 rw[hs]
 exact⟨rfl,(ah.upd A d (aa hne av) (am (b6 j (by decide)) aP)),⟨_,⟨t,rfl⟩,⟨_,_,_,_,_,rfl,(aQ.hi (ak p d (fun x hx=>(aa (fun e=>(az (ag hm) b.size p) (e▸hx)) av)) (fun _ _ h=>h)) b.size),aT.nil ..,aT.nil ..,aT.nil ..,aT.nil ..,(eR (by omega))⟩⟩,(ut b (us f d) (ac im (ac im aC)))⟩
theorem Ee{ask:Bool}     (hcode:B8 c)(hC:ah w g C)(hm:w.heap[gm]? = some (.cells (mC c) 45 (0,0)))(hne:g≠gm)    {ba:Nat}(hbc:w.heap[bc]? = some (.cells #[vP g 0] 164 (0,0)))(n_bc_g:bc≠g)(n_bc_gm:bc≠gm)(hbm:w.heap[bm]? = some (.cells #[vP gm 0] 166 (0,0)))(n_bm_g:bm≠g)(n_bm_gm:bm≠gm)(hbw:w.heap[bw]? = some (.cells #[.func (.func 198) #[] #[vP bc 0,vP bm 0]] 218 (0,0)))(n_bw_g:bw≠g)(n_bw_gm:bw≠gm)(hba:w.heap[ba]? = some (.cells #[.bool ask] 4 (0,0)))(n_ba_g:ba≠g)(n_ba_gm:ba≠gm)(hask:ask=false) :
    Calls Tryz.prog 204 #[vP bw 0,vP ba 0,vP bc 0,vP bm 0] w (cg g gm (d6 123 c C).1 (d6 123 c C).2 w):=by
 obtain⟨hcode1,hcode2⟩:=hcode
 have hlen:=hC.len
 refine en 17 Tryz.func204 rfl<|sg<|aD hbw 0<|L0<|gk #[] #[vP bc 0,vP bm 0] (args:=#[vI 123,vP bc 0,vP bm 0])<|m3 (jg (most:=123) ⟨hcode1,hcode2⟩ hC hm hne hbc n_bc_g n_bc_gm hbm n_bm_g n_bm_gm) fun e b d a=>?_
 have f:=(hC).wordV
 have h:=dC (dk (hC).rng 1)
 refine ng<|?_
 refine aD (ay.blk a (aa n_ba_g (aa n_ba_gm av)) hba) 0<|nt<|cf hask<|sk<|rm (.tuple #[])<|?_
 have hs:d6 123 c C=((bI (C.wordsC 1) C.wordV 123),(b7.mk c 0 C.wordV ((C.wordsC 1).wordV) 0 0 0 0 0 0 0 0 [] [] [] [] 0 0 0 0 0 [])):=by
   unfold d6
   (try simp only[hask,bC,reduceIte])
   all_goals rfl
 rw[hs]
 exact⟨rfl,b,⟨_,⟨d,rfl⟩,⟨_,_,_,_,_,rfl,aT.nil ..,aT.nil ..,aT.nil ..,aT.nil ..,aT.nil ..,(eR (by omega))⟩⟩,a⟩
theorem EU(hcode:B8 c)(hC:ah w g C)(hm:w.heap[gm]? = some (.cells (mC c) 45 (0,0)))(hne:g≠gm)   (hbc:w.heap[bc]? = some (.cells #[vP g 0] 164 (0,0)))(n_bc_g:bc≠g)(n_bc_gm:bc≠gm)(hbm:w.heap[bm]? = some (.cells #[vP gm 0] 166 (0,0)))(n_bm_g:bm≠g)(n_bm_gm:bm≠gm) :
    Calls Tryz.prog 206 #[vP bc 0,vP bm 0] w (cg g gm (eX c C).1 (eX c C).2 w):=by
 obtain⟨hcode1,hcode2⟩:=hcode
 have hlen:=hC.len
 refine en 17 Tryz.func206 rfl<|Rg 18 (fun w'=>w'.cell? ⟨bm,0,none⟩=some (vP gm 0)∧w'.cell? ⟨bc,0,none⟩=some (vP g 0)) fun K b=>?_
 have k:=ub b hbm
 have l:=ub b hbc
 refine bi ⟨(ae k rfl),(ae l rfl)⟩ fun a=>Rl 0 a (fun _ hs=>hs.1)<|Rl 1 a (fun _ hs=>hs.1)<|Rl 2 a (fun _ hs=>hs.1)<|Rl 3 a (fun _ hs=>hs.2)<|Rl 5 a (fun _ hs=>hs.2)<|Rl 7 a (fun _ hs=>hs.2)<|?_
 refine R0 4 rfl<|Oc<|m3 (bK (ah.old hC b)) fun L E d M=>?_
 have m:=bf d n_bm_g k
 have n:=bf d n_bc_g l
 refine bi ⟨(ae m rfl),(ae n rfl)⟩ fun N=>R0 6 rfl<|Oc<|m3 (bK E) fun O F e P=>?_
 have o:=bf e n_bm_g m
 have p:=bf e n_bc_g n
 refine bi ⟨(ae o rfl),(ae p rfl)⟩ fun Q=>R0 8 rfl<|Oc<|m3 (bK F) fun R G f S=>?_
 have q:=bf f n_bm_g o
 have r:=bf f n_bc_g p
 refine bi ⟨(ae q rfl),(ae r rfl)⟩ fun s=>Rt 9 s<|Rt 10 s<|?_
 have t:=uz b (u1 d (u1 e f im) im)
 have u:=bf t (Ne.symm hne) hm
 refine R0 11 rfl<|cA u 2 (mG c 0 C.wordV 0 0 0 0 0 0 0 0 0 nS nS nS nS 0 0 0 0 0 nS) fun T H h=>?_
 have v:=bf h n_bm_gm q
 have x:=bf h n_bc_gm r
 refine bi ⟨(ae v rfl),(ae x rfl)⟩ fun y=>Rt 12 y<|Rt 13 y<|R0 14 rfl<|cA H 5 (mG c 0 C.wordV 0 0 ((C.wordsC 1).wordV) 0 0 0 0 0 0 nS nS nS nS 0 0 0 0 0 nS) fun U I i=>?_
 have z:=bf i n_bm_gm v
 have A:=bf i n_bc_gm x
 refine bi ⟨(ae z rfl),(ae A rfl)⟩ fun B=>Rt 15 B<|Rt 16 B<|R0 17 rfl<|cA I 6 (mG c 0 C.wordV 0 0 ((C.wordsC 1).wordV) (((C.wordsC 1).wordsC 1).wordV) 0 0 0 0 0 nS nS nS nS 0 0 0 0 0 nS) fun V J j=>?_
 refine bi ⟨(ae (bf j n_bm_gm z) rfl),(ae (bf j n_bc_gm A) rfl)⟩ fun W=>re<|rm (.tuple #[])<|?_
 have hs:eX c C=((((C.wordsC 1).wordsC 1).wordsC 1),(b7.mk c 0 C.wordV 0 0 ((C.wordsC 1).wordV) (((C.wordsC 1).wordsC 1).wordV) 0 0 0 0 0 [] [] [] [] 0 0 0 0 0 [])):=by
   unfold eX
   (try simp only[bC,reduceIte])
   all_goals rfl
 rw[hs]
 have D:=u1 h (u1 i j im) im
 exact⟨rfl,(ah.upd G D (aa hne av) (am (b6 u (by decide)) aP)),⟨_,⟨J,rfl⟩,⟨_,_,_,_,_,rfl,aT.nil ..,aT.nil ..,aT.nil ..,aT.nil ..,aT.nil ..,(eR (by omega))⟩⟩,(us t D)⟩
theorem F8(hcode:B8 c)(hC:ah w g C)(hm:w.heap[gm]? = some (.cells (mC c) 45 (0,0)))(hne:g≠gm)    (hbc:w.heap[bc]? = some (.cells #[vP g 0] 164 (0,0)))(n_bc_g:bc≠g)(n_bc_gm:bc≠gm)(hbm:w.heap[bm]? = some (.cells #[vP gm 0] 166 (0,0)))(n_bm_g:bm≠g)(n_bm_gm:bm≠gm)(hbw:w.heap[bw]? = some (.cells #[.func (.func 198) #[] #[vP bc 0,vP bm 0]] 218 (0,0)))(n_bw_g:bw≠g)(n_bw_gm:bw≠gm) :
    Calls Tryz.prog 207 #[vP bw 0,vP bc 0,vP bm 0] w (cg g gm (fY c C).1 (fY c C).2 w):=by
 obtain⟨hcode1,hcode2⟩:=hcode
 have hlen:=hC.len
 refine en 21 Tryz.func207 rfl<|sg<|aD hbw 0<|L0<|gk #[] #[vP bc 0,vP bm 0] (args:=#[vI 125,vP bc 0,vP bm 0])<|m3 (jg (most:=125) ⟨hcode1,hcode2⟩ hC hm hne hbc n_bc_g n_bc_gm hbm n_bm_g n_bm_gm) fun X P Q o=>?_
 have Y:=(hC).wordV
 have Z:=dC (dk (hC).rng 1)
 refine nt<|sq<|Rg 6 (fun w'=>w'.cell? ⟨bm,0,none⟩=some (vP gm 0)∧w'.cell? ⟨bc,0,none⟩=some (vP g 0)) fun a0 j=>?_
 have p:=aK o j
 have r:=ay.blk p (aa n_bm_g (aa n_bm_gm av)) hbm
 have s:=ay.blk p (aa n_bc_g (aa n_bc_gm av)) hbc
 refine bi ⟨(ae r rfl),(ae s rfl)⟩ fun t=>Rl 0 t (fun _ hs=>hs.1)<|Rl 1 t (fun _ hs=>hs.2)<|?_
 refine R0 2 rfl<|Oc<|m3 (bK (ah.old P j)) fun a1 R d a2=>?_
 have u:=bf d n_bm_g r
 have v:=bf d n_bc_g s
 refine bi ⟨(ae u rfl),(ae v rfl)⟩ fun y=>Rt 3 y<|Rt 4 y<|?_
 have z:=bf (uz j d) (Ne.symm hne) Q
 refine R0 5 rfl<|cA z 7 (mG c 0 C.wordV ((C.wordsC 1).wordV) 0 0 0 ((bI (C.wordsC 1) C.wordV 125).wordV) 0 0 0 0 nS nS nS nS 0 0 0 0 0 nS) fun a3 S k=>?_
 have A:=bf k n_bm_gm u
 have B:=bf k n_bc_gm v
 refine bi ⟨(ae A rfl),(ae B rfl)⟩ fun a4=>re<|tn<|Rg 12 (fun w'=>w'.cell? ⟨bm,0,none⟩=some (vP gm 0)∧w'.cell? ⟨bc,0,none⟩=some (vP g 0)∧w'.cell? ⟨gm,7,none⟩=some (vW ((bI (C.wordsC 1) C.wordV 125).wordV))) fun a5 f=>?_
 have D:=ub f A
 have E:=ub f B
 have F:=ub f S
 refine bi ⟨(ae D rfl),(ae E rfl),(ae F rfl)⟩ fun b=>Rl 0 b (fun _ hs=>hs.1)<|Rl 1 b (fun _ hs=>hs.2.1)<|Rl 2 b (fun _ hs=>hs.2.1)<|Rl 3 b (fun _ hs=>hs.1)<|Rt 4 b<|Rt 5 b<|Rl 6 b (fun _ hs=>hs.2.2)<|?_
 have G:=aK k f
 refine R0 7 rfl<|Oc<|m3 (oc (a:=(bI (C.wordsC 1) C.wordV 125).wordV) (most:=121) (ah.upd R G (aa hne av) (am (b6 z (by decide)) aP)) (by omega)) fun a6 T i a7=>?_
 have H:=bf i n_bm_g D
 have I:=bf i n_bc_g E
 have J:=bf i (Ne.symm hne) F
 refine bi ⟨(ae H rfl),(ae I rfl),(ae J rfl)⟩ fun a8=>R0 8 rfl<|Oc<|tS (lh (n:=((bI (C.wordsC 1) C.wordV 125).wordsC 1).wordV) T (by omega)) fun U V a9 K ab ad W m=>?_
 have L:=bf m n_bm_g H
 have M:=bf m n_bc_g I
 have q:=bf m (Ne.symm hne) J
 refine bi ⟨(ae L rfl),(ae M rfl),(ae q rfl)⟩ fun N=>Rt 9 N<|Rt 10 N<|R0 11 rfl<|cA q 12 (mG c 0 C.wordV ((C.wordsC 1).wordV) 0 0 0 ((bI (C.wordsC 1) C.wordV 125).wordV) 0 0 0 0 (.slice U (((cK (bI ((bI (C.wordsC 1) C.wordV 125).wordsC 1) ((bI (C.wordsC 1) C.wordV 125).wordV) 121) (((bI (C.wordsC 1) C.wordV 125).wordsC 1).wordV)).wordsR (((bI (C.wordsC 1) C.wordV 125).wordsC 1).wordV)).length) V) nS nS nS 0 0 0 0 0 nS) fun af O l=>?_
 refine bi ⟨(ae (bf l n_bm_gm L) rfl),(ae (bf l n_bc_gm M) rfl),(ae O rfl)⟩ fun ai=>re<|rm (.tuple #[])<|?_
 have hs:fY c C=(((cK (bI ((bI (C.wordsC 1) C.wordV 125).wordsC 1) ((bI (C.wordsC 1) C.wordV 125).wordV) 121) (((bI (C.wordsC 1) C.wordV 125).wordsC 1).wordV)).wordsC (((bI (C.wordsC 1) C.wordV 125).wordsC 1).wordV)),(b7.mk c 0 C.wordV ((C.wordsC 1).wordV) 0 0 0 ((bI (C.wordsC 1) C.wordV 125).wordV) 0 0 0 0 ((cK (bI ((bI (C.wordsC 1) C.wordV 125).wordsC 1) ((bI (C.wordsC 1) C.wordV 125).wordV) 121) (((bI (C.wordsC 1) C.wordV 125).wordsC 1).wordV)).wordsR (((bI (C.wordsC 1) C.wordV 125).wordsC 1).wordV)) [] [] [] 0 0 0 0 0 [])):=by
   unfold fY iM uh gz
   (try simp only[bC,reduceIte])
   all_goals rfl
 rw[hs]
 exact⟨rfl,(ah.upd W l (aa hne av) (am (b6 q (by decide)) aP)),⟨_,⟨O,rfl⟩,⟨_,_,_,_,_,rfl,(aQ.hi (ak K l (fun x hx=>(aa (fun e=>(az (ag hm) (le (le (le (le (le o.size j.size) d.size) k.size) f.size) i.size) K) (e▸hx)) av)) (fun _ _ h=>h)) (le (le (le (le (le o.size j.size) d.size) k.size) f.size) i.size)),aT.nil ..,aT.nil ..,aT.nil ..,aT.nil ..,(eR (by omega))⟩⟩,(ut p (ui d (ui G (ui i (us m l)))) (ac im (ac im aC)))⟩
theorem Fu(hcode:B8 c)(hC:ah w g C)(hm:w.heap[gm]? = some (.cells (mC c) 45 (0,0)))(hne:g≠gm)   (hbc:w.heap[bc]? = some (.cells #[vP g 0] 164 (0,0)))(n_bc_g:bc≠g)(n_bc_gm:bc≠gm)(hbm:w.heap[bm]? = some (.cells #[vP gm 0] 166 (0,0)))(n_bm_g:bm≠g)(n_bm_gm:bm≠gm) :
    Calls Tryz.prog 208 #[vP bc 0,vP bm 0] w (cg g gm (fV c C).1 (fV c C).2 w):=by
 obtain⟨hcode1,hcode2⟩:=hcode
 have hlen:=hC.len
 refine en 7 Tryz.func208 rfl<|Rg 6 (fun w'=>w'.cell? ⟨bm,0,none⟩=some (vP gm 0)∧w'.cell? ⟨bc,0,none⟩=some (vP g 0)) fun p a=>?_
 have e:=ub a hbm
 have f:=ub a hbc
 refine bi ⟨(ae e rfl),(ae f rfl)⟩ fun h=>Rl 0 h (fun _ hs=>hs.1)<|Rl 1 h (fun _ hs=>hs.2)<|?_
 refine R0 2 rfl<|Oc<|m3 (bK (ah.old hC a)) fun q n d r=>?_
 have i:=bf d n_bm_g e
 have j:=bf d n_bc_g f
 refine bi ⟨(ae i rfl),(ae j rfl)⟩ fun k=>Rt 3 k<|Rt 4 k<|?_
 have l:=uz a d
 have m:=bf l (Ne.symm hne) hm
 refine R0 5 rfl<|cA m 2 (mG c 0 C.wordV 0 0 0 0 0 0 0 0 0 nS nS nS nS 0 0 0 0 0 nS) fun s o b=>?_
 refine bi ⟨(ae (bf b n_bm_gm i) rfl),(ae (bf b n_bc_gm j) rfl)⟩ fun t=>re<|rm (.tuple #[])<|?_
 have hs:fV c C=((C.wordsC 1),(b7.mk c 0 C.wordV 0 0 0 0 0 0 0 0 0 [] [] [] [] 0 0 0 0 0 [])):=by
   unfold fV
   (try simp only[bC,reduceIte])
   all_goals rfl
 rw[hs]
 exact⟨rfl,(ah.upd n b (aa hne av) (am (b6 m (by decide)) aP)),⟨_,⟨o,rfl⟩,⟨_,_,_,_,_,rfl,aT.nil ..,aT.nil ..,aT.nil ..,aT.nil ..,aT.nil ..,(eR (by omega))⟩⟩,(us l b)⟩
theorem Fb(hcode:B8 c)(hC:ah w g C)(hm:w.heap[gm]? = some (.cells (mC c) 45 (0,0)))(hne:g≠gm)   (hbc:w.heap[bc]? = some (.cells #[vP g 0] 164 (0,0)))(n_bc_g:bc≠g)(n_bc_gm:bc≠gm)(hbm:w.heap[bm]? = some (.cells #[vP gm 0] 166 (0,0)))(n_bm_g:bm≠g)(n_bm_gm:bm≠gm) :
    Calls Tryz.prog 209 #[vP bc 0,vP bm 0] w (cg g gm (zr c C).1 (zr c C).2 w):=by
 obtain⟨hcode1,hcode2⟩:=hcode
 have hlen:=hC.len
 refine en 36 Tryz.func209 rfl<|sg<|aD hbc 0<|aG<|m3 (bK hC) fun S D i T=>bD C.wordV<|Pl 1<|ng<|?_
 have j:=bf i n_bc_g hbc
 refine aD j 0<|Pl 1<|L0<|Oe (vI (Int.tmod C.wordV 2)) (vI (C.wordV%2)) (congrArg (Value.int .i64) (Int.tmod_eq_emod_of_nonneg (by omega)))<|Pl 2<|ij 3 [11] 14 11 ((C.wordV%2)==0) (decide (2≤C.wordV)) (fun K E F=>?_) ?_
 have U:=aI F
 exact Pl 3<|ce E _ rfl
 refine Pl 1<|ij 3 [15] 18 15 (((C.wordV%2)==0)&&(decide (2≤C.wordV))) (decide (C.wordV≤64)) (fun K G k=>?_) ?_
 have H:=(bW k).1
 have I:=(bW k).2
 have V:=aI H
 have W:=of_decide_eq_true I
 exact Pl 3<|ce G _ rfl
 refine aG<|m2 (aY (((((C.wordV%2)==0)&&(decide (2≤C.wordV)))&&(decide (C.wordV≤64)))) 5 D) fun X J l=>ng<|?_
 have m:=bf l n_bc_g j
 refine aD m 0<|aG<|m3 (bK J) fun Y L o Z=>bD (((C.wordsC 1).need ((((C.wordV%2)==0)&&(decide (2≤C.wordV)))&&(decide (C.wordV≤64))) 5).wordV)<|Pl 1<|ng<|?_
 have p:=bf o n_bc_g m
 refine aD p 0<|Pl 1<|bD (2*(((C.wordsC 1).need ((((C.wordV%2)==0)&&(decide (2≤C.wordV)))&&(decide (C.wordV≤64))) 5).wordV))<|bD (2+(2*(((C.wordsC 1).need ((((C.wordV%2)==0)&&(decide (2≤C.wordV)))&&(decide (C.wordV≤64))) 5).wordV)))<|Pl 2<|aG<|m2 (aY (((2+(2*(((C.wordsC 1).need ((((C.wordV%2)==0)&&(decide (2≤C.wordV)))&&(decide (C.wordV≤64))) 5).wordV)))==C.wordV)) 5 L) fun a0 M N=>nt<|Rg 7 (fun w'=>w'.cell? ⟨bm,0,none⟩=some (vP gm 0)∧w'.cell? ⟨bc,0,none⟩=some (vP g 0)) fun a1 q=>?_
 have r:=aK N q
 have b:=u1 i (u1 l (u1 o r im) im) im
 have s:=bf b n_bm_g hbm
 have t:=bf r n_bc_g p
 refine bi ⟨(ae s rfl),(ae t rfl)⟩ fun d=>Rl 0 d (fun _ hs=>hs.1)<|Rl 1 d (fun _ hs=>hs.2)<|Rt 2 d<|?_
 refine R0 3 rfl<|Oc<|tS (ek (n:=((C.wordsC 1).need ((((C.wordV%2)==0)&&(decide (2≤C.wordV)))&&(decide (C.wordV≤64))) 5).wordV) (ah.old M q)) fun O P a2 u a3 a4 Q f=>?_
 have v:=bf f n_bm_g s
 have y:=bf f n_bc_g t
 refine bi ⟨(ae v rfl),(ae y rfl)⟩ fun z=>Rt 4 z<|Rt 5 z<|?_
 have A:=u1 b f im
 have B:=bf A (Ne.symm hne) hm
 refine R0 6 rfl<|cA B 12 (mG c 0 0 0 0 0 0 0 0 0 0 0 (.slice O ((((((C.wordsC 1).need ((((C.wordV%2)==0)&&(decide (2≤C.wordV)))&&(decide (C.wordV≤64))) 5).wordsC 1).need ((2+(2*(((C.wordsC 1).need ((((C.wordV%2)==0)&&(decide (2≤C.wordV)))&&(decide (C.wordV≤64))) 5).wordV)))==C.wordV) 5).wordsR (((C.wordsC 1).need ((((C.wordV%2)==0)&&(decide (2≤C.wordV)))&&(decide (C.wordV≤64))) 5).wordV)).length) P) nS nS nS 0 0 0 0 0 nS) fun a5 R a=>?_
 refine bi ⟨(ae (bf a n_bm_gm v) rfl),(ae (bf a n_bc_gm y) rfl)⟩ fun a6=>re<|rm (.tuple #[])<|?_
 exact dQ (by unfold zr BD uJ kV;(try simp only[bC,reduceIte])<;>rfl) ⟨rfl,(ah.upd Q a (aa hne av) (am (b6 B (by decide)) aP)),⟨_,⟨R,rfl⟩,⟨_,_,_,_,_,rfl,(aQ.hi (ak u a (fun x hx=>(aa (fun e=>(az (ag hm) b.size u) (e▸hx)) av)) (fun _ _ h=>h)) b.size),aT.nil ..,aT.nil ..,aT.nil ..,aT.nil ..,(eR (by omega))⟩⟩,(us A a)⟩
open Go.RowKit
theorem vT(hC:ah w g C)(hm:w.heap[gm]? = some (.cells (mC 3) 45 (0,0)))(hne:g≠gm) : Calls Tryz.prog 148 #[vI 0,vP gm 0,vP g 0] w (jF (fun W=>cg g gm (d6 125 3 C).1 (d6 125 3 C).2 W) w):=by
 refine en 67 Tryz.func148 rfl<|sg<|L0<|cX #[vP gm 0] fun n D f o a=>L0<|cX #[vP g 0] fun p E h q b=>Pl 1<|aU 1<|aO #[.nilFunc] fun r F d s t=>L0<|cA s 0 #[.func (.func 198) #[] #[vP p 0,vP n 0]] fun G u v=>nl<|tn<|aA 2<|aO #[.bool false] fun H I x y z=>L0<|cA y 0 #[.bool true] fun J A B=>nt<|sq<|sg<|?_
 have i:=ud z B x
 have j:=ud t (aK v i) d
 have k:=aK b j
 have l:=ub k o
 refine aD l 0<|Pl 2<|?_
 have e:=aK a k
 have m:=ub e hm
 refine aD m 0<|al 1<|bk<|sg<|aD A 0<|al 9<|c1<|aB 2<|rt<|br<|tr<|rr (.func (.func 200) #[] #[vP r 0])<|?_
 exact⟨_,_,rfl,by kernel_rfl,e,ET (c:=3) ⟨by decide,by decide⟩ (ah.old hC e) m hne (ub j q) (Ne.symm (nb (ah.lt hC) a.size h)) (Ne.symm (nb (ag hm) a.size h)) l (Ne.symm (nb (ah.lt hC) lr f)) (Ne.symm (nb (ag hm) lr f)) (ub i u) (Ne.symm (nb (ah.lt hC) (le a.size b.size) d)) (Ne.symm (nb (ag hm) (le a.size b.size) d))⟩
theorem v6(hC:ah w g C)(hm:w.heap[gm]? = some (.cells (mC 4) 45 (0,0)))(hne:g≠gm) : Calls Tryz.prog 148 #[vI 0,vP gm 0,vP g 0] w (jF (fun W=>cg g gm (d6 125 4 C).1 (d6 125 4 C).2 W) w):=by
 refine en 67 Tryz.func148 rfl<|sg<|L0<|cX #[vP gm 0] fun n D f o a=>L0<|cX #[vP g 0] fun p E h q b=>Pl 1<|aU 1<|aO #[.nilFunc] fun r F d s t=>L0<|cA s 0 #[.func (.func 198) #[] #[vP p 0,vP n 0]] fun G u v=>nl<|tn<|aA 2<|aO #[.bool false] fun H I x y z=>L0<|cA y 0 #[.bool true] fun J A B=>nt<|sq<|sg<|?_
 have i:=ud z B x
 have j:=ud t (aK v i) d
 have k:=aK b j
 have l:=ub k o
 refine aD l 0<|Pl 2<|?_
 have e:=aK a k
 have m:=ub e hm
 refine aD m 0<|al 1<|bk<|sg<|aD A 0<|al 9<|c1<|aB 2<|rt<|br<|tr<|rr (.func (.func 200) #[] #[vP r 0])<|?_
 exact⟨_,_,rfl,by kernel_rfl,e,ET (c:=4) ⟨by decide,by decide⟩ (ah.old hC e) m hne (ub j q) (Ne.symm (nb (ah.lt hC) a.size h)) (Ne.symm (nb (ag hm) a.size h)) l (Ne.symm (nb (ah.lt hC) lr f)) (Ne.symm (nb (ag hm) lr f)) (ub i u) (Ne.symm (nb (ah.lt hC) (le a.size b.size) d)) (Ne.symm (nb (ag hm) (le a.size b.size) d))⟩
theorem we(hC:ah w g C)(hm:w.heap[gm]? = some (.cells (mC 3) 45 (0,0)))(hne:g≠gm) : Calls Tryz.prog 148 #[vI 1,vP gm 0,vP g 0] w (jF (fun W=>cg g gm (dT 3 C).1 (dT 3 C).2 W) w):=by
 refine en 67 Tryz.func148 rfl<|sg<|L0<|cX #[vP gm 0] fun d z e m a=>L0<|cX #[vP g 0] fun f A h n o=>Pl 1<|aU 1<|aO #[.nilFunc] fun B D p q r=>L0<|cA q 0 #[.func (.func 198) #[] #[vP f 0,vP d 0]] fun E F s=>nl<|tn<|aA 2<|aO #[.bool false] fun G H t u v=>L0<|cA u 0 #[.bool false] fun I x y=>nt<|sq<|sg<|?_
 have i:=ud r (aK s (ud v y t)) p
 have j:=aK o i
 have k:=ub j m
 refine aD k 0<|Pl 2<|?_
 have b:=aK a j
 have l:=ub b hm
 refine aD l 0<|al 1<|bk<|sg<|aD x 0<|al 9<|c0<|sq<|sq<|go<|al 3<|c1<|bM<|c1<|aB 2<|rt<|br<|tr<|rr (.func (.func 201) #[] #[vP f 0,vP d 0])<|?_
 exact⟨_,_,rfl,by kernel_rfl,b,Eh (c:=3) ⟨by decide,by decide⟩ (ah.old hC b) l hne (ub i n) (Ne.symm (nb (ah.lt hC) a.size h)) (Ne.symm (nb (ag hm) a.size h)) k (Ne.symm (nb (ah.lt hC) lr e)) (Ne.symm (nb (ag hm) lr e))⟩
theorem vt(hC:ah w g C)(hm:w.heap[gm]? = some (.cells (mC 4) 45 (0,0)))(hne:g≠gm) : Calls Tryz.prog 148 #[vI 1,vP gm 0,vP g 0] w (jF (fun W=>cg g gm (dT 4 C).1 (dT 4 C).2 W) w):=by
 refine en 67 Tryz.func148 rfl<|sg<|L0<|cX #[vP gm 0] fun d z e m a=>L0<|cX #[vP g 0] fun f A h n o=>Pl 1<|aU 1<|aO #[.nilFunc] fun B D p q r=>L0<|cA q 0 #[.func (.func 198) #[] #[vP f 0,vP d 0]] fun E F s=>nl<|tn<|aA 2<|aO #[.bool false] fun G H t u v=>L0<|cA u 0 #[.bool false] fun I x y=>nt<|sq<|sg<|?_
 have i:=ud r (aK s (ud v y t)) p
 have j:=aK o i
 have k:=ub j m
 refine aD k 0<|Pl 2<|?_
 have b:=aK a j
 have l:=ub b hm
 refine aD l 0<|al 1<|bk<|sg<|aD x 0<|al 9<|c0<|sq<|sq<|go<|al 3<|c0<|aB 3<|c1<|bM<|c1<|aB 2<|rt<|br<|tr<|rr (.func (.func 201) #[] #[vP f 0,vP d 0])<|?_
 exact⟨_,_,rfl,by kernel_rfl,b,Eh (c:=4) ⟨by decide,by decide⟩ (ah.old hC b) l hne (ub i n) (Ne.symm (nb (ah.lt hC) a.size h)) (Ne.symm (nb (ag hm) a.size h)) k (Ne.symm (nb (ah.lt hC) lr e)) (Ne.symm (nb (ag hm) lr e))⟩
theorem ws(hC:ah w g C)(hm:w.heap[gm]? = some (.cells (mC 6) 45 (0,0)))(hne:g≠gm) : Calls Tryz.prog 148 #[vI 0,vP gm 0,vP g 0] w (jF (fun W=>cg g gm (i4 6 C).1 (i4 6 C).2 W) w):=by
 refine en 67 Tryz.func148 rfl<|sg<|L0<|cX #[vP gm 0] fun d z e m a=>L0<|cX #[vP g 0] fun f A h n o=>Pl 1<|aU 1<|aO #[.nilFunc] fun B D p q r=>L0<|cA q 0 #[.func (.func 198) #[] #[vP f 0,vP d 0]] fun E F s=>nl<|tn<|aA 2<|aO #[.bool false] fun G H t u v=>L0<|cA u 0 #[.bool true] fun I x y=>nt<|sq<|sg<|?_
 have i:=ud r (aK s (ud v y t)) p
 have j:=aK o i
 have k:=ub j m
 refine aD k 0<|Pl 2<|?_
 have b:=aK a j
 have l:=ub b hm
 refine aD l 0<|al 1<|bk<|sg<|aD x 0<|al 9<|c0<|sq<|sq<|go<|al 3<|c0<|aB 3<|c0<|go<|Pl 7<|nl<|tn<|c0<|aB 3<|c1<|aB 2<|rt<|br<|tr<|rr (.func (.func 203) #[] #[vP f 0,vP d 0])<|?_
 exact⟨_,_,rfl,by kernel_rfl,b,EV (c:=6) ⟨by decide,by decide⟩ (ah.old hC b) l hne (ub i n) (Ne.symm (nb (ah.lt hC) a.size h)) (Ne.symm (nb (ag hm) a.size h)) k (Ne.symm (nb (ah.lt hC) lr e)) (Ne.symm (nb (ag hm) lr e))⟩
theorem vN(hC:ah w g C)(hm:w.heap[gm]? = some (.cells (mC 6) 45 (0,0)))(hne:g≠gm) : Calls Tryz.prog 148 #[vI 1,vP gm 0,vP g 0] w (jF (fun W=>cg g gm (i4 6 C).1 (i4 6 C).2 W) w):=by
 refine en 67 Tryz.func148 rfl<|sg<|L0<|cX #[vP gm 0] fun d z e m a=>L0<|cX #[vP g 0] fun f A h n o=>Pl 1<|aU 1<|aO #[.nilFunc] fun B D p q r=>L0<|cA q 0 #[.func (.func 198) #[] #[vP f 0,vP d 0]] fun E F s=>nl<|tn<|aA 2<|aO #[.bool false] fun G H t u v=>L0<|cA u 0 #[.bool false] fun I x y=>nt<|sq<|sg<|?_
 have i:=ud r (aK s (ud v y t)) p
 have j:=aK o i
 have k:=ub j m
 refine aD k 0<|Pl 2<|?_
 have b:=aK a j
 have l:=ub b hm
 refine aD l 0<|al 1<|bk<|sg<|aD x 0<|al 9<|c0<|sq<|sq<|go<|al 3<|c0<|aB 3<|c0<|go<|Pl 7<|nl<|tn<|c0<|aB 3<|c1<|aB 2<|rt<|br<|tr<|rr (.func (.func 203) #[] #[vP f 0,vP d 0])<|?_
 exact⟨_,_,rfl,by kernel_rfl,b,EV (c:=6) ⟨by decide,by decide⟩ (ah.old hC b) l hne (ub i n) (Ne.symm (nb (ah.lt hC) a.size h)) (Ne.symm (nb (ag hm) a.size h)) k (Ne.symm (nb (ah.lt hC) lr e)) (Ne.symm (nb (ag hm) lr e))⟩
theorem sr(hC:ah w g C)(hm:w.heap[gm]? = some (.cells (mC 16) 45 (0,0)))(hne:g≠gm) : Calls Tryz.prog 148 #[vI 0,vP gm 0,vP g 0] w (jF (fun W=>cg g gm (fI 16 C).1 (fI 16 C).2 W) w):=by
 refine en 67 Tryz.func148 rfl<|sg<|L0<|cX #[vP gm 0] fun j E k t a=>L0<|cX #[vP g 0] fun l F m u b=>Pl 1<|aU 1<|aO #[.nilFunc] fun v G d x e=>L0<|cA x 0 #[.func (.func 198) #[] #[vP l 0,vP j 0]] fun H y f=>nl<|tn<|aA 2<|aO #[.bool false] fun z I h A B=>L0<|cA A 0 #[.bool true] fun J n D=>nt<|sq<|sg<|?_
 have o:=ud B D h
 have p:=ud e (aK f o) d
 have q:=aK b p
 have r:=ub q t
 refine aD r 0<|Pl 2<|?_
 have i:=aK a q
 have s:=ub i hm
 refine aD s 0<|al 1<|bk<|sg<|aD n 0<|al 9<|c0<|sq<|sq<|go<|al 3<|c0<|aB 3<|c0<|go<|Pl 7<|nl<|tn<|c0<|aB 3<|c0<|aB 3<|c1<|aB 2<|rt<|br<|tr<|rr (.func (.func 204) #[] #[vP v 0,vP z 0,vP l 0,vP j 0])<|?_
 exact⟨_,_,rfl,by kernel_rfl,i,Ez (c:=16) ⟨by decide,by decide⟩ (ah.old hC i) s hne (ub p u) (Ne.symm (nb (ah.lt hC) a.size m)) (Ne.symm (nb (ag hm) a.size m)) r (Ne.symm (nb (ah.lt hC) lr k)) (Ne.symm (nb (ag hm) lr k)) (ub o y) (Ne.symm (nb (ah.lt hC) (le a.size b.size) d)) (Ne.symm (nb (ag hm) (le a.size b.size) d)) n (Ne.symm (nb (ah.lt hC) (le (le (le a.size b.size) e.size) f.size) h)) (Ne.symm (nb (ag hm) (le (le (le a.size b.size) e.size) f.size) h)) rfl⟩
theorem th(hC:ah w g C)(hm:w.heap[gm]? = some (.cells (mC 16) 45 (0,0)))(hne:g≠gm) : Calls Tryz.prog 148 #[vI 1,vP gm 0,vP g 0] w (jF (fun W=>cg g gm (d6 123 16 C).1 (d6 123 16 C).2 W) w):=by
 refine en 67 Tryz.func148 rfl<|sg<|L0<|cX #[vP gm 0] fun j E k t a=>L0<|cX #[vP g 0] fun l F m u b=>Pl 1<|aU 1<|aO #[.nilFunc] fun v G d x e=>L0<|cA x 0 #[.func (.func 198) #[] #[vP l 0,vP j 0]] fun H y f=>nl<|tn<|aA 2<|aO #[.bool false] fun z I h A B=>L0<|cA A 0 #[.bool false] fun J n D=>nt<|sq<|sg<|?_
 have o:=ud B D h
 have p:=ud e (aK f o) d
 have q:=aK b p
 have r:=ub q t
 refine aD r 0<|Pl 2<|?_
 have i:=aK a q
 have s:=ub i hm
 refine aD s 0<|al 1<|bk<|sg<|aD n 0<|al 9<|c0<|sq<|sq<|go<|al 3<|c0<|aB 3<|c0<|go<|Pl 7<|nl<|tn<|c0<|aB 3<|c0<|aB 3<|c1<|aB 2<|rt<|br<|tr<|rr (.func (.func 204) #[] #[vP v 0,vP z 0,vP l 0,vP j 0])<|?_
 exact⟨_,_,rfl,by kernel_rfl,i,Ee (c:=16) ⟨by decide,by decide⟩ (ah.old hC i) s hne (ub p u) (Ne.symm (nb (ah.lt hC) a.size m)) (Ne.symm (nb (ag hm) a.size m)) r (Ne.symm (nb (ah.lt hC) lr k)) (Ne.symm (nb (ag hm) lr k)) (ub o y) (Ne.symm (nb (ah.lt hC) (le a.size b.size) d)) (Ne.symm (nb (ag hm) (le a.size b.size) d)) n (Ne.symm (nb (ah.lt hC) (le (le (le a.size b.size) e.size) f.size) h)) (Ne.symm (nb (ag hm) (le (le (le a.size b.size) e.size) f.size) h)) rfl⟩
theorem ti(hC:ah w g C)(hm:w.heap[gm]? = some (.cells (mC 22) 45 (0,0)))(hne:g≠gm) : Calls Tryz.prog 148 #[vI 0,vP gm 0,vP g 0] w (jF (fun W=>cg g gm (eX 22 C).1 (eX 22 C).2 W) w):=by
 refine en 67 Tryz.func148 rfl<|sg<|L0<|cX #[vP gm 0] fun d z e m a=>L0<|cX #[vP g 0] fun f A h n o=>Pl 1<|aU 1<|aO #[.nilFunc] fun B D p q r=>L0<|cA q 0 #[.func (.func 198) #[] #[vP f 0,vP d 0]] fun E F s=>nl<|tn<|aA 2<|aO #[.bool false] fun G H t u v=>L0<|cA u 0 #[.bool true] fun I x y=>nt<|sq<|sg<|?_
 have i:=ud r (aK s (ud v y t)) p
 have j:=aK o i
 have k:=ub j m
 refine aD k 0<|Pl 2<|?_
 have b:=aK a j
 have l:=ub b hm
 refine aD l 0<|al 1<|bk<|sg<|aD x 0<|al 9<|c0<|sq<|sq<|go<|al 3<|c0<|aB 3<|c0<|go<|Pl 7<|nl<|tn<|c0<|aB 3<|c0<|aB 3<|c0<|aB 3<|c1<|aB 2<|rt<|br<|tr<|rr (.func (.func 206) #[] #[vP f 0,vP d 0])<|?_
 exact⟨_,_,rfl,by kernel_rfl,b,EU (c:=22) ⟨by decide,by decide⟩ (ah.old hC b) l hne (ub i n) (Ne.symm (nb (ah.lt hC) a.size h)) (Ne.symm (nb (ag hm) a.size h)) k (Ne.symm (nb (ah.lt hC) lr e)) (Ne.symm (nb (ag hm) lr e))⟩
theorem sn(hC:ah w g C)(hm:w.heap[gm]? = some (.cells (mC 22) 45 (0,0)))(hne:g≠gm) : Calls Tryz.prog 148 #[vI 1,vP gm 0,vP g 0] w (jF (fun W=>cg g gm (eX 22 C).1 (eX 22 C).2 W) w):=by
 refine en 67 Tryz.func148 rfl<|sg<|L0<|cX #[vP gm 0] fun d z e m a=>L0<|cX #[vP g 0] fun f A h n o=>Pl 1<|aU 1<|aO #[.nilFunc] fun B D p q r=>L0<|cA q 0 #[.func (.func 198) #[] #[vP f 0,vP d 0]] fun E F s=>nl<|tn<|aA 2<|aO #[.bool false] fun G H t u v=>L0<|cA u 0 #[.bool false] fun I x y=>nt<|sq<|sg<|?_
 have i:=ud r (aK s (ud v y t)) p
 have j:=aK o i
 have k:=ub j m
 refine aD k 0<|Pl 2<|?_
 have b:=aK a j
 have l:=ub b hm
 refine aD l 0<|al 1<|bk<|sg<|aD x 0<|al 9<|c0<|sq<|sq<|go<|al 3<|c0<|aB 3<|c0<|go<|Pl 7<|nl<|tn<|c0<|aB 3<|c0<|aB 3<|c0<|aB 3<|c1<|aB 2<|rt<|br<|tr<|rr (.func (.func 206) #[] #[vP f 0,vP d 0])<|?_
 exact⟨_,_,rfl,by kernel_rfl,b,EU (c:=22) ⟨by decide,by decide⟩ (ah.old hC b) l hne (ub i n) (Ne.symm (nb (ah.lt hC) a.size h)) (Ne.symm (nb (ag hm) a.size h)) k (Ne.symm (nb (ah.lt hC) lr e)) (Ne.symm (nb (ag hm) lr e))⟩
theorem sK(hC:ah w g C)(hm:w.heap[gm]? = some (.cells (mC 23) 45 (0,0)))(hne:g≠gm) : Calls Tryz.prog 148 #[vI 0,vP gm 0,vP g 0] w (jF (fun W=>cg g gm (fY 23 C).1 (fY 23 C).2 W) w):=by
 refine en 67 Tryz.func148 rfl<|sg<|L0<|cX #[vP gm 0] fun f D h q a=>L0<|cX #[vP g 0] fun i E j r b=>Pl 1<|aU 1<|aO #[.nilFunc] fun s F d t u=>L0<|cA t 0 #[.func (.func 198) #[] #[vP i 0,vP f 0]] fun G v x=>nl<|tn<|aA 2<|aO #[.bool false] fun H I y z A=>L0<|cA z 0 #[.bool true] fun J k B=>nt<|sq<|sg<|?_
 have l:=ud A B y
 have m:=ud u (aK x l) d
 have n:=aK b m
 have o:=ub n q
 refine aD o 0<|Pl 2<|?_
 have e:=aK a n
 have p:=ub e hm
 refine aD p 0<|al 1<|bk<|sg<|aD k 0<|al 9<|c0<|sq<|sq<|go<|al 3<|c0<|aB 3<|c0<|go<|Pl 3<|L1<|iH k 0<|al 3<|c0<|aB 3<|c0<|aA 3<|nl<|tn<|c0<|aB 3<|c0<|aB 3<|c1<|aB 2<|rt<|br<|tr<|rr (.func (.func 207) #[] #[vP s 0,vP i 0,vP f 0])<|?_
 exact⟨_,_,rfl,by kernel_rfl,e,F8 (c:=23) ⟨by decide,by decide⟩ (ah.old hC e) p hne (ub m r) (Ne.symm (nb (ah.lt hC) a.size j)) (Ne.symm (nb (ag hm) a.size j)) o (Ne.symm (nb (ah.lt hC) lr h)) (Ne.symm (nb (ag hm) lr h)) (ub l v) (Ne.symm (nb (ah.lt hC) (le a.size b.size) d)) (Ne.symm (nb (ag hm) (le a.size b.size) d))⟩
theorem rN(hC:ah w g C)(hm:w.heap[gm]? = some (.cells (mC 23) 45 (0,0)))(hne:g≠gm) : Calls Tryz.prog 148 #[vI 1,vP gm 0,vP g 0] w (jF (fun W=>cg g gm (dT 23 C).1 (dT 23 C).2 W) w):=by
 refine en 67 Tryz.func148 rfl<|sg<|L0<|cX #[vP gm 0] fun d z e n a=>L0<|cX #[vP g 0] fun f A h o p=>Pl 1<|aU 1<|aO #[.nilFunc] fun B D q r s=>L0<|cA r 0 #[.func (.func 198) #[] #[vP f 0,vP d 0]] fun E F t=>nl<|tn<|aA 2<|aO #[.bool false] fun G H u v x=>L0<|cA v 0 #[.bool false] fun I i y=>nt<|sq<|sg<|?_
 have j:=ud s (aK t (ud x y u)) q
 have k:=aK p j
 have l:=ub k n
 refine aD l 0<|Pl 2<|?_
 have b:=aK a k
 have m:=ub b hm
 refine aD m 0<|al 1<|bk<|sg<|aD i 0<|al 9<|c0<|sq<|sq<|go<|al 3<|c0<|aB 3<|c0<|go<|Pl 3<|L1<|iH i 0<|al 3<|c1<|aB 2<|rt<|br<|tr<|rr (.func (.func 201) #[] #[vP f 0,vP d 0])<|?_
 exact⟨_,_,rfl,by kernel_rfl,b,Eh (c:=23) ⟨by decide,by decide⟩ (ah.old hC b) m hne (ub j o) (Ne.symm (nb (ah.lt hC) a.size h)) (Ne.symm (nb (ag hm) a.size h)) l (Ne.symm (nb (ah.lt hC) lr e)) (Ne.symm (nb (ag hm) lr e))⟩
theorem tf(hC:ah w g C)(hm:w.heap[gm]? = some (.cells (mC 24) 45 (0,0)))(hne:g≠gm) : Calls Tryz.prog 148 #[vI 0,vP gm 0,vP g 0] w (jF (fun W=>cg g gm (fV 24 C).1 (fV 24 C).2 W) w):=by
 refine en 67 Tryz.func148 rfl<|sg<|L0<|cX #[vP gm 0] fun d z e n a=>L0<|cX #[vP g 0] fun f A h o p=>Pl 1<|aU 1<|aO #[.nilFunc] fun B D q r s=>L0<|cA r 0 #[.func (.func 198) #[] #[vP f 0,vP d 0]] fun E F t=>nl<|tn<|aA 2<|aO #[.bool false] fun G H u v x=>L0<|cA v 0 #[.bool true] fun I i y=>nt<|sq<|sg<|?_
 have j:=ud s (aK t (ud x y u)) q
 have k:=aK p j
 have l:=ub k n
 refine aD l 0<|Pl 2<|?_
 have b:=aK a k
 have m:=ub b hm
 refine aD m 0<|al 1<|bk<|sg<|aD i 0<|al 9<|c0<|sq<|sq<|go<|al 3<|c0<|aB 3<|c0<|go<|Pl 7<|nl<|tn<|c0<|aB 3<|c0<|aB 3<|c0<|aB 3<|c0<|aB 3<|c0<|aA 3<|L1<|iH i 0<|al 2<|c1<|aB 2<|rt<|br<|tr<|rr (.func (.func 208) #[] #[vP f 0,vP d 0])<|?_
 exact⟨_,_,rfl,by kernel_rfl,b,Fu (c:=24) ⟨by decide,by decide⟩ (ah.old hC b) m hne (ub j o) (Ne.symm (nb (ah.lt hC) a.size h)) (Ne.symm (nb (ag hm) a.size h)) l (Ne.symm (nb (ah.lt hC) lr e)) (Ne.symm (nb (ag hm) lr e))⟩
theorem rY(hC:ah w g C)(hm:w.heap[gm]? = some (.cells (mC 24) 45 (0,0)))(hne:g≠gm) : Calls Tryz.prog 148 #[vI 1,vP gm 0,vP g 0] w (jF (fun W=>cg g gm (zr 24 C).1 (zr 24 C).2 W) w):=by
 refine en 67 Tryz.func148 rfl<|sg<|L0<|cX #[vP gm 0] fun d z e n a=>L0<|cX #[vP g 0] fun f A h o p=>Pl 1<|aU 1<|aO #[.nilFunc] fun B D q r s=>L0<|cA r 0 #[.func (.func 198) #[] #[vP f 0,vP d 0]] fun E F t=>nl<|tn<|aA 2<|aO #[.bool false] fun G H u v x=>L0<|cA v 0 #[.bool false] fun I i y=>nt<|sq<|sg<|?_
 have j:=ud s (aK t (ud x y u)) q
 have k:=aK p j
 have l:=ub k n
 refine aD l 0<|Pl 2<|?_
 have b:=aK a k
 have m:=ub b hm
 refine aD m 0<|al 1<|bk<|sg<|aD i 0<|al 9<|c0<|sq<|sq<|go<|al 3<|c0<|aB 3<|c0<|go<|Pl 7<|nl<|tn<|c0<|aB 3<|c0<|aB 3<|c0<|aB 3<|c0<|aB 3<|c0<|aA 3<|L1<|iH i 0<|al 2<|c0<|aB 3<|c1<|aB 2<|rt<|br<|tr<|rr (.func (.func 209) #[] #[vP f 0,vP d 0])<|?_
 exact⟨_,_,rfl,by kernel_rfl,b,Fb (c:=24) ⟨by decide,by decide⟩ (ah.old hC b) m hne (ub j o) (Ne.symm (nb (ah.lt hC) a.size h)) (Ne.symm (nb (ag hm) a.size h)) l (Ne.symm (nb (ah.lt hC) lr e)) (Ne.symm (nb (ag hm) lr e))⟩
theorem sD(hC:ah w g C)(hm:w.heap[gm]? = some (.cells (mC c) 45 (0,0)))(hne:g≠gm)(k3:(c==3)=false)(k4:(c==4)=false)(k6:(c==6)=false)(f:(c==16)=false)(h:(c==22)=false)(a:(c==23)=false)(b:(c==24)=false) : Calls Tryz.prog 148 #[vI 0,vP gm 0,vP g 0] w (bS .nilFunc w):=by
 refine en 67 Tryz.func148 rfl<|sg<|L0<|cX #[vP gm 0] fun i x y j k=>L0<|cX #[vP g 0] fun l z A B m=>Pl 1<|aU 1<|aO #[.nilFunc] fun D E n o p=>L0<|cA o 0 #[.func (.func 198) #[] #[vP l 0,vP i 0]] fun F G q=>nl<|tn<|aA 2<|aO #[.bool false] fun H I r s t=>L0<|cA s 0 #[.bool true] fun J u v=>nt<|sq<|sg<|?_
 have d:=aK m (ud p (aK q (ud t v r)) n)
 refine aD (ub d j) 0<|Pl 2<|?_
 have e:=aK k d
 exact aD (ub e hm) 0<|al 1<|bk<|sg<|aD u 0<|Pl 4<|sy 22 k3<|al 5<|cf k4<|sq<|aB 3<|cf k3<|aB 3<|cf k4<|go<|Pl 3<|sy 35 a<|al 4<|c0<|aB 3<|cf k6<|aB 3<|cf f<|aB 3<|cf h<|aA 3<|nl<|tn<|cf a<|aA 3<|sy 59 b<|al 3<|c0<|aA 3<|nl<|tn<|cf b<|sk<|bn<|tn<|aB 1<|rt<|rr (.nilFunc)<|⟨rfl,e⟩
theorem sL(hC:ah w g C)(hm:w.heap[gm]? = some (.cells (mC c) 45 (0,0)))(hne:g≠gm)(k3:(c==3)=false)(k4:(c==4)=false)(k6:(c==6)=false)(f:(c==16)=false)(h:(c==22)=false)(a:(c==23)=false)(b:(c==24)=false) : Calls Tryz.prog 148 #[vI 1,vP gm 0,vP g 0] w (bS .nilFunc w):=by
 refine en 67 Tryz.func148 rfl<|sg<|L0<|cX #[vP gm 0] fun i x y j k=>L0<|cX #[vP g 0] fun l z A B m=>Pl 1<|aU 1<|aO #[.nilFunc] fun D E n o p=>L0<|cA o 0 #[.func (.func 198) #[] #[vP l 0,vP i 0]] fun F G q=>nl<|tn<|aA 2<|aO #[.bool false] fun H I r s t=>L0<|cA s 0 #[.bool false] fun J u v=>nt<|sq<|sg<|?_
 have d:=aK m (ud p (aK q (ud t v r)) n)
 refine aD (ub d j) 0<|Pl 2<|?_
 have e:=aK k d
 exact aD (ub e hm) 0<|al 1<|bk<|sg<|aD u 0<|al 9<|c0<|sq<|sq<|go<|al 3<|cf k3<|aB 3<|cf k4<|go<|Pl 3<|sy 35 a<|al 4<|c0<|aB 3<|cf k6<|aA 3<|nl<|tn<|cf f<|aB 3<|cf h<|aB 3<|cf a<|aA 3<|sy 59 b<|al 3<|c0<|aB 3<|cf b<|sk<|bn<|tn<|aB 1<|rt<|rr (.nilFunc)<|⟨rfl,e⟩
theorem np{r:aF × b7}    (hC:ah w g C)(hm:w.heap[gm]? = some (.cells (mC c) 45 (0,0)))(hne:g≠gm)(hd:dir=0∨dir=1)(h:ci dir c C=some r) : Calls Tryz.prog 148 #[.int .i64 dir,.pointer (some ⟨gm,0,none⟩),.pointer (some ⟨g,0,none⟩)] w (jF (fun W=>cg g gm r.1 r.2 W) w):=by
  by_cases h3:c=3
  · subst h3
    rcases hd with rfl|rfl
    · obtain rfl:d6 125 3 C=r:=Option.some.inj h
      exact vT hC hm hne
    · obtain rfl:dT 3 C=r:=Option.some.inj h
      exact we hC hm hne
  by_cases h4:c=4
  · subst h4
    rcases hd with rfl|rfl
    · obtain rfl:d6 125 4 C=r:=Option.some.inj h
      exact v6 hC hm hne
    · obtain rfl:dT 4 C=r:=Option.some.inj h
      exact vt hC hm hne
  by_cases h6:c=6
  · subst h6
    rcases hd with rfl|rfl
    · obtain rfl:i4 6 C=r:=Option.some.inj h
      exact ws hC hm hne
    · obtain rfl:i4 6 C=r:=Option.some.inj h
      exact vN hC hm hne
  by_cases a:c=16
  · subst a
    rcases hd with rfl|rfl
    · obtain rfl:fI 16 C=r:=Option.some.inj h
      exact sr hC hm hne
    · obtain rfl:d6 123 16 C=r:=Option.some.inj h
      exact th hC hm hne
  by_cases b:c=22
  · subst b
    rcases hd with rfl|rfl
    · obtain rfl:eX 22 C=r:=Option.some.inj h
      exact ti hC hm hne
    · obtain rfl:eX 22 C=r:=Option.some.inj h
      exact sn hC hm hne
  by_cases d:c=23
  · subst d
    rcases hd with rfl|rfl
    · obtain rfl:fY 23 C=r:=Option.some.inj h
      exact sK hC hm hne
    · obtain rfl:dT 23 C=r:=Option.some.inj h
      exact rN hC hm hne
  by_cases e:c=24
  · subst e
    rcases hd with rfl|rfl
    · obtain rfl:fV 24 C=r:=Option.some.inj h
      exact tf hC hm hne
    · obtain rfl:zr 24 C=r:=Option.some.inj h
      exact rY hC hm hne
  exfalso
  unfold ci at h
  simp[h3,h4,h6,a,b,d,e] at h
theorem mJ(hC:ah w g C)(hm:w.heap[gm]? = some (.cells (mC c) 45 (0,0)))(hne:g≠gm)(hd:dir=0∨dir=1)(h:ci dir c C=none) : Calls Tryz.prog 148 #[.int .i64 dir,.pointer (some ⟨gm,0,none⟩),.pointer (some ⟨g,0,none⟩)] w (bS .nilFunc w):=by
  have k3:(c==3)=false:=by
    cases hk:(c==3)
    · rfl
    · obtain rfl:c=3:=by simpa using hk
      rcases hd with rfl|rfl<;>cases h
  have k4:(c==4)=false:=by
    cases hk:(c==4)
    · rfl
    · obtain rfl:c=4:=by simpa using hk
      rcases hd with rfl|rfl<;>cases h
  have k6:(c==6)=false:=by
    cases hk:(c==6)
    · rfl
    · obtain rfl:c=6:=by simpa using hk
      rcases hd with rfl|rfl<;>cases h
  have a:(c==16)=false:=by
    cases hk:(c==16)
    · rfl
    · obtain rfl:c=16:=by simpa using hk
      rcases hd with rfl|rfl<;>cases h
  have b:(c==22)=false:=by
    cases hk:(c==22)
    · rfl
    · obtain rfl:c=22:=by simpa using hk
      rcases hd with rfl|rfl<;>cases h
  have d:(c==23)=false:=by
    cases hk:(c==23)
    · rfl
    · obtain rfl:c=23:=by simpa using hk
      rcases hd with rfl|rfl<;>cases h
  have e:(c==24)=false:=by
    cases hk:(c==24)
    · rfl
    · obtain rfl:c=24:=by simpa using hk
      rcases hd with rfl|rfl<;>cases h
  rcases hd with rfl|rfl
  · exact sD hC hm hne k3 k4 k6 a b d e
  · exact sL hC hm hne k3 k4 k6 a b d e
open Go.RowKit
theorem pl(hcode:B8 c)(hsl:aW m w (.slice A b.length cp) b)(hb:b.length≤1048576) :
    Calls Tryz.prog 98 #[vI 0,vB c,.slice A b.length cp] w (ef (aL ci 0 c b) w):=by
 obtain⟨hcode1,hcode2⟩:=hcode
 have hln:(b.length:Int)≤1048576:=by omega
 refine en 40 Tryz.func98 rfl<|sg<|aO mZ fun U V l i n=>al 1<|sq<|aB 6<|c0<|bM<|aA 2<|aO mZ fun W X g o y=>aN o (mC c) fun Y z j=>aU 1<|?_
 have h:=ud y j g
 have p:=aK n h
 refine aG<|e3 (dI (aW.old hsl p) (by omega)) fun Z a0 d B a=>Pl 1<|aU 2<|?_
 have C:=aK p a
 refine wo (ci 0 c ⟨b,false,0⟩) (fun hr=>?_) (fun r hr=>?_)
 refine aG<|m1 (mJ (dir:=0) (c:=c) B (ub a z) (Ne.symm (nb (ag o) j.size d)) (Or.inl rfl) hr) fun a1 D=>al 1<|sq<|aB 2<|c1<|aA 1<|?_
 refine aN (ub (aK h (aK a D)) i) mZ fun a2 L M=>al 1<|bQ<|eA L (vI 4)<|?_
 exact dQ (by unfold aL;(try simp only[bC,gT,gS,gQ,gR,gP,reduceIte,hr])<;>rfl) (cl (ud C (uz D M) l))
 have E:=nb (ag o) j.size d
 refine aG<|D8 (np (dir:=0) (c:=c) B (ub a z) (Ne.symm E) (Or.inl rfl) hr) fun N F a3 O q hcall51=>al 1<|sq<|aB 2<|c0<|bM<|sq<|go<|Pl 1<|L0<|gk (f:=N) (args:=F) (hf:=O) #[] F<|m3 (hcall51) fun a4 G P H=>?_
 obtain⟨Q,k,s⟩:=P
 refine aU 1<|aG<|m2 (eL G) fun a5 I t=>nt<|sq<|aA 1<|aG<|mq (cw I)<|?_
 have a6:=ah.len I
 refine Pl 1<|dK 2<|?_
 have u:=uz q (u1 H t im)
 have J:=ut C u (ac (ni p.size d) (ac (ni n.size g) aC))
 have hs:aL ci 0 c b=cL r.2 r.1:=by
   unfold aL
   (try simp only[bC,gT,gS,gQ,gR,gP,reduceIte,hr])
   all_goals rfl
 refine cb ((r.1.endC.e != 0)) (fun v=>?_) (fun v=>?_)
 have x:=aR v
 refine aA 2<|?_
 refine aN (ub (ud h (ud a u d) g) i) mZ fun a7 R S=>al 1<|bQ<|eA R (vI r.1.endC.e)<|?_
 rw[hs]
 exact d4 x (ud J S l)
 have x:=aZ v
 refine bM<|sg<|?_
 refine L0<|cM (hz:=(by rw[k.2];exact bv)) (bf t E k.1)<|?_
 refine aN (hz:=(by rw[k.2];exact bv)) (hv:=s.size) (h1:=s.one) (ub (ud h (ud a u d) g) i) (Q) fun a8 T K=>al 1<|rt<|ke 22 k.2 T (vI 0)<|?_
 rw[hs]
 exact dB x (aH.lo (aH.upd s (us t K) (am (ah.safe G _ (by decide)) (am (b6 (ub (ud h (ud a (uz q H) d) g) i) (by decide)) aP))) (le (le (le (le n.size y.size) j.size) a.size) q.size)) (ud J K l)
theorem pm(hcode:B8 c)(hsl:aW m w (.slice A b.length cp) b)(hb:b.length≤1048576) :
    Calls Tryz.prog 98 #[vI 1,vB c,.slice A b.length cp] w (ef (aL ci 1 c b) w):=by
 obtain⟨hcode1,hcode2⟩:=hcode
 have hln:(b.length:Int)≤1048576:=by omega
 refine en 40 Tryz.func98 rfl<|sg<|aO mZ fun U V l i n=>al 1<|sq<|aB 6<|c0<|bM<|aA 2<|aO mZ fun W X g o y=>aN o (mC c) fun Y z j=>aU 1<|?_
 have h:=ud y j g
 have p:=aK n h
 refine aG<|e3 (dI (aW.old hsl p) (by omega)) fun Z a0 d B a=>Pl 1<|aU 2<|?_
 have C:=aK p a
 refine wo (ci 1 c ⟨b,false,0⟩) (fun hr=>?_) (fun r hr=>?_)
 refine aG<|m1 (mJ (dir:=1) (c:=c) B (ub a z) (Ne.symm (nb (ag o) j.size d)) (Or.inr rfl) hr) fun a1 D=>al 1<|sq<|aB 2<|c1<|aA 1<|?_
 refine aN (ub (aK h (aK a D)) i) mZ fun a2 L M=>al 1<|bQ<|eA L (vI 4)<|?_
 exact dQ (by unfold aL;(try simp only[bC,gT,gS,gQ,gR,gP,reduceIte,hr])<;>rfl) (cl (ud C (uz D M) l))
 have E:=nb (ag o) j.size d
 refine aG<|D8 (np (dir:=1) (c:=c) B (ub a z) (Ne.symm E) (Or.inr rfl) hr) fun N F a3 O q hcall51=>al 1<|sq<|aB 2<|c0<|bM<|sq<|go<|Pl 1<|L0<|gk (f:=N) (args:=F) (hf:=O) #[] F<|m3 (hcall51) fun a4 G P H=>?_
 obtain⟨Q,k,s⟩:=P
 refine aU 1<|aG<|m2 (eL G) fun a5 I t=>nt<|sq<|aA 1<|aG<|mq (cw I)<|?_
 have a6:=ah.len I
 refine Pl 1<|dK 2<|?_
 have u:=uz q (u1 H t im)
 have J:=ut C u (ac (ni p.size d) (ac (ni n.size g) aC))
 have hs:aL ci 1 c b=cL r.2 r.1:=by
   unfold aL
   (try simp only[bC,gT,gS,gQ,gR,gP,reduceIte,hr])
   all_goals rfl
 refine cb ((r.1.endC.e != 0)) (fun v=>?_) (fun v=>?_)
 have x:=aR v
 refine aA 2<|?_
 refine aN (ub (ud h (ud a u d) g) i) mZ fun a7 R S=>al 1<|bQ<|eA R (vI r.1.endC.e)<|?_
 rw[hs]
 exact d4 x (ud J S l)
 have x:=aZ v
 refine bM<|sg<|?_
 refine L0<|cM (hz:=(by rw[k.2];exact bv)) (bf t E k.1)<|?_
 refine aN (hz:=(by rw[k.2];exact bv)) (hv:=s.size) (h1:=s.one) (ub (ud h (ud a u d) g) i) (Q) fun a8 T K=>al 1<|rt<|ke 22 k.2 T (vI 0)<|?_
 rw[hs]
 exact dB x (aH.lo (aH.upd s (us t K) (am (ah.safe G _ (by decide)) (am (b6 (ub (ud h (ud a (uz q H) d) g) i) (by decide)) aP))) (le (le (le (le n.size y.size) j.size) a.size) q.size)) (ud J K l)
theorem oH(hcode:B8 c)(hsl:aW m w (.slice A b.length cp) b)(hb:b.length≤1048576)(hd:¬ (dir=0∨dir=1)) :
    Calls Tryz.prog 98 #[vI dir,vB c,.slice A b.length cp] w (ef (aL ci dir c b) w):=by
 obtain⟨hcode1,hcode2⟩:=hcode
 have hln:(b.length:Int)≤1048576:=by omega
 have e0:(dir != 0)=true:=by simp;omega
 have e1:(dir != 1)=true:=by simp;omega
 refine en 40 Tryz.func98 rfl<|sg<|aO mZ fun g h a d e=>al 1<|sq<|aA 3<|sy 14 e0<|Pl 3<|nl<|tn<|ct e1<|aA 1<|aN d mZ fun i eT f=>al 1<|bQ<|eA eT (vI 1)<|?_
 exact dQ (by unfold aL ci;(try simp only[e0,e1,bC,gT,gS,gQ,gR,gP,reduceIte,hd])<;>rfl) (cl (ud e f a))
theorem mj(hc:B8 c)(h:aW m w v b)(hb:b.length≤1048576) :
    Calls Tryz.prog 98 #[.int .i64 dir,.int .u8 c,v] w (ef (aL ci dir c b) w):=by
  obtain⟨A,cp,rfl,_,_⟩:=h.shape
  by_cases h0:dir=0
  · subst h0;exact pl hc h hb
  by_cases h1:dir=1
  · subst h1;exact pm hc h hb
  exact oH hc h hb (by omega)
open Go.RowKit
theorem mN(hcode:B8 c)(hC:ah w g C)(hm:w.heap[gm]? = some (.cells (mC c) 45 (0,0)))(hne:g≠gm) :
    Calls Tryz.prog 193 #[.agg #[vP g 0,vP gm 0],vW most] w (so g gm (d7 C most) (mG c 0 C.wordV (C.wordsC 1).wordV 0 0 0 0 0 0 0 0 nS nS nS nS 0 0 0 0 0 nS) w):=by
 obtain⟨hcode1,hcode2⟩:=hcode
 have hlen:=hC.len
 refine en 51 Tryz.func193 rfl<|sg<|L0<|cX #[vP g 0,vP gm 0] fun f al P a7 a8=>nt<|sq<|Rg 8 (fun w'=>w'.cell? ⟨f,1,none⟩=some (vP gm 0)∧w'.cell? ⟨f,0,none⟩=some (vP g 0)) fun an Q=>?_
 have t:=ub Q a7
 refine bi ⟨(ae t rfl),(ae t rfl)⟩ fun o=>Rt 0 o<|Rl 1 o (fun _ hs=>hs.1)<|Rt 2 o<|Rl 3 o (fun _ hs=>hs.2)<|?_
 have R:=aK a8 Q
 refine R0 4 rfl<|Oc<|m3 (bK (ah.old hC R)) fun ao a9 S ap=>?_
 have h:=nb (ah.lt hC) lr P
 have u:=bf S (Ne.symm h) t
 refine bi ⟨(ae u rfl),(ae u rfl)⟩ fun T=>Rt 5 T<|Rt 6 T<|?_
 have U:=uz R S
 have V:=bf U (Ne.symm hne) hm
 refine R0 7 rfl<|cA V 2 (mG c 0 C.wordV 0 0 0 0 0 0 0 0 0 nS nS nS nS 0 0 0 0 0 nS) fun aq ab W=>?_
 have X:=nb (ag hm) lr P
 have v:=bf W (Ne.symm X) u
 refine bi ⟨(ae v rfl),(ae v rfl)⟩ fun ar=>re<|tn<|sq<|Rg 8 (fun w'=>w'.cell? ⟨f,1,none⟩=some (vP gm 0)∧w'.cell? ⟨f,0,none⟩=some (vP g 0)) fun au x=>?_
 have y:=ub x v
 refine bi ⟨(ae y rfl),(ae y rfl)⟩ fun p=>Rt 0 p<|Rl 1 p (fun _ hs=>hs.1)<|Rt 2 p<|Rl 3 p (fun _ hs=>hs.2)<|?_
 have Y:=aK W x
 refine R0 4 rfl<|Oc<|m3 (bK (ah.upd a9 Y (aa hne av) (am (b6 V (by decide)) aP))) fun aw Z z ax=>?_
 have A:=bf z (Ne.symm h) y
 refine bi ⟨(ae A rfl),(ae A rfl)⟩ fun a0=>Rt 5 a0<|Rt 6 a0<|?_
 have B:=bf (uz x z) (Ne.symm hne) ab
 refine R0 7 rfl<|cA B 3 (mG c 0 C.wordV ((C.wordsC 1).wordV) 0 0 0 0 0 0 0 0 nS nS nS nS 0 0 0 0 0 nS) fun ay ac a1=>?_
 have D:=bf a1 (Ne.symm X) A
 refine bi ⟨(ae D rfl),(ae D rfl)⟩ fun az=>re<|tn<|sq<|Rg 18 (fun w'=>w'.cell? ⟨f,0,none⟩=some (vP g 0)∧w'.cell? ⟨f,1,none⟩=some (vP gm 0)∧w'.cell? ⟨gm,3,none⟩=some (vW ((C.wordsC 1).wordV))) fun aA E=>?_
 have q:=ub E D
 have F:=ub E ac
 refine bi ⟨(ae q rfl),(ae q rfl),(ae F rfl)⟩ fun b=>Rt 0 b<|Rl 1 b (fun _ hs=>hs.1)<|Rt 2 b<|Rl 3 b (fun _ hs=>hs.2.1)<|Rt 4 b<|Rt 5 b<|Rl 6 b (fun _ hs=>hs.2.2)<|Rt 7 b<|Rt 8 b<|?_
 have G:=aK a1 E
 have a2:=ui U (ui Y (us z G))
 refine zv 26 ((decide (1≤((C.wordsC 1).wordV)))) (fun i=>?_) (fun i=>?_)
 have ad:=of_decide_eq_true i
 refine Rt 9 b<|Rl 10 b (fun _ hs=>hs.2.1)<|Rt 11 b<|Rt 12 b<|Rl 13 b (fun _ hs=>hs.2.2)<|Rt 14 b<|Rt 15 b<|Rt 16 b<|?_
 refine R0 17 rfl<|Oc<|m2 (aY ((decide (((C.wordsC 1).wordV)≤most))) 5 (ah.upd Z G (aa hne av) (am (b6 B (by decide)) aP))) fun aB af H=>?_
 have I:=bf H (Ne.symm h) q
 have a3:=bf H (Ne.symm hne) F
 refine bi ⟨(ae I rfl),(ae I rfl),(ae a3 rfl)⟩ fun aC=>re<|tn<|Rg 15 (fun w'=>w'.cell? ⟨f,0,none⟩=some (vP g 0)∧w'.cell? ⟨f,1,none⟩=some (vP gm 0)∧w'.cell? ⟨gm,2,none⟩=some (vW C.wordV)∧w'.cell? ⟨gm,3,none⟩=some (vW ((C.wordsC 1).wordV))) fun aD r=>?_
 have j:=ub r I
 have k:=ub r a3
 refine bi ⟨(ae j rfl),(ae j rfl),(ae k rfl),(ae k rfl)⟩ fun d=>Rt 0 d<|Rl 1 d (fun _ hs=>hs.1)<|Rt 2 d<|Rl 3 d (fun _ hs=>hs.2.1)<|Rt 4 d<|Rt 5 d<|Rl 6 d (fun _ hs=>hs.2.2.1)<|Rt 7 d<|Rl 8 d (fun _ hs=>hs.2.1)<|Rt 9 d<|Rt 10 d<|Rl 11 d (fun _ hs=>hs.2.2.2)<|Rr 12 d (vI ((C.wordsC 1).wordV)) (fun _ _=>cR (vI (IntKind.i64.wrap ((C.wordsC 1).wordV))) (by kernel_rfl) (congrArg (Value.int .i64) (i64_in (by omega))))<|R0 13 rfl<|Oc<|mq (jG (a:=C.wordV) (n:=(C.wordsC 1).wordV) (by omega))<|bi ⟨(ae j rfl),(ae j rfl),(ae k rfl),(ae k rfl)⟩ fun aE=>?_
 refine R0 14 rfl<|Oc<|m2 (aY ((fq C.wordV ((C.wordsC 1).wordV))) 7 (ah.old af r)) fun aG ai J=>?_
 have a4:=bf J (Ne.symm h) j
 have K:=bf J (Ne.symm hne) k
 refine bi ⟨(ae a4 rfl),(ae a4 rfl),(ae K rfl),(ae K rfl)⟩ fun aH=>re<|rm (.tuple #[])<|?_
 have hs:d7 C most=((((C.wordsC 1).wordsC 1).need (decide (((C.wordsC 1).wordV)≤most)) 5).need (fq C.wordV ((C.wordsC 1).wordV)) 7):=by
   unfold d7 mD
   (try simp only[i,bC,reduceIte])
   all_goals rfl
 rw[hs]
 exact⟨rfl,ai,K,(u1 a2 (u1 H (uz r J) im) im)⟩
 have ad:=of_decide_eq_false i
 refine Ro 9 b<|Ro 10 b<|Ro 11 b<|Ro 12 b<|Ro 13 b<|Ro 14 b<|Ro 15 b<|Rt 16 b<|?_
 refine R0 17 rfl<|Oc<|m2 (aY (false) 5 (ah.upd Z G (aa hne av) (am (b6 B (by decide)) aP))) fun aI aj L=>?_
 have M:=bf L (Ne.symm h) q
 have a5:=bf L (Ne.symm hne) F
 refine bi ⟨(ae M rfl),(ae M rfl),(ae a5 rfl)⟩ fun aJ=>re<|tn<|Rg 15 (fun w'=>w'.cell? ⟨f,0,none⟩=some (vP g 0)∧w'.cell? ⟨f,1,none⟩=some (vP gm 0)∧w'.cell? ⟨gm,2,none⟩=some (vW C.wordV)∧w'.cell? ⟨gm,3,none⟩=some (vW ((C.wordsC 1).wordV))) fun aL s=>?_
 have l:=ub s M
 have m:=ub s a5
 refine bi ⟨(ae l rfl),(ae l rfl),(ae m rfl),(ae m rfl)⟩ fun e=>Rt 0 e<|Rl 1 e (fun _ hs=>hs.1)<|Rt 2 e<|Rl 3 e (fun _ hs=>hs.2.1)<|Rt 4 e<|Rt 5 e<|Rl 6 e (fun _ hs=>hs.2.2.1)<|Rt 7 e<|Rl 8 e (fun _ hs=>hs.2.1)<|Rt 9 e<|Rt 10 e<|Rl 11 e (fun _ hs=>hs.2.2.2)<|Rr 12 e (vI ((C.wordsC 1).wordV)) (fun _ _=>cR (vI (IntKind.i64.wrap ((C.wordsC 1).wordV))) (by kernel_rfl) (congrArg (Value.int .i64) (i64_in (by omega))))<|R0 13 rfl<|Oc<|mq (jG (a:=C.wordV) (n:=(C.wordsC 1).wordV) (by omega))<|bi ⟨(ae l rfl),(ae l rfl),(ae m rfl),(ae m rfl)⟩ fun aM=>?_
 refine R0 14 rfl<|Oc<|m2 (aY ((fq C.wordV ((C.wordsC 1).wordV))) 7 (ah.old aj s)) fun aN ak N=>?_
 have a6:=bf N (Ne.symm h) l
 have O:=bf N (Ne.symm hne) m
 refine bi ⟨(ae a6 rfl),(ae a6 rfl),(ae O rfl),(ae O rfl)⟩ fun aO=>re<|rm (.tuple #[])<|?_
 have hs:d7 C most=((((C.wordsC 1).wordsC 1).need false 5).need (fq C.wordV ((C.wordsC 1).wordV)) 7):=by
   unfold d7 mD
   (try simp only[i,bC,reduceIte])
   all_goals rfl
 rw[hs]
 exact⟨rfl,ak,O,(u1 a2 (u1 L (uz s N) im) im)⟩
theorem kk(hcode:B8 c)(hC:ah w g C)(hm:w.heap[gm]? = some (.cells (mC c) 45 (0,0)))(hne:g≠gm) :
    Calls Tryz.prog 140 #[.agg #[vP g 0,vP gm 0]] w (cg g gm (fO 2000 c C).1 (fO 2000 c C).2 w):=by
 obtain⟨hcode1,hcode2⟩:=hcode
 have hlen:=hC.len
 refine en 4 Tryz.func140 rfl<|sg<|L0<|cX #[vP g 0,vP gm 0] fun i j k d a=>nt<|go<|L0<|cM d<|?_
 have b:=ah.old hC a
 refine aG<|m3 (mN (most:=2000) ⟨hcode1,hcode2⟩ b (ub a hm) hne) fun l e f h=>?_
 have m:=(b).wordV
 have n:=dC (dk (b).rng 1)
 refine nl<|rm (.tuple #[])<|?_
 exact dQ (by unfold fO;(try simp only[bC,reduceIte])<;>rfl) ⟨rfl,e,⟨_,⟨f,rfl⟩,⟨_,_,_,_,_,rfl,aT.nil ..,aT.nil ..,aT.nil ..,aT.nil ..,aT.nil ..,⟨(b8 (x:=c) (by omega)),(b8 (x:=0) (by omega)),(cD (x:=C.wordV) (by omega)),(cD (x:=(C.wordsC 1).wordV) (by omega)),(cD (x:=0) (by omega)),(cD (x:=0) (by omega)),(cD (x:=0) (by omega)),(cD (x:=0) (by omega)),(cD (x:=0) (by omega)),(cD (x:=0) (by omega)),(cD (x:=0) (by omega)),(cD (x:=0) (by omega)),(b8 (x:=0) (by omega)),(b8 (x:=0) (by omega)),(b8 (x:=0) (by omega)),(b8 (x:=0) (by omega)),(b8 (x:=0) (by omega))⟩⟩⟩,(uz a h)⟩
theorem nT(hcode:B8 c)(hC:ah w g C)(hm:w.heap[gm]? = some (.cells (mC c) 45 (0,0)))(hne:g≠gm) :
    Calls Tryz.prog 141 #[.agg #[vP g 0,vP gm 0]] w (cg g gm (iy c C).1 (iy c C).2 w):=by
 obtain⟨hcode1,hcode2⟩:=hcode
 have hlen:=hC.len
 refine en 24 Tryz.func141 rfl<|sg<|L0<|cX #[vP g 0,vP gm 0] fun l L m o d=>aU 1<|aD o 0<|?_
 refine aG<|m3 (bJ (ah.old hC d)) fun M A e N=>Pl 1<|aU 1<|?_
 have f:=nb (ah.lt hC) lr m
 have p:=bf e (Ne.symm f) o
 refine aD p 0<|Pl 3<|ij 3 [10] 13 10 (decide (1≤C.byteV)) (decide (C.byteV≤250)) (fun K B D=>?_) ?_
 have O:=of_decide_eq_true D
 exact Pl 3<|ce B _ rfl
 refine aG<|m2 (aY (((decide (1≤C.byteV))&&(decide (C.byteV≤250)))) 5 A) fun P E r=>nt<|Rg 10 (fun w'=>w'.cell? ⟨l,1,none⟩=some (vP gm 0)∧w'.cell? ⟨l,0,none⟩=some (vP g 0)) fun Q h=>?_
 have s:=aK r h
 have i:=bf s (Ne.symm f) p
 refine bi ⟨(ae i rfl),(ae i rfl)⟩ fun a=>Rt 0 a<|Rl 1 a (fun _ hs=>hs.1)<|Rt 2 a<|Rl 3 a (fun _ hs=>hs.2)<|Rt 4 a<|Rr 5 a (vI C.byteV) (fun _ _=>cR (vI (IntKind.i64.wrap C.byteV)) (by kernel_rfl) (congrArg (Value.int .i64) (i64_in (by omega))))<|?_
 have t:=ah.old E h
 refine R0 6 rfl<|Oc<|w6 (cc (n:=C.byteV) t) fun F G R H S T I u=>?_
 have U:=Nat.le_trans (aF.bytesR_le ((C.bytesC 1).need ((decide (1≤C.byteV))&&(decide (C.byteV≤250))) 5) C.byteV) (ah.len t)
 have j:=bf u (Ne.symm f) i
 refine bi ⟨(ae j rfl),(ae j rfl)⟩ fun v=>Rt 7 v<|Rt 8 v<|?_
 have y:=uz d (u1 e (u1 s u im) im)
 have k:=bf y (Ne.symm hne) hm
 refine R0 9 rfl<|cA k 14 (mG c 0 0 0 0 0 0 0 0 0 0 0 nS nS (.slice F ((((C.bytesC 1).need ((decide (1≤C.byteV))&&(decide (C.byteV≤250))) 5).bytesR C.byteV).length) G) nS 0 0 0 0 0 nS) fun V J b=>?_
 have z:=bf b (Ne.symm (nb (ag hm) lr m)) j
 refine bi ⟨(ae z rfl),(ae z rfl)⟩ fun W=>re<|rm (.tuple #[])<|?_
 exact dQ (by unfold iy iZ;(try simp only[bC,reduceIte])<;>rfl) ⟨rfl,(ah.upd I b (aa hne av) (am (b6 k (by decide)) aP)),⟨_,⟨J,rfl⟩,⟨_,_,_,_,_,rfl,aT.nil ..,aT.nil ..,(aT.hi_le (aW.upd' H b (am (b6 k (by decide)) aP)) (le (le (le d.size e.size) r.size) h.size) fun _ _ q=>q),aT.nil ..,aT.nil ..,⟨(b8 (x:=c) (by omega)),(b8 (x:=0) (by omega)),(cD (x:=0) (by omega)),(cD (x:=0) (by omega)),(cD (x:=0) (by omega)),(cD (x:=0) (by omega)),(cD (x:=0) (by omega)),(cD (x:=0) (by omega)),(cD (x:=0) (by omega)),(cD (x:=0) (by omega)),(cD (x:=0) (by omega)),(cD (x:=0) (by omega)),(b8 (x:=0) (by omega)),(b8 (x:=0) (by omega)),(b8 (x:=0) (by omega)),(b8 (x:=0) (by omega)),(b8 (x:=0) (by omega))⟩⟩⟩,(us y b)⟩
theorem o6(hcode:B8 c)(hC:ah w g C)(hm:w.heap[gm]? = some (.cells (mC c) 45 (0,0)))(hne:g≠gm) :
    Calls Tryz.prog 142 #[.agg #[vP g 0,vP gm 0]] w (cg g gm (fE c C).1 (fE c C).2 w):=by
 obtain⟨hcode1,hcode2⟩:=hcode
 have hlen:=hC.len
 refine en 33 Tryz.func142 rfl<|sg<|L0<|cX #[vP g 0,vP gm 0] fun b a0 z S T=>nt<|sq<|Rg 8 (fun w'=>w'.cell? ⟨b,1,none⟩=some (vP gm 0)∧w'.cell? ⟨b,0,none⟩=some (vP g 0)) fun a1 A=>?_
 have j:=ub A S
 refine bi ⟨(ae j rfl),(ae j rfl)⟩ fun e=>Rt 0 e<|Rl 1 e (fun _ hs=>hs.1)<|Rt 2 e<|Rl 3 e (fun _ hs=>hs.2)<|?_
 have B:=aK T A
 refine R0 4 rfl<|Oc<|m3 (bK (ah.old hC B)) fun a2 U D a3=>?_
 have f:=nb (ah.lt hC) lr z
 have k:=bf D (Ne.symm f) j
 refine bi ⟨(ae k rfl),(ae k rfl)⟩ fun E=>Rt 5 E<|Rt 6 E<|?_
 have F:=uz B D
 have G:=bf F (Ne.symm hne) hm
 refine R0 7 rfl<|cA G 2 (mG c 0 C.wordV 0 0 0 0 0 0 0 0 0 nS nS nS nS 0 0 0 0 0 nS) fun a4 V H=>?_
 have I:=nb (ag hm) lr z
 have l:=bf H (Ne.symm I) k
 refine bi ⟨(ae l rfl),(ae l rfl)⟩ fun a5=>re<|tn<|sq<|Rg 8 (fun w'=>w'.cell? ⟨b,1,none⟩=some (vP gm 0)∧w'.cell? ⟨b,0,none⟩=some (vP g 0)) fun a6 m=>?_
 have n:=ub m l
 refine bi ⟨(ae n rfl),(ae n rfl)⟩ fun h=>Rt 0 h<|Rl 1 h (fun _ hs=>hs.1)<|Rt 2 h<|Rl 3 h (fun _ hs=>hs.2)<|?_
 have J:=aK H m
 refine R0 4 rfl<|Oc<|m3 (bK (ah.upd U J (aa hne av) (am (b6 G (by decide)) aP))) fun a7 K o a8=>?_
 have p:=bf o (Ne.symm f) n
 refine bi ⟨(ae p rfl),(ae p rfl)⟩ fun L=>Rt 5 L<|Rt 6 L<|?_
 have q:=bf (uz m o) (Ne.symm hne) V
 refine R0 7 rfl<|cA q 4 (mG c 0 C.wordV 0 ((C.wordsC 1).wordV) 0 0 0 0 0 0 0 nS nS nS nS 0 0 0 0 0 nS) fun a9 W M=>?_
 have r:=bf M (Ne.symm I) p
 refine bi ⟨(ae r rfl),(ae r rfl)⟩ fun ab=>re<|tn<|Rg 17 (fun w'=>w'.cell? ⟨b,0,none⟩=some (vP g 0)∧w'.cell? ⟨b,1,none⟩=some (vP gm 0)∧w'.cell? ⟨gm,4,none⟩=some (vW ((C.wordsC 1).wordV))) fun ac s=>?_
 have i:=ub s r
 have t:=ub s W
 refine bi ⟨(ae i rfl),(ae i rfl),(ae t rfl)⟩ fun a=>Rt 0 a<|Rl 1 a (fun _ hs=>hs.1)<|Rt 2 a<|Rl 3 a (fun _ hs=>hs.2.1)<|Rt 4 a<|Rt 5 a<|Rl 6 a (fun _ hs=>hs.2.2)<|Rt 7 a<|Rt 8 a<|?_
 have u:=aK M s
 have N:=ui F (ui J (us o u))
 refine zv 24 ((((C.wordsC 1).wordV)==0)) (fun d=>?_) (fun d=>?_)
 have X:=aI d
 refine Ro 9 a<|Ro 10 a<|Ro 11 a<|Ro 12 a<|Ro 13 a<|Ro 14 a<|Rt 15 a<|?_
 refine R0 16 rfl<|Oc<|m2 (aY (true) 6 (ah.upd K u (aa hne av) (am (b6 q (by decide)) aP))) fun ad Y v=>?_
 have O:=bf v (Ne.symm f) i
 have P:=bf v (Ne.symm hne) t
 refine bi ⟨(ae O rfl),(ae O rfl),(ae P rfl)⟩ fun af=>re<|rm (.tuple #[])<|?_
 have hs:fE c C=((((C.wordsC 1).wordsC 1).need true 6),(b7.mk c 0 C.wordV 0 ((C.wordsC 1).wordV) 0 0 0 0 0 0 0 [] [] [] [] 0 0 0 0 0 [])):=by
   unfold fE pZ
   (try simp only[d,bC,reduceIte])
   all_goals rfl
 rw[hs]
 exact⟨rfl,Y,⟨_,⟨P,rfl⟩,⟨_,_,_,_,_,rfl,aT.nil ..,aT.nil ..,aT.nil ..,aT.nil ..,aT.nil ..,⟨(b8 (x:=c) (by omega)),(b8 (x:=0) (by omega)),(cD (x:=C.wordV) (by omega)),(cD (x:=0) (by omega)),(cD (x:=(C.wordsC 1).wordV) (by omega)),(cD (x:=0) (by omega)),(cD (x:=0) (by omega)),(cD (x:=0) (by omega)),(cD (x:=0) (by omega)),(cD (x:=0) (by omega)),(cD (x:=0) (by omega)),(cD (x:=0) (by omega)),(b8 (x:=0) (by omega)),(b8 (x:=0) (by omega)),(b8 (x:=0) (by omega)),(b8 (x:=0) (by omega)),(b8 (x:=0) (by omega))⟩⟩⟩,(u1 N v im)⟩
 have X:=aS d
 refine Rt 9 a<|Rl 10 a (fun _ hs=>hs.2.1)<|Rt 11 a<|Rt 12 a<|Rl 13 a (fun _ hs=>hs.2.2)<|Rt 14 a<|Rt 15 a<|?_
 refine R0 16 rfl<|Oc<|m2 (aY ((((C.wordsC 1).wordV)==65280)) 6 (ah.upd K u (aa hne av) (am (b6 q (by decide)) aP))) fun ai Z y=>?_
 have Q:=bf y (Ne.symm f) i
 have R:=bf y (Ne.symm hne) t
 refine bi ⟨(ae Q rfl),(ae Q rfl),(ae R rfl)⟩ fun aj=>re<|rm (.tuple #[])<|?_
 have hs:fE c C=((((C.wordsC 1).wordsC 1).need (((C.wordsC 1).wordV)==65280) 6),(b7.mk c 0 C.wordV 0 ((C.wordsC 1).wordV) 0 0 0 0 0 0 0 [] [] [] [] 0 0 0 0 0 [])):=by
   unfold fE pZ
   (try simp only[d,bC,reduceIte])
   all_goals rfl
 rw[hs]
 exact⟨rfl,Z,⟨_,⟨R,rfl⟩,⟨_,_,_,_,_,rfl,aT.nil ..,aT.nil ..,aT.nil ..,aT.nil ..,aT.nil ..,⟨(b8 (x:=c) (by omega)),(b8 (x:=0) (by omega)),(cD (x:=C.wordV) (by omega)),(cD (x:=0) (by omega)),(cD (x:=(C.wordsC 1).wordV) (by omega)),(cD (x:=0) (by omega)),(cD (x:=0) (by omega)),(cD (x:=0) (by omega)),(cD (x:=0) (by omega)),(cD (x:=0) (by omega)),(cD (x:=0) (by omega)),(cD (x:=0) (by omega)),(b8 (x:=0) (by omega)),(b8 (x:=0) (by omega)),(b8 (x:=0) (by omega)),(b8 (x:=0) (by omega)),(b8 (x:=0) (by omega))⟩⟩⟩,(u1 N y im)⟩
theorem zi(hcode:B8 c)(hC:ah w g C)(hm:w.heap[gm]? = some (.cells (mC c) 45 (0,0)))(hne:g≠gm) :
    Calls Tryz.prog 144 #[.agg #[vP g 0,vP gm 0]] w (cg g gm (fO 1968 c C).1 (fO 1968 c C).2 w):=by
 obtain⟨hcode1,hcode2⟩:=hcode
 have hlen:=hC.len
 refine en 4 Tryz.func144 rfl<|sg<|L0<|cX #[vP g 0,vP gm 0] fun i j k d a=>nt<|go<|L0<|cM d<|?_
 have b:=ah.old hC a
 refine aG<|m3 (mN (most:=1968) ⟨hcode1,hcode2⟩ b (ub a hm) hne) fun l e f h=>?_
 have m:=(b).wordV
 have n:=dC (dk (b).rng 1)
 refine nl<|rm (.tuple #[])<|?_
 exact dQ (by unfold fO;(try simp only[bC,reduceIte])<;>rfl) ⟨rfl,e,⟨_,⟨f,rfl⟩,⟨_,_,_,_,_,rfl,aT.nil ..,aT.nil ..,aT.nil ..,aT.nil ..,aT.nil ..,⟨(b8 (x:=c) (by omega)),(b8 (x:=0) (by omega)),(cD (x:=C.wordV) (by omega)),(cD (x:=(C.wordsC 1).wordV) (by omega)),(cD (x:=0) (by omega)),(cD (x:=0) (by omega)),(cD (x:=0) (by omega)),(cD (x:=0) (by omega)),(cD (x:=0) (by omega)),(cD (x:=0) (by omega)),(cD (x:=0) (by omega)),(cD (x:=0) (by omega)),(b8 (x:=0) (by omega)),(b8 (x:=0) (by omega)),(b8 (x:=0) (by omega)),(b8 (x:=0) (by omega)),(b8 (x:=0) (by omega))⟩⟩⟩,(uz a h)⟩
theorem uH(hcode:B8 c)(hC:ah w g C)(hm:w.heap[gm]? = some (.cells (mC c) 45 (0,0)))(hne:g≠gm) :
    Calls Tryz.prog 144 #[.agg #[vP g 0,vP gm 0]] w (so g gm (d7 C 1968) (mG c 0 C.wordV (C.wordsC 1).wordV 0 0 0 0 0 0 0 0 nS nS nS nS 0 0 0 0 0 nS) w):=by
 obtain⟨hcode1,hcode2⟩:=hcode
 have hlen:=hC.len
 refine en 4 Tryz.func144 rfl<|sg<|L0<|cX #[vP g 0,vP gm 0] fun i j k d a=>nt<|go<|L0<|cM d<|?_
 have b:=ah.old hC a
 refine aG<|m3 (mN (most:=1968) ⟨hcode1,hcode2⟩ b (ub a hm) hne) fun l e f h=>?_
 have m:=(b).wordV
 have n:=dC (dk (b).rng 1)
 refine nl<|rm (.tuple #[])<|?_
 have hs:d7 C 1968=(d7 C 1968):=by
   unfold d7 mD
   (try simp only[bC,reduceIte])
   all_goals rfl
 rw[hs]
 exact⟨rfl,e,f,(uz a h)⟩
theorem Ap(hcode:B8 c)(hC:ah w g C)(hm:w.heap[gm]? = some (.cells (mC c) 45 (0,0)))(hne:g≠gm) :
    Calls Tryz.prog 143 #[.agg #[vP g 0,vP gm 0]] w (cg g gm (pf c C).1 (pf c C).2 w):=by
 obtain⟨hcode1,hcode2⟩:=hcode
 have hlen:=hC.len
 refine en 46 Tryz.func143 rfl<|sg<|L0<|cX #[vP g 0,vP gm 0] fun q a3 F G f=>ng<|L0<|cM G<|?_
 have u:=ah.old hC f
 refine aG<|m3 (uH ⟨hcode1,hcode2⟩ u (ub f hm) hne) fun a4 Q R k=>?_
 have a5:=(u).wordV
 have a6:=dC (dk (u).rng 1)
 refine aU 1<|?_
 have l:=nb (ah.lt hC) lr F
 have H:=ay.blk k (aa (Ne.symm l) (aa (Ne.symm (nb (ag hm) lr F)) av)) G
 refine aD H 0<|aG<|m3 (bJ Q) fun a7 S r a8=>bD ((d7 C 1968).byteV)<|al 1<|sq<|Rg 12 (fun w'=>w'.cell? ⟨q,0,none⟩=some (vP g 0)∧w'.cell? ⟨q,1,none⟩=some (vP gm 0)∧w'.cell? ⟨gm,3,none⟩=some (vW ((C.wordsC 1).wordV))) fun a9 m=>?_
 have v:=aK r m
 have o:=bf v (Ne.symm l) H
 have y:=bf v (Ne.symm hne) R
 refine bi ⟨(ae o rfl),(ae o rfl),(ae y rfl)⟩ fun a=>Rt 0 a<|Rl 1 a (fun _ hs=>hs.1)<|Rt 2 a<|Rt 3 a<|Rl 4 a (fun _ hs=>hs.2.1)<|Rt 5 a<|Rt 6 a<|Rl 7 a (fun _ hs=>hs.2.2)<|Rr 8 a (vI ((C.wordsC 1).wordV)) (fun _ _=>cR (vI (IntKind.i64.wrap ((C.wordsC 1).wordV))) (by kernel_rfl) (congrArg (Value.int .i64) (i64_in (by omega))))<|R0 9 rfl<|Oc<|mq (jQ (n:=(C.wordsC 1).wordV) (by omega))<|bi ⟨(ae o rfl),(ae o rfl),(ae y rfl)⟩ fun T=>Rt 10 T<|?_
 refine R0 11 rfl<|Oc<|m2 (aY ((((d7 C 1968).byteV)==(fg ((C.wordsC 1).wordV)))) 5 (ah.old S m)) fun ab U i=>?_
 have z:=bf i (Ne.symm l) o
 have I:=bf i (Ne.symm hne) y
 refine bi ⟨(ae z rfl),(ae z rfl),(ae I rfl)⟩ fun ad=>re<|tn<|sq<|Rg 16 (fun w'=>w'.cell? ⟨q,0,none⟩=some (vP g 0)∧w'.cell? ⟨q,1,none⟩=some (vP gm 0)∧w'.cell? ⟨gm,3,none⟩=some (vW ((C.wordsC 1).wordV))) fun af d=>?_
 have A:=ub d z
 have J:=ub d I
 refine bi ⟨(ae A rfl),(ae A rfl),(ae J rfl)⟩ fun b=>Rt 0 b<|Rl 1 b (fun _ hs=>hs.1)<|Rt 2 b<|Rt 4 b<|Rl 5 b (fun _ hs=>hs.2.1)<|Rt 6 b<|Rt 7 b<|Rl 8 b (fun _ hs=>hs.2.2)<|Rr 9 b (vI ((C.wordsC 1).wordV)) (fun _ _=>cR (vI (IntKind.i64.wrap ((C.wordsC 1).wordV))) (by kernel_rfl) (congrArg (Value.int .i64) (i64_in (by omega))))<|?_
 have K:=ah.old U d
 refine R0 3 rfl<|Oc<|w6 (cc (n:=(d7 C 1968).byteV) K) fun V W ai X aj an Y j=>?_
 have ao:=Nat.le_trans (aF.bytesR_le (((d7 C 1968).bytesC 1).need (((d7 C 1968).byteV)==(fg ((C.wordsC 1).wordV))) 5) ((d7 C 1968).byteV)) (ah.len K)
 have B:=bf j (Ne.symm l) A
 have L:=bf j (Ne.symm hne) J
 refine bi ⟨(ae B rfl),(ae B rfl),(ae L rfl)⟩ fun ap=>R0 10 rfl<|Oc (args:=#[.slice V (((((d7 C 1968).bytesC 1).need (((d7 C 1968).byteV)==(fg ((C.wordsC 1).wordV))) 5).bytesR ((d7 C 1968).byteV)).length) W,vI ((C.wordsC 1).wordV)])<|fC (sX X (by omega) (by omega) (by omega)) fun Z a0 aq D ar au s=>?_
 have t:=ub s B
 have M:=ub s L
 refine bi ⟨(ae t rfl),(ae t rfl),(ae M rfl)⟩ fun p=>Rt 11 p<|Rt 12 p<|Rt 13 p<|Rt 14 p<|Rt 15 p<|re<|tn<|aA 1<|aD t 0<|Pl 1<|?_
 refine aG<|m2 (aY ((dv ((((d7 C 1968).bytesC 1).need (((d7 C 1968).byteV)==(fg ((C.wordsC 1).wordV))) 5).bytesR ((d7 C 1968).byteV)) ((C.wordsC 1).wordV)).isSome) 6 (ah.old Y s)) fun aw a1 E=>nt<|go<|Pl 1<|?_
 refine aD (bf E (Ne.symm l) t) 1<|Pl 3<|?_
 have N:=bf E (Ne.symm hne) M
 refine L0<|cA N 13 (mG c 0 C.wordV ((C.wordsC 1).wordV) 0 0 0 0 0 0 0 0 nS (.slice Z (((dv ((((d7 C 1968).bytesC 1).need (((d7 C 1968).byteV)==(fg ((C.wordsC 1).wordV))) 5).bytesR ((d7 C 1968).byteV)) ((C.wordsC 1).wordV)).getD []).length) a0) nS nS 0 0 0 0 0 nS) fun ax a2 O=>nl<|rm (.tuple #[])<|?_
 have P:=us E O
 exact dQ (by unfold pf DD Ca qC zt DF;(try simp only[bC,reduceIte])<;>rfl) ⟨rfl,(ah.upd a1 O (aa hne av) (am (b6 N (by decide)) aP)),⟨_,⟨a2,rfl⟩,⟨_,_,_,_,_,rfl,aT.nil ..,(aQ.hi (ak D P (fun x hx=>(aa (fun e=>(az (ah.lt hC) (le (le (le (le (le (le f.size k.size) r.size) m.size) i.size) d.size) j.size) D) (e▸hx)) (aa (fun e=>(az (ag hm) (le (le (le (le (le (le f.size k.size) r.size) m.size) i.size) d.size) j.size) D) (e▸hx)) av))) (fun _ _ h=>h)) (le (le (le (le (le (le f.size k.size) r.size) m.size) i.size) d.size) j.size)),aT.nil ..,aT.nil ..,aT.nil ..,⟨(b8 (x:=c) (by omega)),(b8 (x:=0) (by omega)),(cD (x:=C.wordV) (by omega)),(cD (x:=(C.wordsC 1).wordV) (by omega)),(cD (x:=0) (by omega)),(cD (x:=0) (by omega)),(cD (x:=0) (by omega)),(cD (x:=0) (by omega)),(cD (x:=0) (by omega)),(cD (x:=0) (by omega)),(cD (x:=0) (by omega)),(cD (x:=0) (by omega)),(b8 (x:=0) (by omega)),(b8 (x:=0) (by omega)),(b8 (x:=0) (by omega)),(b8 (x:=0) (by omega)),(b8 (x:=0) (by omega))⟩⟩⟩,(uz f (ut k (ui v (ui i (uz d (ui j (uz s P))))) (ac im (ac im aC))))⟩
open Go.RowKit
theorem Bt(c:Int) : c=1∨c=2∨c=5∨c=15∨(c≠1∧c≠2∧c≠5∧c≠15):=by omega
theorem nz(hcode:B8 c)(hsl:aW m w (.slice A b.length cp) b)(hb:b.length≤1048576) :
    Calls Tryz.prog 96 #[vI 0,vB c,.slice A b.length cp] w (ef (aL bt 0 c b) w):=by
 obtain⟨hcode1,hcode2⟩:=hcode
 have hln:(b.length:Int)≤1048576:=by omega
 refine en 72 Tryz.func96 rfl<|sg<|aO mZ fun a5 bW P H t=>al 1<|sq<|aB 6<|c0<|bM<|aA 2<|aO mZ fun a bX y p z=>aN p (mC c) fun bY I f=>aU 1<|?_
 have B:=ud z f y
 have Q:=aK t B
 refine aG<|e3 (dI (aW.old hsl Q) (by omega)) fun d bZ r D i=>Pl 1<|aO #[.pointer none,.pointer none] fun a6 c2 E a7 s=>aN a7 #[vP d 0,vP a 0] fun c3 ax j=>ng<|L0<|zT fun c4 c5 J az k=>?_
 have R:=ub k ax
 refine L0<|cM R<|Pl 1<|L0<|cM R<|Pl 2<|L0<|ip az 1 fun c6 aC l=>?_
 have K:=nb (ag a7) j.size J
 have S:=bf l K R
 refine L0<|cM S<|Pl 1<|L0<|cM S<|Pl 2<|L0<|ip aC 2 fun c7 aE n=>?_
 have T:=bf n K S
 refine L0<|cM T<|Pl 1<|L0<|cM T<|Pl 2<|L0<|ip aE 5 fun c8 aI o=>?_
 have U:=bf o K T
 refine L0<|cM U<|Pl 1<|L0<|cM U<|Pl 2<|L0<|ip aI 15 fun aJ F u=>al 2<|EX (fun x=>[(6,vP a5 0),(8,vP a 0),(9,vP a6 0)]) (fun(x:aF × Array Value × b7) w'=>ay [d,a] aJ w'∧ah w' d x.1∧w'.heap[a]? = some (.cells x.2.1 45 (0,0))∧aH (.hi w.heap.size) w' x.2.1.toList x.2.2∧(aL bt 0 c b=cL x.2.2 x.1)) ?_ fun L=>?_
 rintro⟨C,cs,M⟩ V ⟨aM,aQ,aS,aT,aV⟩
 refine iW [(6,vP a5 0),(8,vP a 0),(9,vP a6 0)] ?_
 have a8:ah V d C:=aQ
 have aX:V.heap[a]? = some (.cells cs 45 (0,0)):=aS
 have N:aH (.hi w.heap.size) V cs.toList M:=aT
 have W:=aH.size N
 have a9:aL bt 0 c b=cL M C:=aV
 refine aA 1<|?_
 have X:=us u aM
 have ac:=nb (ah.lt D) lr E
 have ad:=ay.blk X (aa K (aa (Ne.symm ac) (aa (Ne.symm (nb (ag p) (le f.size i.size) E)) av))) U
 refine aD ad 0<|aG<|m2 (eL a8) fun c9 ae O=>nt<|sq<|aA 1<|?_
 refine aD (bf O (Ne.symm ac) ad) 0<|aG<|mq (cw ae)<|?_
 have ca:=ah.len ae
 refine Pl 1<|dK 2<|?_
 have Y:=ud i (ud s (us j (ud k (ui l (ui n (ui o (u1 X O im)))) J)) E) r
 have af:=ud Q Y (le t.size y)
 refine cb ((C.endC.e != 0)) (fun Z=>?_) (fun Z=>?_)
 have a0:=aR Z
 refine aA 2<|?_
 refine aN (ub (ud B Y y) H) mZ fun cc aY b0=>al 1<|bQ<|eA aY (vI C.endC.e)<|?_
 rw[a9]
 exact d4 a0 (ud af b0 P)
 have a0:=aZ Z
 refine bM<|sg<|?_
 refine L0<|cM (hz:=(by rw[W];exact bv)) (bf O (nb (ag p) f.size r) aX)<|?_
 refine aN (hz:=(by rw[W];exact bv)) (hv:=N.size) (h1:=N.one) (ub (ud B Y y) H) (cs) fun cd b1 ai=>al 1<|rt<|ke 22 W b1 (vI 0)<|?_
 rw[a9]
 exact dB a0 (aH.upd N (us O ai) (am (ah.safe a8 _ (by decide)) (am (b6 (ub (ud B (ud i (ud s (us j (ud k (ui l (ui n (ui o X))) J)) E) r) y) H) (by decide)) aP))) (ud af ai P)
 refine aA 2<|?_
 have G:=ud s (aK j (ud k (u1 l (u1 n (u1 o u im) im) im) J)) E
 have v:=aK i G
 rcases Bt c with hk|hk|hk|hk|hk
 have k1:(c==1)=true:=by rw[hk];rfl
 have k2:(c==2)=false:=by rw[hk];rfl
 have k5:(c==5)=false:=by rw[hk];rfl
 have g:(c==15)=false:=by rw[hk];rfl
 refine L0<|p8 (hf:=(by subst hk;kernel_rfl)) F c (.agg #[.nilFunc,.nilFunc]) (some (0,.agg #[.func (.func 140) #[.agg #[vP d 0,vP a 0]] #[],.func (.func 141) #[.agg #[vP d 0,vP a 0]] #[]]))<|Pl 3<|aO #[.nilFunc,.nilFunc] fun ce cf b2 b3 aj=>aN b3 #[.func (.func 140) #[.agg #[vP d 0,vP a 0]] #[],.func (.func 141) #[.agg #[vP d 0,vP a 0]] #[]] fun cg b4 ak=>al 1<|sq<|aB 2<|c0<|bM<|aA 2<|aD b4 0<|?_
 have a1:=ud aj ak b2
 refine L0<|gk #[.agg #[vP d 0,vP a 0]] #[] (args:=#[.agg #[vP d 0,vP a 0]])<|m3 (kk (c:=c) ⟨hcode1,hcode2⟩ (ah.old D (aK G a1)) (ub (aK v a1) I) (Ne.symm (nb (ag p) f.size r))) fun ch b5 b8 b9=>?_
 obtain⟨ci,ba,bb⟩:=b8
 refine ab b5 fun bc bd be=>?_
 refine nt<|?_
 exact L (bc,_,(fO 2000 c (aF.mk b false 0)).2) ⟨(uz a1 b9),be,ba.1,(aH.lo bb (le (le (le (le (le (le (le (le (le (le (le (le t.size z.size) f.size) i.size) s.size) j.size) k.size) l.size) n.size) o.size) u.size) aj.size) ak.size)),by subst bd;unfold aL bt ;(try simp only[bC,gT,gS,gQ,gR,gP,reduceIte,k1,k2,k5,g])<;>rfl⟩
 have k1:(c==1)=false:=by rw[hk];rfl
 have k2:(c==2)=true:=by rw[hk];rfl
 have k5:(c==5)=false:=by rw[hk];rfl
 have g:(c==15)=false:=by rw[hk];rfl
 refine L0<|p8 (hf:=(by subst hk;kernel_rfl)) F c (.agg #[.nilFunc,.nilFunc]) (some (1,.agg #[.func (.func 140) #[.agg #[vP d 0,vP a 0]] #[],.func (.func 141) #[.agg #[vP d 0,vP a 0]] #[]]))<|Pl 3<|aO #[.nilFunc,.nilFunc] fun cj ck bg bh an=>aN bh #[.func (.func 140) #[.agg #[vP d 0,vP a 0]] #[],.func (.func 141) #[.agg #[vP d 0,vP a 0]] #[]] fun cm bi ao=>al 1<|sq<|aB 2<|c0<|bM<|aA 2<|aD bi 0<|?_
 have a2:=ud an ao bg
 refine L0<|gk #[.agg #[vP d 0,vP a 0]] #[] (args:=#[.agg #[vP d 0,vP a 0]])<|m3 (kk (c:=c) ⟨hcode1,hcode2⟩ (ah.old D (aK G a2)) (ub (aK v a2) I) (Ne.symm (nb (ag p) f.size r))) fun cn bj bk bl=>?_
 obtain⟨co,bm,bn⟩:=bk
 refine ab bj fun bo bp bq=>?_
 refine nt<|?_
 exact L (bo,_,(fO 2000 c (aF.mk b false 0)).2) ⟨(uz a2 bl),bq,bm.1,(aH.lo bn (le (le (le (le (le (le (le (le (le (le (le (le t.size z.size) f.size) i.size) s.size) j.size) k.size) l.size) n.size) o.size) u.size) an.size) ao.size)),by subst bp;unfold aL bt ;(try simp only[bC,gT,gS,gQ,gR,gP,reduceIte,k1,k2,k5,g])<;>rfl⟩
 have k1:(c==1)=false:=by rw[hk];rfl
 have k2:(c==2)=false:=by rw[hk];rfl
 have k5:(c==5)=true:=by rw[hk];rfl
 have g:(c==15)=false:=by rw[hk];rfl
 refine L0<|p8 (hf:=(by subst hk;kernel_rfl)) F c (.agg #[.nilFunc,.nilFunc]) (some (2,.agg #[.func (.func 142) #[.agg #[vP d 0,vP a 0]] #[],.func (.func 142) #[.agg #[vP d 0,vP a 0]] #[]]))<|Pl 3<|aO #[.nilFunc,.nilFunc] fun cq cr br bs ap=>aN bs #[.func (.func 142) #[.agg #[vP d 0,vP a 0]] #[],.func (.func 142) #[.agg #[vP d 0,vP a 0]] #[]] fun ct bu aq=>al 1<|sq<|aB 2<|c0<|bM<|aA 2<|aD bu 0<|?_
 have a3:=ud ap aq br
 refine L0<|gk #[.agg #[vP d 0,vP a 0]] #[] (args:=#[.agg #[vP d 0,vP a 0]])<|m3 (o6 (c:=c) ⟨hcode1,hcode2⟩ (ah.old D (aK G a3)) (ub (aK v a3) I) (Ne.symm (nb (ag p) f.size r))) fun cu bw bx bz=>?_
 obtain⟨cv,bA,bB⟩:=bx
 refine ab bw fun bD bE bF=>?_
 refine nt<|?_
 exact L (bD,_,(fE c (aF.mk b false 0)).2) ⟨(uz a3 bz),bF,bA.1,(aH.lo bB (le (le (le (le (le (le (le (le (le (le (le (le t.size z.size) f.size) i.size) s.size) j.size) k.size) l.size) n.size) o.size) u.size) ap.size) aq.size)),by subst bE;unfold aL bt ;(try simp only[bC,gT,gS,gQ,gR,gP,reduceIte,k1,k2,k5,g])<;>rfl⟩
 have k1:(c==1)=false:=by rw[hk];rfl
 have k2:(c==2)=false:=by rw[hk];rfl
 have k5:(c==5)=false:=by rw[hk];rfl
 have g:(c==15)=true:=by rw[hk];rfl
 refine L0<|p8 (hf:=(by subst hk;kernel_rfl)) F c (.agg #[.nilFunc,.nilFunc]) (some (3,.agg #[.func (.func 143) #[.agg #[vP d 0,vP a 0]] #[],.func (.func 144) #[.agg #[vP d 0,vP a 0]] #[]]))<|Pl 3<|aO #[.nilFunc,.nilFunc] fun cx cy bG bH ar=>aN bH #[.func (.func 143) #[.agg #[vP d 0,vP a 0]] #[],.func (.func 144) #[.agg #[vP d 0,vP a 0]] #[]] fun cz bI au=>al 1<|sq<|aB 2<|c0<|bM<|aA 2<|aD bI 0<|?_
 have a4:=ud ar au bG
 refine L0<|gk #[.agg #[vP d 0,vP a 0]] #[] (args:=#[.agg #[vP d 0,vP a 0]])<|m3 (Ap (c:=c) ⟨hcode1,hcode2⟩ (ah.old D (aK G a4)) (ub (aK v a4) I) (Ne.symm (nb (ag p) f.size r))) fun cA bJ bK bL=>?_
 obtain⟨cB,bN,bO⟩:=bK
 refine nt<|?_
 exact L ((pf c (aF.mk b false 0)).1,_,(pf c (aF.mk b false 0)).2) ⟨(uz a4 bL),bJ,bN.1,(aH.lo bO (le (le (le (le (le (le (le (le (le (le (le (le t.size z.size) f.size) i.size) s.size) j.size) k.size) l.size) n.size) o.size) u.size) ar.size) au.size)),by unfold aL bt ;(try simp only[bC,gT,gS,gQ,gR,gP,reduceIte,k1,k2,k5,g])<;>rfl⟩
 have k1:(c==1)=false:=by simpa using hk.1
 have k2:(c==2)=false:=by simpa using hk.2.1
 have k5:(c==5)=false:=by simpa using hk.2.2.1
 have g:(c==15)=false:=by simpa using hk.2.2.2
 refine L0<|p8 (hf:=(DM (q:=.u8) (x:=c) #[⟨vB 1,.agg #[.func (.func 140) #[.agg #[vP d 0,vP a 0]] #[],.func (.func 141) #[.agg #[vP d 0,vP a 0]] #[]],0⟩,⟨vB 2,.agg #[.func (.func 140) #[.agg #[vP d 0,vP a 0]] #[],.func (.func 141) #[.agg #[vP d 0,vP a 0]] #[]],1⟩,⟨vB 5,.agg #[.func (.func 142) #[.agg #[vP d 0,vP a 0]] #[],.func (.func 142) #[.agg #[vP d 0,vP a 0]] #[]],2⟩,⟨vB 15,.agg #[.func (.func 143) #[.agg #[vP d 0,vP a 0]] #[],.func (.func 144) #[.agg #[vP d 0,vP a 0]] #[]],3⟩] (fQ _ _ (by intro e he;simp only[List.mem_cons,List.not_mem_nil,or_false] at he;obtain⟨z1,z2,z5,cC⟩:=hk;rcases he with rfl | rfl | rfl | rfl<;>exact⟨_,rfl,fun h=>by simp_all⟩)))) F c (.agg #[.nilFunc,.nilFunc]) none<|Pl 3<|aO #[.nilFunc,.nilFunc] fun cD cE bP bR bS=>aN bR #[.nilFunc,.nilFunc] fun cF cG bT=>al 1<|sq<|aB 2<|c1<|aA 1<|?_
 have aw:=ud bS bT bP
 refine aN (ub (aK B (aK v aw)) H) mZ fun cH bU bV=>al 1<|bQ<|eA bU (vI 4)<|?_
 exact dQ (by unfold aL bt;(try simp only[bC,gT,gS,gQ,gR,gP,reduceIte,k1,k2,k5,g])<;>rfl) (cl (ud (aK Q v) (uz aw bV) P))
theorem nD(hcode:B8 c)(hsl:aW m w (.slice A b.length cp) b)(hb:b.length≤1048576) :
    Calls Tryz.prog 96 #[vI 1,vB c,.slice A b.length cp] w (ef (aL bt 1 c b) w):=by
 obtain⟨hcode1,hcode2⟩:=hcode
 have hln:(b.length:Int)≤1048576:=by omega
 refine en 72 Tryz.func96 rfl<|sg<|aO mZ fun a5 bZ P H t=>al 1<|sq<|aB 6<|c0<|bM<|aA 2<|aO mZ fun a c2 y p z=>aN p (mC c) fun c3 I f=>aU 1<|?_
 have B:=ud z f y
 have Q:=aK t B
 refine aG<|e3 (dI (aW.old hsl Q) (by omega)) fun d c4 r D i=>Pl 1<|aO #[.pointer none,.pointer none] fun a6 c5 E a7 s=>aN a7 #[vP d 0,vP a 0] fun c6 ax j=>ng<|L0<|zT fun c7 c8 J az k=>?_
 have R:=ub k ax
 refine L0<|cM R<|Pl 1<|L0<|cM R<|Pl 2<|L0<|ip az 1 fun c9 aC l=>?_
 have K:=nb (ag a7) j.size J
 have S:=bf l K R
 refine L0<|cM S<|Pl 1<|L0<|cM S<|Pl 2<|L0<|ip aC 2 fun ca aE n=>?_
 have T:=bf n K S
 refine L0<|cM T<|Pl 1<|L0<|cM T<|Pl 2<|L0<|ip aE 5 fun cc aI o=>?_
 have U:=bf o K T
 refine L0<|cM U<|Pl 1<|L0<|cM U<|Pl 2<|L0<|ip aI 15 fun aJ F u=>al 2<|EX (fun x=>[(6,vP a5 0),(8,vP a 0),(9,vP a6 0)]) (fun(x:aF × Array Value × b7) w'=>ay [d,a] aJ w'∧ah w' d x.1∧w'.heap[a]? = some (.cells x.2.1 45 (0,0))∧aH (.hi w.heap.size) w' x.2.1.toList x.2.2∧(aL bt 1 c b=cL x.2.2 x.1)) ?_ fun L=>?_
 rintro⟨C,cs,M⟩ V ⟨aM,aQ,aS,aT,aV⟩
 refine iW [(6,vP a5 0),(8,vP a 0),(9,vP a6 0)] ?_
 have a8:ah V d C:=aQ
 have aX:V.heap[a]? = some (.cells cs 45 (0,0)):=aS
 have N:aH (.hi w.heap.size) V cs.toList M:=aT
 have W:=aH.size N
 have a9:aL bt 1 c b=cL M C:=aV
 refine aA 1<|?_
 have X:=us u aM
 have ac:=nb (ah.lt D) lr E
 have ad:=ay.blk X (aa K (aa (Ne.symm ac) (aa (Ne.symm (nb (ag p) (le f.size i.size) E)) av))) U
 refine aD ad 0<|aG<|m2 (eL a8) fun cd ae O=>nt<|sq<|aA 1<|?_
 refine aD (bf O (Ne.symm ac) ad) 0<|aG<|mq (cw ae)<|?_
 have ce:=ah.len ae
 refine Pl 1<|dK 2<|?_
 have Y:=ud i (ud s (us j (ud k (ui l (ui n (ui o (u1 X O im)))) J)) E) r
 have af:=ud Q Y (le t.size y)
 refine cb ((C.endC.e != 0)) (fun Z=>?_) (fun Z=>?_)
 have a0:=aR Z
 refine aA 2<|?_
 refine aN (ub (ud B Y y) H) mZ fun cf aY b0=>al 1<|bQ<|eA aY (vI C.endC.e)<|?_
 rw[a9]
 exact d4 a0 (ud af b0 P)
 have a0:=aZ Z
 refine bM<|sg<|?_
 refine L0<|cM (hz:=(by rw[W];exact bv)) (bf O (nb (ag p) f.size r) aX)<|?_
 refine aN (hz:=(by rw[W];exact bv)) (hv:=N.size) (h1:=N.one) (ub (ud B Y y) H) (cs) fun cg b1 ai=>al 1<|rt<|ke 22 W b1 (vI 0)<|?_
 rw[a9]
 exact dB a0 (aH.upd N (us O ai) (am (ah.safe a8 _ (by decide)) (am (b6 (ub (ud B (ud i (ud s (us j (ud k (ui l (ui n (ui o X))) J)) E) r) y) H) (by decide)) aP))) (ud af ai P)
 refine aA 2<|?_
 have G:=ud s (aK j (ud k (u1 l (u1 n (u1 o u im) im) im) J)) E
 have v:=aK i G
 rcases Bt c with hk|hk|hk|hk|hk
 have k1:(c==1)=true:=by rw[hk];rfl
 have k2:(c==2)=false:=by rw[hk];rfl
 have k5:(c==5)=false:=by rw[hk];rfl
 have g:(c==15)=false:=by rw[hk];rfl
 refine L0<|p8 (hf:=(by subst hk;kernel_rfl)) F c (.agg #[.nilFunc,.nilFunc]) (some (0,.agg #[.func (.func 140) #[.agg #[vP d 0,vP a 0]] #[],.func (.func 141) #[.agg #[vP d 0,vP a 0]] #[]]))<|Pl 3<|aO #[.nilFunc,.nilFunc] fun ch ci b2 b3 aj=>aN b3 #[.func (.func 140) #[.agg #[vP d 0,vP a 0]] #[],.func (.func 141) #[.agg #[vP d 0,vP a 0]] #[]] fun cj b4 ak=>al 1<|sq<|aB 2<|c0<|bM<|aA 2<|aD b4 1<|?_
 have a1:=ud aj ak b2
 refine L0<|gk #[.agg #[vP d 0,vP a 0]] #[] (args:=#[.agg #[vP d 0,vP a 0]])<|m3 (nT (c:=c) ⟨hcode1,hcode2⟩ (ah.old D (aK G a1)) (ub (aK v a1) I) (Ne.symm (nb (ag p) f.size r))) fun ck b5 b8 b9=>?_
 obtain⟨cm,ba,bb⟩:=b8
 refine ab b5 fun bc bd be=>?_
 refine nt<|?_
 exact L (bc,_,(iy c (aF.mk b false 0)).2) ⟨(uz a1 b9),be,ba.1,(aH.lo bb (le (le (le (le (le (le (le (le (le (le (le (le t.size z.size) f.size) i.size) s.size) j.size) k.size) l.size) n.size) o.size) u.size) aj.size) ak.size)),by subst bd;unfold aL bt ;(try simp only[bC,gT,gS,gQ,gR,gP,reduceIte,k1,k2,k5,g])<;>rfl⟩
 have k1:(c==1)=false:=by rw[hk];rfl
 have k2:(c==2)=true:=by rw[hk];rfl
 have k5:(c==5)=false:=by rw[hk];rfl
 have g:(c==15)=false:=by rw[hk];rfl
 refine L0<|p8 (hf:=(by subst hk;kernel_rfl)) F c (.agg #[.nilFunc,.nilFunc]) (some (1,.agg #[.func (.func 140) #[.agg #[vP d 0,vP a 0]] #[],.func (.func 141) #[.agg #[vP d 0,vP a 0]] #[]]))<|Pl 3<|aO #[.nilFunc,.nilFunc] fun cn co bg bh an=>aN bh #[.func (.func 140) #[.agg #[vP d 0,vP a 0]] #[],.func (.func 141) #[.agg #[vP d 0,vP a 0]] #[]] fun cq bi ao=>al 1<|sq<|aB 2<|c0<|bM<|aA 2<|aD bi 1<|?_
 have a2:=ud an ao bg
 refine L0<|gk #[.agg #[vP d 0,vP a 0]] #[] (args:=#[.agg #[vP d 0,vP a 0]])<|m3 (nT (c:=c) ⟨hcode1,hcode2⟩ (ah.old D (aK G a2)) (ub (aK v a2) I) (Ne.symm (nb (ag p) f.size r))) fun cr bj bk bl=>?_
 obtain⟨ct,bm,bn⟩:=bk
 refine ab bj fun bo bp bq=>?_
 refine nt<|?_
 exact L (bo,_,(iy c (aF.mk b false 0)).2) ⟨(uz a2 bl),bq,bm.1,(aH.lo bn (le (le (le (le (le (le (le (le (le (le (le (le t.size z.size) f.size) i.size) s.size) j.size) k.size) l.size) n.size) o.size) u.size) an.size) ao.size)),by subst bp;unfold aL bt ;(try simp only[bC,gT,gS,gQ,gR,gP,reduceIte,k1,k2,k5,g])<;>rfl⟩
 have k1:(c==1)=false:=by rw[hk];rfl
 have k2:(c==2)=false:=by rw[hk];rfl
 have k5:(c==5)=true:=by rw[hk];rfl
 have g:(c==15)=false:=by rw[hk];rfl
 refine L0<|p8 (hf:=(by subst hk;kernel_rfl)) F c (.agg #[.nilFunc,.nilFunc]) (some (2,.agg #[.func (.func 142) #[.agg #[vP d 0,vP a 0]] #[],.func (.func 142) #[.agg #[vP d 0,vP a 0]] #[]]))<|Pl 3<|aO #[.nilFunc,.nilFunc] fun cu cv br bs ap=>aN bs #[.func (.func 142) #[.agg #[vP d 0,vP a 0]] #[],.func (.func 142) #[.agg #[vP d 0,vP a 0]] #[]] fun cx bu aq=>al 1<|sq<|aB 2<|c0<|bM<|aA 2<|aD bu 1<|?_
 have a3:=ud ap aq br
 refine L0<|gk #[.agg #[vP d 0,vP a 0]] #[] (args:=#[.agg #[vP d 0,vP a 0]])<|m3 (o6 (c:=c) ⟨hcode1,hcode2⟩ (ah.old D (aK G a3)) (ub (aK v a3) I) (Ne.symm (nb (ag p) f.size r))) fun cy bw bx bz=>?_
 obtain⟨cz,bA,bB⟩:=bx
 refine ab bw fun bD bE bF=>?_
 refine nt<|?_
 exact L (bD,_,(fE c (aF.mk b false 0)).2) ⟨(uz a3 bz),bF,bA.1,(aH.lo bB (le (le (le (le (le (le (le (le (le (le (le (le t.size z.size) f.size) i.size) s.size) j.size) k.size) l.size) n.size) o.size) u.size) ap.size) aq.size)),by subst bE;unfold aL bt ;(try simp only[bC,gT,gS,gQ,gR,gP,reduceIte,k1,k2,k5,g])<;>rfl⟩
 have k1:(c==1)=false:=by rw[hk];rfl
 have k2:(c==2)=false:=by rw[hk];rfl
 have k5:(c==5)=false:=by rw[hk];rfl
 have g:(c==15)=true:=by rw[hk];rfl
 refine L0<|p8 (hf:=(by subst hk;kernel_rfl)) F c (.agg #[.nilFunc,.nilFunc]) (some (3,.agg #[.func (.func 143) #[.agg #[vP d 0,vP a 0]] #[],.func (.func 144) #[.agg #[vP d 0,vP a 0]] #[]]))<|Pl 3<|aO #[.nilFunc,.nilFunc] fun cA cB bG bH ar=>aN bH #[.func (.func 143) #[.agg #[vP d 0,vP a 0]] #[],.func (.func 144) #[.agg #[vP d 0,vP a 0]] #[]] fun cC bI au=>al 1<|sq<|aB 2<|c0<|bM<|aA 2<|aD bI 1<|?_
 have a4:=ud ar au bG
 refine L0<|gk #[.agg #[vP d 0,vP a 0]] #[] (args:=#[.agg #[vP d 0,vP a 0]])<|m3 (zi (c:=c) ⟨hcode1,hcode2⟩ (ah.old D (aK G a4)) (ub (aK v a4) I) (Ne.symm (nb (ag p) f.size r))) fun cD bJ bK bL=>?_
 obtain⟨cE,bN,bO⟩:=bK
 refine ab bJ fun bP bR bS=>?_
 refine nt<|?_
 exact L (bP,_,(fO 1968 c (aF.mk b false 0)).2) ⟨(uz a4 bL),bS,bN.1,(aH.lo bO (le (le (le (le (le (le (le (le (le (le (le (le t.size z.size) f.size) i.size) s.size) j.size) k.size) l.size) n.size) o.size) u.size) ar.size) au.size)),by subst bR;unfold aL bt ;(try simp only[bC,gT,gS,gQ,gR,gP,reduceIte,k1,k2,k5,g])<;>rfl⟩
 have k1:(c==1)=false:=by simpa using hk.1
 have k2:(c==2)=false:=by simpa using hk.2.1
 have k5:(c==5)=false:=by simpa using hk.2.2.1
 have g:(c==15)=false:=by simpa using hk.2.2.2
 refine L0<|p8 (hf:=(DM (q:=.u8) (x:=c) #[⟨vB 1,.agg #[.func (.func 140) #[.agg #[vP d 0,vP a 0]] #[],.func (.func 141) #[.agg #[vP d 0,vP a 0]] #[]],0⟩,⟨vB 2,.agg #[.func (.func 140) #[.agg #[vP d 0,vP a 0]] #[],.func (.func 141) #[.agg #[vP d 0,vP a 0]] #[]],1⟩,⟨vB 5,.agg #[.func (.func 142) #[.agg #[vP d 0,vP a 0]] #[],.func (.func 142) #[.agg #[vP d 0,vP a 0]] #[]],2⟩,⟨vB 15,.agg #[.func (.func 143) #[.agg #[vP d 0,vP a 0]] #[],.func (.func 144) #[.agg #[vP d 0,vP a 0]] #[]],3⟩] (fQ _ _ (by intro e he;simp only[List.mem_cons,List.not_mem_nil,or_false] at he;obtain⟨z1,z2,z5,cF⟩:=hk;rcases he with rfl | rfl | rfl | rfl<;>exact⟨_,rfl,fun h=>by simp_all⟩)))) F c (.agg #[.nilFunc,.nilFunc]) none<|Pl 3<|aO #[.nilFunc,.nilFunc] fun cG cH bT bU bV=>aN bU #[.nilFunc,.nilFunc] fun cI cJ bW=>al 1<|sq<|aB 2<|c1<|aA 1<|?_
 have aw:=ud bV bW bT
 refine aN (ub (aK B (aK v aw)) H) mZ fun cK bX bY=>al 1<|bQ<|eA bX (vI 4)<|?_
 exact dQ (by unfold aL bt;(try simp only[bC,gT,gS,gQ,gR,gP,reduceIte,k1,k2,k5,g])<;>rfl) (cl (ud (aK Q v) (uz aw bY) P))
theorem nH(hcode:B8 c)(hsl:aW m w (.slice A b.length cp) b)(hb:b.length≤1048576)(hd:¬ (dir=0∨dir=1)) :
    Calls Tryz.prog 96 #[vI dir,vB c,.slice A b.length cp] w (ef (aL bt dir c b) w):=by
 obtain⟨hcode1,hcode2⟩:=hcode
 have hln:(b.length:Int)≤1048576:=by omega
 have e0:(dir != 0)=true:=by simp;omega
 have e1:(dir != 1)=true:=by simp;omega
 refine en 72 Tryz.func96 rfl<|sg<|aO mZ fun g h a d e=>al 1<|sq<|aA 3<|sy 16 e0<|Pl 3<|nl<|tn<|ct e1<|aA 1<|aN d mZ fun i eT f=>al 1<|bQ<|eA eT (vI 1)<|?_
 exact dQ (by unfold aL bt;(try simp only[e0,e1,bC,gT,gS,gQ,gR,gP,reduceIte,hd])<;>rfl) (cl (ud e f a))
theorem lx(hc:B8 c)(h:aW m w v b)(hb:b.length≤1048576) :
    Calls Tryz.prog 96 #[.int .i64 dir,.int .u8 c,v] w (ef (aL bt dir c b) w):=by
  obtain⟨A,cp,rfl,_,_⟩:=h.shape
  by_cases h0:dir=0
  · subst h0;exact nz hc h hb
  by_cases h1:dir=1
  · subst h1;exact nD hc h hb
  exact nH hc h hb (by omega)
open Go.RowKit
def dN (c:aF) : aF:=(c.wordsC 1).need (c.wordV==0 || c.wordV==65535) 6
theorem CI{v:Int}(h:0≤v∧v<65536) : bits .and .u16 v 255=v%256:=by
  rw[u16_and v 255 h.1 h.2 (by decide) (by decide)]
  show((v.toNat &&& (2 ^ 8-1) : Nat) : Int)=_
  rw[Nat.and_two_pow_sub_one_eq_mod]
  omega
def mu (dir sub v:Int) : Bool:=if (sub==2 || (decide (11≤sub)&&decide (sub≤18)))&&dir==1 then true else if sub==1 then v==0 || v==65280 else if sub==3 then v%256==0 else v==0
theorem qV{c:aF}  (hc:ah w g c) :
    Calls Tryz.prog 212 #[vP g 0] w (nM g .u16 65536 c.wordV (dN c) w):=by
 have hr:=hc.wordV
 refine en 15 Tryz.func212 rfl<|aA 1<|aU 1<|aG<|m3 (bK hc) fun k a b l=>al 1<|sq<|go<|Pl 4<|s8 3 [9] 12 9 (c.wordV==0) (c.wordV==65535) (fun K d e=>?_) ?_
 have m:=aS e
 exact Pl 3<|ce d _ rfl
 refine aG<|m2 (aY (((c.wordV==0)||(c.wordV==65535))) 6 a) fun n f h=>?_
 refine ab f fun x19 i j=>?_
 refine dK 2<|rt<|rr (vW c.wordV)<|?_
 subst i
 exact⟨rfl,j,(u1 b h im),hr⟩
theorem wZ{v:Int}  : Calls Tryz.prog 231 #[vW v] w (bS (.bool (v==0 || v==65280)) w):=by
 refine en 9 Tryz.func231 rfl<|aA 1<|aU 3<|s8 3 [5] 8 5 (v==0) (v==65280) (fun K a b=>?_) ?_
 have c:=aS b
 exact Pl 3<|ce a _ rfl
 exact al 1<|rt<|rr (.bool ((v==0)||(v==65280)))<|⟨rfl,(ay.refl [] _)⟩
theorem xv{v:Int}  (hv:0≤v∧v<65536) : Calls Tryz.prog 232 #[vW v] w (bS (.bool (v%256==0)) w):=by
 exact en 6 Tryz.func232 rfl<|aA 1<|aU 1<|L0<|Oe (vW (bits .and .u16 v 255)) (vW (v%256)) (congrArg (Value.int .u16) (CI (by omega)))<|al 2<|rt<|rr (.bool ((v%256)==0))<|⟨rfl,(ay.refl [] _)⟩
theorem yL{v x:Int}{gb:Nat}  (hB:w.heap[gb]? = some (.cells #[vW v] 37 (0,0))) : Calls Tryz.prog 230 #[vW x,vP gb 0] w (bS (.bool (v==0)) w):=by
 exact en 6 Tryz.func230 rfl<|aA 1<|ng<|aD hB 0<|al 2<|rt<|rr (.bool (v==0))<|⟨rfl,(ay.refl [] _)⟩
theorem Dc{v:Int}  (hv:0≤v∧v<65536) : Calls Tryz.prog 211 #[vI dir,vW 1,vW v] w (bS (.bool (mu dir 1 v)) w):=by
 refine en 42 Tryz.func211 rfl<|sg<|L0<|cX #[vW v] fun l m n b c=>Pl 1<|aU 2<|ng<|L0<|zT fun o p d e f=>L0<|ip e 1 fun q g h=>L0<|ip g 3 fun r i j=>Pl 2<|dK 11<|sq<|aB 5<|c0<|bM<|aA 2<|L0<|p8 i 1 (.nilFunc) (some (0,.func (.func 231) #[] #[]))<|al 5<|sq<|aB 2<|c0<|bM<|aA 1<|?_
 have a:=ud f (u1 h j im) d
 refine aD (ub a b) 0<|L0<|gk #[] #[] (args:=#[vW v])<|m1 (wZ) fun s k=>al 1<|rt<|rr (.bool (v==0 || v==65280))<|?_
 exact dQ (by unfold mu;(try simp only[bC,reduceIte])<;>rfl) ⟨rfl,(aK c (aK a k))⟩
theorem D3{v:Int}  (hv:0≤v∧v<65536) : Calls Tryz.prog 211 #[vI dir,vW 3,vW v] w (bS (.bool (mu dir 3 v)) w):=by
 refine en 42 Tryz.func211 rfl<|sg<|L0<|cX #[vW v] fun l m n b c=>Pl 1<|aU 2<|ng<|L0<|zT fun o p d e f=>L0<|ip e 1 fun q g h=>L0<|ip g 3 fun r i j=>Pl 2<|dK 11<|sq<|aB 5<|c0<|bM<|aA 2<|L0<|p8 i 3 (.nilFunc) (some (1,.func (.func 232) #[] #[]))<|al 5<|sq<|aB 2<|c0<|bM<|aA 1<|?_
 have a:=ud f (u1 h j im) d
 refine aD (ub a b) 0<|L0<|gk #[] #[] (args:=#[vW v])<|m1 (xv hv) fun s k=>al 1<|rt<|rr (.bool (v%256==0))<|?_
 exact dQ (by unfold mu;(try simp only[bC,reduceIte])<;>rfl) ⟨rfl,(aK c (aK a k))⟩
theorem Ck{sub v:Int}  (hv:0≤v∧v<65536)(h1:sub≠1)(h3:sub≠3) : Calls Tryz.prog 211 #[vI dir,vW sub,vW v] w (bS (.bool (mu dir sub v)) w):=by
 have n1:(sub==1)=false:=by simpa using h1
 have n3:(sub==3)=false:=by simpa using h3
 refine en 42 Tryz.func211 rfl<|sg<|L0<|cX #[vW v] fun c D E k l=>Pl 1<|aU 2<|ng<|L0<|zT fun F G m n o=>L0<|ip n 1 fun H p r=>L0<|ip p 3 fun I s t=>Pl 2<|aU 3<|cu 7 [17] 24 (((sub==2)||((decide (11≤sub))&&(decide (sub≤18))))) (fun K d=>?_) ?_
 refine bl 17 ((sub==2)) (fun a=>?_) (fun a=>?_)
 have u:=aI a
 exact Pl 7<|ce d true (by rw[a];rfl)
 have u:=aS a
 refine Pl 3<|ij 3 [20] 23 20 (decide (11≤sub)) (decide (sub≤18)) (fun K y z=>?_) ?_
 have J:=of_decide_eq_true z
 exact Pl 3<|ce y _ rfl
 exact Pl 1<|ce d ((decide (11≤sub))&&(decide (sub≤18))) (by rw[a];rfl)
 refine al 1<|sq<|aA 2<|ij 3 [26] 29 26 ((sub==2)||((decide (11≤sub))&&(decide (sub≤18)))) (dir==1) (fun K A L=>?_) ?_
 exact Pl 3<|ce A _ rfl
 refine nt<|?_
 have f:=ud o (u1 r t im) m
 have g:=aK l f
 refine cb ((((sub==2)||((decide (11≤sub))&&(decide (sub≤18))))&&(dir==1))) (fun b=>?_) (fun b=>?_)
 have B:=(bW b).1
 have i:=(bW b).2
 have M:=aI i
 exact aB 1<|bQ<|rr (.bool true)<|dQ (by unfold mu;(try simp only[b,B,i,bC,n1,n3,reduceIte])<;>rfl) ⟨rfl,g⟩
 refine bM<|aA 2<|L0<|p8 (hf:=(DM (q:=.u16) (x:=sub) #[⟨vW 1,.func (.func 231) #[] #[],0⟩,⟨vW 3,.func (.func 232) #[] #[],1⟩] (fQ _ _ (by intro e he;simp only[List.mem_cons,List.not_mem_nil,or_false] at he;rcases he with rfl | rfl;exact⟨_,rfl,fun h=>h1 h.symm⟩;exact⟨_,rfl,fun h=>h3 h.symm⟩)))) s sub (.nilFunc) none<|al 5<|sq<|aA 2<|nl<|tn<|c1<|go<|Pl 2<|aU 1<|?_
 have j:=ub f k
 refine aD j 0<|L0<|gk #[] #[vP c 0] (args:=#[vW v,vP c 0])<|m1 (yL j) fun N C=>al 1<|rt<|rr (.bool (v==0))<|?_
 exact dQ (by unfold mu;(try simp only[b,bC,n1,n3,reduceIte])<;>rfl) ⟨rfl,(aK g C)⟩
theorem AR{sub v:Int}  (hv:0≤v∧v<65536) : Calls Tryz.prog 211 #[.int .i64 dir,.int .u16 sub,.int .u16 v] w (bS (.bool (mu dir sub v)) w):=by
  by_cases h1:sub=1
  · subst h1;exact Dc hv
  by_cases h3:sub=3
  · subst h3;exact D3 hv
  exact Ck hv h1 h3
open Go.RowKit
def i5 (dir:Int)(C:aF) : aF:=(C.wordsC 1).need (hZ C.wordV&&(dir==0 || C.wordV != 4)) 8
def o8 (C:aF) : aF:=C.need (((C.l.length:Int)%2==0&&decide (2≤(C.l.length:Int)))&&decide ((C.l.length:Int)≤250)) 5
def eH (dir c:Int)(C:aF) : aF × b7 :=
  if C.wordV != 0 then (((i5 dir C).wordsC 1).need ((((i5 dir C).wordsR 1).length:Int)==1&&mu dir C.wordV (((i5 dir C).wordsR 1).getD 0 0)) 6,{ b7.zero with code:=c,sub:=C.wordV,words:=(i5 dir C).wordsR 1 })
  else ((o8 (i5 dir C)).wordsC (((i5 dir C).l.length:Int)/2),{ b7.zero with code:=c,sub:=C.wordV,words:=(o8 (i5 dir C)).wordsR (((i5 dir C).l.length:Int)/2) })
def gq (C:aF)(lo hi:Int) : aF:=(C.bytesC 1).need (decide (lo≤C.byteV)&&decide (C.byteV≤hi)) 5
def iJ (C:aF) : aF:=((dN (gq C 6 70)).wordsC 1).wordsC 1
def cC (c:Int)(C:aF) : aF × b7 :=
  if c==7 then (C.bytesC 1,{ b7.zero with code:=c,value:=C.byteV })
  else if c==11 then ((dN C).wordsC 1,{ b7.zero with code:=c,status:=C.wordV,events:=(dN C).wordV })
  else if c==12 then ((iJ C).bytesC (C.byteV-6),{ b7.zero with code:=c,status:=(gq C 6 70).wordV,events:=(dN (gq C 6 70)).wordV,messages:=((dN (gq C 6 70)).wordsC 1).wordV,data:=(iJ C).bytesR (C.byteV-6) })
  else if c==17 then ((gq C 1 251).bytesC C.byteV,{ b7.zero with code:=c,data:=(gq C 1 251).bytesR C.byteV })
  else (C,{ b7.zero with code:=c })
theorem pN(hcode:B8 c)(hC:ah w g C)(hm:w.heap[gm]? = some (.cells #[vB c,vB 0,vW 0,vW 0,vW 0,vW 0,vW 0,vW 0,vW 0,vW 0,vW 0,vW 0,nS,nS,nS,nS,vB 0,vB 0,vB 0,vB 0,vB 0,nS] 45 (0,0)))(hne:g≠gm) :
    Calls Tryz.prog 150 #[vI dir,vP g 0,vP gm 0] w (cg g gm (eH dir c C).1 (eH dir c C).2 w):=by
 obtain⟨hcode1,hcode2⟩:=hcode
 have hlen:=hC.len
 refine en 84 Tryz.func150 rfl<|aA 2<|aG<|m3 (bK hC) fun aX Z o b0=>Pl 2<|?_
 have I:=bf o (Ne.symm hne) hm
 refine L0<|cA I 8 (mG c 0 0 0 0 0 0 0 C.wordV 0 0 0 nS nS nS nS 0 0 0 0 0 nS) fun b1 eT s=>aU 4<|aD eT 8<|aG<|m1 (xY (x:=C.wordV) (w:=_)) fun b2 j=>Pl 1<|cu 10 [18] 28 (((hZ C.wordV)&&((dir==0)||(C.wordV != 4)))) (fun K J=>?_) ?_
 refine bl 18 ((hZ C.wordV)) (fun t=>?_) (fun t=>?_)
 refine Pl 3<|s8 6 [21] 27 21 (dir==0) (C.wordV != 4) (fun K a0 a1=>?_) ?_
 have b3:=aS a1
 refine Pl 3<|?_
 exact L1<|iH (ub j eT) 8<|Pl 2<|ce a0 _ rfl
 exact Pl 1<|ce J ((dir==0)||(C.wordV != 4)) (by rw[t];rfl)
 exact Pl 10<|ce J false (by rw[t];rfl)
 have L:=aK s j
 refine aG<|m2 (aY (((hZ C.wordV)&&((dir==0)||(C.wordV != 4)))) 8 (ah.upd Z L (aa hne av) (am (b6 I (by decide)) aP))) fun b4 a2 q=>?_
 refine ab a2 fun x30 u r=>?_
 refine nt<|sq<|aA 3<|?_
 have y:=bf (uz j q) (Ne.symm hne) eT
 refine aD y 8<|al 1<|?_
 have b:=ui o (us L q)
 refine cb ((C.wordV != 0)) (fun f=>?_) (fun f=>?_)
 have a3:=aR f
 refine aA 2<|aG<|tS (ek (n:=1) r) fun M N b5 i b8 b9 O P=>Pl 2<|?_
 have z:=bf P (Ne.symm hne) y
 refine L0<|cA z 12 (mG c 0 0 0 0 0 0 0 C.wordV 0 0 0 (.slice M ((x30.wordsR 1).length) N) nS nS nS 0 0 0 0 0 nS) fun ba a4 a5=>nt<|sq<|Rg 22 (fun w'=>w'.cell? ⟨gm,12,none⟩=some (.slice M ((x30.wordsR 1).length) N)∧w'.cell? ⟨gm,8,none⟩=some (vW C.wordV)) fun bb Q=>?_
 have d:=ub Q a4
 refine bi ⟨(ae d rfl),(ae d rfl)⟩ fun a=>Rt 0 a<|Rt 1 a<|Rt 2 a<|Rt 3 a<|Rl 4 a (fun _ hs=>hs.1)<|Rt 5 a<|Rt 6 a<|Rt 7 a<|?_
 have k:=aK a5 Q
 have R:=ut b (us P k) (ac im (ac im aC))
 refine zv 47 ((((x30.wordsR 1).length:Int)==1)) (fun m=>?_) (fun m=>?_)
 have a6:=aI m
 refine Rt 8 a<|Rt 9 a<|Rt 10 a<|Rt 11 a<|Rl 12 a (fun _ hs=>hs.2)<|Rt 13 a<|Rt 14 a<|Rt 15 a<|Rl 16 a (fun _ hs=>hs.1)<|?_
 have S:=ak i k (fun x hx=>(aa (fun e=>(az (ag hm) b.size i) (e▸hx)) av)) (fun _ _ h=>h)
 refine kf (fv.at_ (S).rd 0 (by omega)) fun a7 a8 a9 ad bc=>R0 17 rfl<|lW ((x30.wordsR 1).length) 0 a9 (by omega)<|bi ⟨(ae d rfl),(ae d rfl)⟩ fun bd=>R0 18 rfl<|jO (p:=⟨a7,a8+0,none⟩) (v:=vW ((x30.wordsR 1).getD 0 0)) ad<|bi ⟨(ae d rfl),(ae d rfl)⟩ fun be=>R0 19 rfl<|Oc<|m1 (AR (dir:=dir) (sub:=C.wordV) (v:=((x30.wordsR 1).getD 0 0)) (by omega)) fun bg A=>?_
 have B:=ub A d
 refine bi ⟨(ae B rfl),(ae B rfl)⟩ fun af=>Rt 20 af<|?_
 refine R0 21 rfl<|Oc<|m2 (aY ((mu dir C.wordV ((x30.wordsR 1).getD 0 0))) 6 (ah.upd O (aK k A) (aa hne av) (am (b6 z (by decide)) aP))) fun bh ai T=>?_
 refine ab ai fun bj aj an=>?_
 have D:=bf T (Ne.symm hne) B
 refine bi ⟨(ae D rfl),(ae D rfl)⟩ fun bk=>re<|tn<|bQ<|rr (.tuple #[])<|?_
 subst aj u
 have U:=uz A T
 have hs:eH dir c C=(((((C.wordsC 1).need ((hZ C.wordV)&&((dir==0)||(C.wordV != 4))) 8).wordsC 1).need (mu dir C.wordV ((((C.wordsC 1).need ((hZ C.wordV)&&((dir==0)||(C.wordV != 4))) 8).wordsR 1).getD 0 0)) 6),(b7.mk c 0 0 0 0 0 0 0 C.wordV 0 0 0 (((C.wordsC 1).need ((hZ C.wordV)&&((dir==0)||(C.wordV != 4))) 8).wordsR 1) [] [] [] 0 0 0 0 0 [])):=by
   unfold eH i5 o8
   (try simp only[f,m,bC,reduceIte])
   all_goals rfl
 rw[hs]
 exact⟨rfl,an,⟨_,⟨D,rfl⟩,⟨_,_,_,_,_,rfl,(aQ.hi (ak S U (fun x hx=>(aa (fun e=>(az (ah.lt hC) b.size i) (e▸hx)) av)) (fun _ _ h=>h)) b.size),aT.nil ..,aT.nil ..,aT.nil ..,aT.nil ..,(eR (by omega))⟩⟩,(ay.mono (S':=[g,gm]) (u1 R U im) (BK (Or.inl (by simp)) (Or.inl (by simp))))⟩
 have a6:=aS m
 refine Ro 8 a<|Ro 9 a<|Ro 10 a<|Ro 11 a<|Ro 12 a<|Ro 13 a<|Ro 14 a<|Ro 15 a<|Ro 16 a<|Ro 17 a<|Ro 18 a<|Ro 19 a<|Rt 20 a<|?_
 refine R0 21 rfl<|Oc<|m2 (aY (false) 6 (ah.upd O k (aa hne av) (am (b6 z (by decide)) aP))) fun bm ao E=>?_
 have F:=bf E (Ne.symm hne) d
 refine bi ⟨(ae F rfl),(ae F rfl)⟩ fun bn=>re<|tn<|bQ<|rr (.tuple #[])<|?_
 subst u
 have hs:eH dir c C=(((((C.wordsC 1).need ((hZ C.wordV)&&((dir==0)||(C.wordV != 4))) 8).wordsC 1).need false 6),(b7.mk c 0 0 0 0 0 0 0 C.wordV 0 0 0 (((C.wordsC 1).need ((hZ C.wordV)&&((dir==0)||(C.wordV != 4))) 8).wordsR 1) [] [] [] 0 0 0 0 0 [])):=by
   unfold eH i5 o8
   (try simp only[f,m,bC,reduceIte])
   all_goals rfl
 rw[hs]
 exact⟨rfl,ao,⟨_,⟨F,rfl⟩,⟨_,_,_,_,_,rfl,(aQ.hi (ak i (us k E) (fun x hx=>(aa (fun e=>(az (ag hm) b.size i) (e▸hx)) (aa (fun e=>(az (ah.lt hC) b.size i) (e▸hx)) av))) (fun _ _ h=>h)) b.size),aT.nil ..,aT.nil ..,aT.nil ..,aT.nil ..,(eR (by omega))⟩⟩,(ay.mono (S':=[g,gm]) (u1 R E im) (BK (Or.inl (by simp)) (Or.inl (by simp))))⟩
 have a3:=aZ f
 refine bM<|aA 1<|aG<|mq (ea r)<|?_
 have bo:=ah.len r
 refine Pl 1<|aU 2<|L0<|Oe (vI (Int.tmod (x30.l.length:Int) 2)) (vI ((x30.l.length:Int)%2)) (congrArg (Value.int .i64) (Int.tmod_eq_emod_of_nonneg (by omega)))<|Pl 2<|ij 3 [68] 71 68 (((x30.l.length:Int)%2)==0) (decide (2≤(x30.l.length:Int))) (fun K ap aq=>?_) ?_
 have bp:=aI aq
 exact Pl 3<|ce ap _ rfl
 refine Pl 1<|ij 3 [72] 75 72 ((((x30.l.length:Int)%2)==0)&&(decide (2≤(x30.l.length:Int)))) (decide ((x30.l.length:Int)≤250)) (fun K ar V=>?_) ?_
 have au:=(bW V).1
 have aw:=(bW V).2
 have bq:=aI au
 have br:=of_decide_eq_true aw
 exact Pl 3<|ce ar _ rfl
 refine aG<|m2 (aY ((((((x30.l.length:Int)%2)==0)&&(decide (2≤(x30.l.length:Int))))&&(decide ((x30.l.length:Int)≤250)))) 5 r) fun bs ax G=>?_
 refine ab ax fun aB aE aH=>?_
 refine nt<|go<|Pl 3<|L0<|Oe (vI (IntKind.i64.wrap (Int.tdiv (x30.l.length:Int) 2))) (vI ((x30.l.length:Int)/2)) (congrArg (Value.int .i64) (tG (by omega) (by omega)))<|aG<|tS (ek (n:=((x30.l.length:Int)/2)) aH) fun aJ aL bt W bu bv aM aN=>?_
 refine ab aM fun bw aO aV=>?_
 refine Pl 2<|?_
 have X:=u1 G aN im
 have Y:=bf X (Ne.symm hne) y
 refine L0<|cA Y 12 (mG c 0 0 0 0 0 0 0 C.wordV 0 0 0 (.slice aJ ((aB.wordsR ((x30.l.length:Int)/2)).length) aL) nS nS nS 0 0 0 0 0 nS) fun bx aW H=>nl<|rm (.tuple #[])<|?_
 subst aO aE u
 have hs:eH dir c C=(((((C.wordsC 1).need ((hZ C.wordV)&&((dir==0)||(C.wordV != 4))) 8).need ((((((((C.wordsC 1).need ((hZ C.wordV)&&((dir==0)||(C.wordV != 4))) 8).l.length:Nat) : Int)%2)==0)&&(decide (2≤((((C.wordsC 1).need ((hZ C.wordV)&&((dir==0)||(C.wordV != 4))) 8).l.length:Nat) : Int))))&&(decide (((((C.wordsC 1).need ((hZ C.wordV)&&((dir==0)||(C.wordV != 4))) 8).l.length:Nat) : Int)≤250))) 5).wordsC (((((C.wordsC 1).need ((hZ C.wordV)&&((dir==0)||(C.wordV != 4))) 8).l.length:Nat) : Int)/2)),(b7.mk c 0 0 0 0 0 0 0 C.wordV 0 0 0 ((((C.wordsC 1).need ((hZ C.wordV)&&((dir==0)||(C.wordV != 4))) 8).need ((((((((C.wordsC 1).need ((hZ C.wordV)&&((dir==0)||(C.wordV != 4))) 8).l.length:Nat) : Int)%2)==0)&&(decide (2≤((((C.wordsC 1).need ((hZ C.wordV)&&((dir==0)||(C.wordV != 4))) 8).l.length:Nat) : Int))))&&(decide (((((C.wordsC 1).need ((hZ C.wordV)&&((dir==0)||(C.wordV != 4))) 8).l.length:Nat) : Int)≤250))) 5).wordsR (((((C.wordsC 1).need ((hZ C.wordV)&&((dir==0)||(C.wordV != 4))) 8).l.length:Nat) : Int)/2)) [] [] [] 0 0 0 0 0 [])):=by
   unfold eH i5 o8
   (try simp only[f,bC,reduceIte])
   all_goals rfl
 rw[hs]
 exact⟨rfl,(ah.upd aV H (aa hne av) (am (b6 Y (by decide)) aP)),⟨_,⟨aW,rfl⟩,⟨_,_,_,_,_,rfl,(aQ.hi (ak W H (fun x hx=>(aa (fun e=>(az (ag hm) (le (le (le (le o.size s.size) j.size) q.size) G.size) W) (e▸hx)) av)) (fun _ _ h=>h)) (le (le (le (le o.size s.size) j.size) q.size) G.size)),aT.nil ..,aT.nil ..,aT.nil ..,aT.nil ..,(eR (by omega))⟩⟩,(ay.mono (S':=[g,gm]) (ut b (us X H) (ac im (ac im aC))) (BK (Or.inl (by simp)) (Or.inl (by simp))))⟩
theorem iE(hcode:B8 c)(hC:ah w g C)(hm:w.heap[gm]? = some (.cells #[vB c,vB 0,vW 0,vW 0,vW 0,vW 0,vW 0,vW 0,vW 0,vW 0,vW 0,vW 0,nS,nS,nS,nS,vB 0,vB 0,vB 0,vB 0,vB 0,nS] 45 (0,0)))(hne:g≠gm) :
    Calls Tryz.prog 151 #[vP g 0,vP gm 0] w (cg g gm (cC c C).1 (cC c C).2 w):=by
 obtain⟨hcode1,hcode2⟩:=hcode
 have hlen:=hC.len
 refine en 84 Tryz.func151 rfl<|aA 3<|aD hm 0<|nt<|bk<|aB 2<|cb ((c==7)) (fun a=>?_) (fun a=>?_)
 have S:=aI a
 refine go<|Pl 2<|aG<|m3 (bJ hC) fun aL T l aM=>L0<|F1 C.byteV<|Pl 2<|?_
 have m:=bf l (Ne.symm hne) hm
 refine L0<|cA m 4 (mG c 0 0 0 C.byteV 0 0 0 0 0 0 0 nS nS nS nS 0 0 0 0 0 nS) fun aN U o=>nl<|bn<|rm (.tuple #[])<|?_
 have hs:cC c C=((C.bytesC 1),(b7.mk c 0 0 0 C.byteV 0 0 0 0 0 0 0 [] [] [] [] 0 0 0 0 0 [])):=by
   unfold cC iJ gq
   (try simp only[a,bC,reduceIte])
   all_goals rfl
 rw[hs]
 exact⟨rfl,(ah.upd T o (aa hne av) (am (b6 m (by decide)) aP)),⟨_,⟨U,rfl⟩,⟨_,_,_,_,_,rfl,aT.nil ..,aT.nil ..,aT.nil ..,aT.nil ..,aT.nil ..,(eR (by omega))⟩⟩,(us l o)⟩
 have S:=aS a
 refine aB 2<|cb ((c==11)) (fun b=>?_) (fun b=>?_)
 have V:=aI b
 refine aA 2<|aG<|m3 (qV hC) fun aO W p aQ=>Pl 2<|?_
 have r:=bf p (Ne.symm hne) hm
 refine L0<|cA r 9 (mG c 0 0 0 0 0 0 0 0 C.wordV 0 0 nS nS nS nS 0 0 0 0 0 nS) fun aR X s=>nt<|go<|Pl 2<|?_
 refine aG<|m3 (bK (ah.upd W s (aa hne av) (am (b6 r (by decide)) aP))) fun aV Y t aX=>Pl 2<|?_
 have u:=bf t (Ne.symm hne) X
 refine L0<|cA u 10 (mG c 0 0 0 0 0 0 0 0 C.wordV ((dN C).wordV) 0 nS nS nS nS 0 0 0 0 0 nS) fun aZ Z v=>nl<|bn<|rm (.tuple #[])<|?_
 have hs:cC c C=(((dN C).wordsC 1),(b7.mk c 0 0 0 0 0 0 0 0 C.wordV ((dN C).wordV) 0 [] [] [] [] 0 0 0 0 0 [])):=by
   unfold cC iJ gq
   (try simp only[a,b,bC,reduceIte])
   all_goals rfl
 rw[hs]
 exact⟨rfl,(ah.upd Y v (aa hne av) (am (b6 u (by decide)) aP)),⟨_,⟨Z,rfl⟩,⟨_,_,_,_,_,rfl,aT.nil ..,aT.nil ..,aT.nil ..,aT.nil ..,aT.nil ..,(eR (by omega))⟩⟩,(ui p (ui s (us t v)))⟩
 have V:=aS b
 refine aB 2<|cb ((c==12)) (fun d=>?_) (fun d=>?_)
 have a0:=aI d
 refine aA 1<|aG<|m3 (bJ hC) fun b0 a1 x b1=>bD C.byteV<|Pl 1<|aU 4<|ij 3 [38] 41 38 (decide (6≤C.byteV)) (decide (C.byteV≤70)) (fun K a2 a3=>?_) ?_
 have b2:=of_decide_eq_true a3
 exact Pl 3<|ce a2 _ rfl
 refine aG<|m2 (aY (((decide (6≤C.byteV))&&(decide (C.byteV≤70)))) 5 a1) fun b3 a4 y=>?_
 refine ab a4 fun x53 a5 a6=>?_
 refine aU 2<|aG<|m3 (qV a6) fun b4 a7 z b5=>Pl 2<|?_
 have A:=u1 x (u1 y z im) im
 have B:=bf A (Ne.symm hne) hm
 refine L0<|cA B 9 (mG c 0 0 0 0 0 0 0 0 x53.wordV 0 0 nS nS nS nS 0 0 0 0 0 nS) fun b8 a8 f=>aU 3<|?_
 refine aG<|m3 (bK (ah.upd a7 f (aa hne av) (am (b6 B (by decide)) aP))) fun b9 a9 D ba=>Pl 1<|aG<|m3 (bK a9) fun bb ac E bc=>?_
 refine ab ac fun BA ad ae=>?_
 refine Pl 2<|?_
 have F:=u1 D E im
 have G:=bf F (Ne.symm hne) a8
 refine L0<|cA G 10 (mG c 0 0 0 0 0 0 0 0 x53.wordV ((dN x53).wordV) 0 nS nS nS nS 0 0 0 0 0 nS) fun bd af H=>Pl 2<|L0<|cA af 11 (mG c 0 0 0 0 0 0 0 0 x53.wordV ((dN x53).wordV) (((dN x53).wordsC 1).wordV) nS nS nS nS 0 0 0 0 0 nS) fun be ag I=>nt<|go<|Pl 3<|bD (C.byteV-6)<|?_
 have J:=u1 H I im
 have L:=ah.upd ae J (aa hne av) (am (b6 G (by decide)) aP)
 refine aG<|w6 (cc (n:=(C.byteV-6)) L) fun ai aj bg ak bh bi al M=>?_
 have bj:=Nat.le_trans (aF.bytesR_le BA (C.byteV-6)) (ah.len L)
 refine Pl 2<|?_
 have h:=bf M (Ne.symm hne) ag
 refine L0<|cA h 14 (mG c 0 0 0 0 0 0 0 0 x53.wordV ((dN x53).wordV) (((dN x53).wordsC 1).wordV) nS nS (.slice ai ((BA.bytesR (C.byteV-6)).length) aj) nS 0 0 0 0 0 nS) fun bl an i=>nl<|bn<|rm (.tuple #[])<|?_
 subst ad a5
 have hs:cC c C=(((((dN ((C.bytesC 1).need ((decide (6≤C.byteV))&&(decide (C.byteV≤70))) 5)).wordsC 1).wordsC 1).bytesC (C.byteV-6)),(b7.mk c 0 0 0 0 0 0 0 0 (((C.bytesC 1).need ((decide (6≤C.byteV))&&(decide (C.byteV≤70))) 5).wordV) ((dN ((C.bytesC 1).need ((decide (6≤C.byteV))&&(decide (C.byteV≤70))) 5)).wordV) (((dN ((C.bytesC 1).need ((decide (6≤C.byteV))&&(decide (C.byteV≤70))) 5)).wordsC 1).wordV) [] [] ((((dN ((C.bytesC 1).need ((decide (6≤C.byteV))&&(decide (C.byteV≤70))) 5)).wordsC 1).wordsC 1).bytesR (C.byteV-6)) [] 0 0 0 0 0 [])):=by
   unfold cC iJ gq
   (try simp only[a,b,d,bC,reduceIte])
   all_goals rfl
 rw[hs]
 exact⟨rfl,(ah.upd al i (aa hne av) (am (b6 h (by decide)) aP)),⟨_,⟨an,rfl⟩,⟨_,_,_,_,_,rfl,aT.nil ..,aT.nil ..,(aT.hi_le (aW.upd' ak i (am (b6 h (by decide)) aP)) (le (le (le (le (le (le (le x.size y.size) z.size) f.size) D.size) E.size) H.size) I.size) fun _ _ q=>q),aT.nil ..,aT.nil ..,(eR (by omega))⟩⟩,(ui A (ui f (ui F (ui J (us M i)))))⟩
 have a0:=aS d
 refine aB 2<|cb ((c==17)) (fun e=>?_) (fun e=>?_)
 have ao:=aI e
 refine aA 1<|aG<|m3 (bJ hC) fun bm ap N bo=>bD C.byteV<|Pl 1<|aU 4<|ij 3 [73] 76 73 (decide (1≤C.byteV)) (decide (C.byteV≤251)) (fun K aq ar=>?_) ?_
 have bp:=of_decide_eq_true ar
 exact Pl 3<|ce aq _ rfl
 refine aG<|m2 (aY (((decide (1≤C.byteV))&&(decide (C.byteV≤251)))) 5 ap) fun bq au O=>?_
 refine ab au fun P aw Q=>?_
 refine nt<|go<|Pl 3<|aG<|w6 (cc (n:=C.byteV) Q) fun ax az br aE bs bt aH aJ=>?_
 have bu:=Nat.le_trans (aF.bytesR_le P C.byteV) (ah.len Q)
 refine Pl 2<|?_
 have R:=u1 N (u1 O aJ im) im
 have j:=bf R (Ne.symm hne) hm
 refine L0<|cA j 14 (mG c 0 0 0 0 0 0 0 0 0 0 0 nS nS (.slice ax ((P.bytesR C.byteV).length) az) nS 0 0 0 0 0 nS) fun bv aK k=>nl<|bn<|rm (.tuple #[])<|?_
 subst aw
 have hs:cC c C=((((C.bytesC 1).need ((decide (1≤C.byteV))&&(decide (C.byteV≤251))) 5).bytesC C.byteV),(b7.mk c 0 0 0 0 0 0 0 0 0 0 0 [] [] (((C.bytesC 1).need ((decide (1≤C.byteV))&&(decide (C.byteV≤251))) 5).bytesR C.byteV) [] 0 0 0 0 0 [])):=by
   unfold cC iJ gq
   (try simp only[a,b,d,e,bC,reduceIte])
   all_goals rfl
 rw[hs]
 exact⟨rfl,(ah.upd aH k (aa hne av) (am (b6 j (by decide)) aP)),⟨_,⟨aK,rfl⟩,⟨_,_,_,_,_,rfl,aT.nil ..,aT.nil ..,(aT.hi_le (aW.upd' aE k (am (b6 j (by decide)) aP)) (le N.size O.size) fun _ _ q=>q),aT.nil ..,aT.nil ..,(eR (by omega))⟩⟩,(us R k)⟩
 have ao:=aS e
 refine sk<|bn<|rm (.tuple #[])<|?_
 have hs:cC c C=(C,(b7.mk c 0 0 0 0 0 0 0 0 0 0 0 [] [] [] [] 0 0 0 0 0 [])):=by
   unfold cC iJ gq
   (try simp only[a,b,d,e,bC,reduceIte])
   all_goals rfl
 rw[hs]
 exact⟨rfl,hC,⟨_,⟨hm,rfl⟩,⟨_,_,_,_,_,rfl,aT.nil ..,aT.nil ..,aT.nil ..,aT.nil ..,aT.nil ..,(eR (by omega))⟩⟩,(ay.mono (S':=[g,gm]) (ay.refl [] _) aC)⟩
open Go.RowKit
def bE (dir c:Int)(C:aF) : Option (aF × b7) :=
  if c==8 then some (eH dir c C)
  else if c==7 || c==11 || c==12 || c==17 then (if dir==1 then some (cC c C) else some (C,{ b7.zero with code:=c }))
  else none
theorem pz(hcode:B8 c)(hsl:aW m w (.slice A b.length cp) b)(hb:b.length≤1048576) :
    Calls Tryz.prog 100 #[vI 0,vB c,.slice A b.length cp] w (ef (aL bE 0 c b) w):=by
 obtain⟨hcode1,hcode2⟩:=hcode
 have hln:(b.length:Int)≤1048576:=by omega
 refine en 47 Tryz.func100 rfl<|sg<|aO mZ fun H ai t q I=>al 1<|sq<|aB 6<|c0<|bM<|aA 2<|aO mZ fun a aj k u R=>aN u (mC c) fun ak l v=>aU 1<|?_
 have n:=ud R v k
 have y:=aK I n
 refine aG<|e3 (dI (aW.old hsl y) (by omega)) fun d S r o f=>al 1<|DO (fun x=>[(6,vP H 0),(8,vP a 0),(9,vP d 0)]) (fun(x:aF × Array Value × b7) w'=>ay [d,a] S w'∧ah w' d x.1∧w'.heap[a]? = some (.cells x.2.1 45 (0,0))∧aH (.hi w.heap.size) w' x.2.1.toList x.2.2∧(aL bE 0 c b=cL x.2.2 x.1)) ?_ ?_
 rintro⟨C,cs,M⟩ z ⟨J,T,U,V,W⟩
 refine iW [(6,vP H 0),(8,vP a 0),(9,vP d 0)] ?_
 have K:ah z d C:=T
 have X:z.heap[a]? = some (.cells cs 45 (0,0)):=U
 have s:aH (.hi w.heap.size) z cs.toList M:=V
 have B:=aH.size s
 have L:aL bE 0 c b=cL M C:=W
 refine aA 1<|aG<|m2 (eL K) fun an N D=>nt<|sq<|aA 1<|aG<|mq (cw N)<|?_
 have ao:=ah.len N
 refine Pl 1<|dK 2<|?_
 have E:=ud f (u1 J D im) r
 have O:=ud y E (le I.size k)
 refine cb ((C.endC.e != 0)) (fun F=>?_) (fun F=>?_)
 have G:=aR F
 refine aA 2<|?_
 refine aN (ub (ud n E k) q) mZ fun ap Y Z=>al 1<|bQ<|eA Y (vI C.endC.e)<|?_
 rw[L]
 exact d4 G (ud O Z t)
 have G:=aZ F
 refine bM<|sg<|?_
 refine L0<|cM (hz:=(by rw[B];exact bv)) (bf D (nb (ag u) v.size r) X)<|?_
 refine aN (hz:=(by rw[B];exact bv)) (hv:=s.size) (h1:=s.one) (ub (ud n E k) q) (cs) fun aq a0 P=>al 1<|rt<|ke 22 B a0 (vI 0)<|?_
 rw[L]
 exact dB G (aH.upd s (us D P) (am (ah.safe K _ (by decide)) (am (b6 (ub (ud n (ud f J r) k) q) (by decide)) aP))) (ud O P t)
 refine aB 1<|bk<|aB 2<|?_
 have Q:=aK y f
 refine cb ((c==8)) (fun g=>?_) (fun g=>?_)
 have a1:=aI g
 refine go<|Pl 2<|?_
 refine aG<|m3 (pN (dir:=0) (c:=c) ⟨hcode1,hcode2⟩ o (ub f l) (Ne.symm (nb (ag u) v.size r))) fun ar a2 a3 a4=>?_
 obtain⟨au,a5,a6⟩:=a3
 refine ab a2 fun x80 a7 a8=>?_
 exact nl<|bn<|jn (x80,_,(eH 0 c (aF.mk b false 0)).2) ⟨a4,a8,a5.1,(aH.lo a6 Q.size),by subst a7;unfold aL bE ;(try simp only[g,bC,gT,gS,gQ,gR,gP,reduceIte])<;>rfl⟩
 have a1:=aS g
 refine sq<|aB 2<|cb ((c==7)) (fun h=>?_) (fun h=>?_)
 have a9:=aI h
 refine bM<|ct h<|aB 2<|c0<|sk<|bn<|?_
 exact jn ((aF.mk b false 0),_,(b7.mk c 0 0 0 0 0 0 0 0 0 0 0 [] [] [] [] 0 0 0 0 0 [])) ⟨(ay.mono (S':=[d,a]) (ay.refl [] _) aC),o,(ub f l),⟨_,_,_,_,_,rfl,aT.nil ..,aT.nil ..,aT.nil ..,aT.nil ..,aT.nil ..,(eR (by omega))⟩,by unfold aL bE ;(try simp only[g,h,bC,gT,gS,gQ,gR,gP,reduceIte])<;>rfl⟩
 have a9:=aS h
 refine aB 2<|cb ((c==11)) (fun i=>?_) (fun i=>?_)
 have aa:=aI i
 refine bM<|ct i<|aB 2<|c0<|sk<|bn<|?_
 exact jn ((aF.mk b false 0),_,(b7.mk c 0 0 0 0 0 0 0 0 0 0 0 [] [] [] [] 0 0 0 0 0 [])) ⟨(ay.mono (S':=[d,a]) (ay.refl [] _) aC),o,(ub f l),⟨_,_,_,_,_,rfl,aT.nil ..,aT.nil ..,aT.nil ..,aT.nil ..,aT.nil ..,(eR (by omega))⟩,by unfold aL bE ;(try simp only[g,h,i,bC,gT,gS,gQ,gR,gP,reduceIte])<;>rfl⟩
 have aa:=aS i
 refine aB 2<|cb ((c==12)) (fun j=>?_) (fun j=>?_)
 have ac:=aI j
 refine bM<|ct j<|aB 2<|c0<|sk<|bn<|?_
 exact jn ((aF.mk b false 0),_,(b7.mk c 0 0 0 0 0 0 0 0 0 0 0 [] [] [] [] 0 0 0 0 0 [])) ⟨(ay.mono (S':=[d,a]) (ay.refl [] _) aC),o,(ub f l),⟨_,_,_,_,_,rfl,aT.nil ..,aT.nil ..,aT.nil ..,aT.nil ..,aT.nil ..,(eR (by omega))⟩,by unfold aL bE ;(try simp only[g,h,i,j,bC,gT,gS,gQ,gR,gP,reduceIte])<;>rfl⟩
 have ac:=aS j
 refine go<|al 2<|cb ((c==17)) (fun p=>?_) (fun p=>?_)
 have ad:=aI p
 refine aB 2<|c0<|sk<|bn<|?_
 exact jn ((aF.mk b false 0),_,(b7.mk c 0 0 0 0 0 0 0 0 0 0 0 [] [] [] [] 0 0 0 0 0 [])) ⟨(ay.mono (S':=[d,a]) (ay.refl [] _) aC),o,(ub f l),⟨_,_,_,_,_,rfl,aT.nil ..,aT.nil ..,aT.nil ..,aT.nil ..,aT.nil ..,(eR (by omega))⟩,by unfold aL bE ;(try simp only[g,h,i,j,p,bC,gT,gS,gQ,gR,gP,reduceIte])<;>rfl⟩
 have ad:=aS p
 refine aA 1<|?_
 refine aN (ub (aK n f) q) mZ fun av ae af=>al 1<|rt<|br<|tr<|eA ae (vI 4)<|?_
 exact dQ (by unfold aL bE;(try simp only[g,h,i,j,p,bC,gT,gS,gQ,gR,gP,reduceIte])<;>rfl) (cl (ud Q af t))
theorem pi(hcode:B8 c)(hsl:aW m w (.slice A b.length cp) b)(hb:b.length≤1048576) :
    Calls Tryz.prog 100 #[vI 1,vB c,.slice A b.length cp] w (ef (aL bE 1 c b) w):=by
 obtain⟨hcode1,hcode2⟩:=hcode
 have hln:(b.length:Int)≤1048576:=by omega
 refine en 47 Tryz.func100 rfl<|sg<|aO mZ fun I ba y u J=>al 1<|sq<|aB 6<|c0<|bM<|aA 2<|aO mZ fun n bb o i R=>aN i (mC c) fun bc p j=>aU 1<|?_
 have q:=ud R j o
 have z:=aK J q
 refine aG<|e3 (dI (aW.old hsl z) (by omega)) fun r S g s a=>al 1<|DO (fun x=>[(6,vP I 0),(8,vP n 0),(9,vP r 0)]) (fun(x:aF × Array Value × b7) w'=>ay [r,n] S w'∧ah w' r x.1∧w'.heap[n]? = some (.cells x.2.1 45 (0,0))∧aH (.hi w.heap.size) w' x.2.1.toList x.2.2∧(aL bE 1 c b=cL x.2.2 x.1)) ?_ ?_
 rintro⟨C,cs,M⟩ B ⟨K,T,U,V,W⟩
 refine iW [(6,vP I 0),(8,vP n 0),(9,vP r 0)] ?_
 have L:ah B r C:=T
 have X:B.heap[n]? = some (.cells cs 45 (0,0)):=U
 have v:aH (.hi w.heap.size) B cs.toList M:=V
 have D:=aH.size v
 have N:aL bE 1 c b=cL M C:=W
 refine aA 1<|aG<|m2 (eL L) fun bd O E=>nt<|sq<|aA 1<|aG<|mq (cw O)<|?_
 have be:=ah.len O
 refine Pl 1<|dK 2<|?_
 have F:=ud a (u1 K E im) g
 have P:=ud z F (le J.size o)
 refine cb ((C.endC.e != 0)) (fun G=>?_) (fun G=>?_)
 have H:=aR G
 refine aA 2<|?_
 refine aN (ub (ud q F o) u) mZ fun bg Y Z=>al 1<|bQ<|eA Y (vI C.endC.e)<|?_
 rw[N]
 exact d4 H (ud P Z y)
 have H:=aZ G
 refine bM<|sg<|?_
 refine L0<|cM (hz:=(by rw[D];exact bv)) (bf E (nb (ag i) j.size g) X)<|?_
 refine aN (hz:=(by rw[D];exact bv)) (hv:=v.size) (h1:=v.one) (ub (ud q F o) u) (cs) fun bh a0 Q=>al 1<|rt<|ke 22 D a0 (vI 0)<|?_
 rw[N]
 exact dB H (aH.upd v (us E Q) (am (ah.safe L _ (by decide)) (am (b6 (ub (ud q (ud a K g) o) u) (by decide)) aP))) (ud P Q y)
 refine aB 1<|bk<|aB 2<|?_
 have l:=aK z a
 refine cb ((c==8)) (fun d=>?_) (fun d=>?_)
 have a1:=aI d
 refine go<|Pl 2<|?_
 refine aG<|m3 (pN (dir:=1) (c:=c) ⟨hcode1,hcode2⟩ s (ub a p) (Ne.symm (nb (ag i) j.size g))) fun bi a2 a3 a4=>?_
 obtain⟨bj,a5,a6⟩:=a3
 refine ab a2 fun x80 a7 a8=>?_
 exact nl<|bn<|jn (x80,_,(eH 1 c (aF.mk b false 0)).2) ⟨a4,a8,a5.1,(aH.lo a6 l.size),by subst a7;unfold aL bE ;(try simp only[d,bC,gT,gS,gQ,gR,gP,reduceIte])<;>rfl⟩
 have a1:=aS d
 refine sq<|aB 2<|cb ((c==7)) (fun f=>?_) (fun f=>?_)
 have a9:=aI f
 refine bM<|ct f<|aB 2<|c1<|go<|Pl 1<|?_
 refine aG<|m3 (iE (c:=c) ⟨hcode1,hcode2⟩ s (ub a p) (Ne.symm (nb (ag i) j.size g))) fun bl aa ac ad=>?_
 obtain⟨bm,ae,af⟩:=ac
 refine ab aa fun x93 ai aj=>?_
 exact nl<|bn<|jn (x93,_,(cC c (aF.mk b false 0)).2) ⟨ad,aj,ae.1,(aH.lo af l.size),by subst ai;unfold aL bE ;(try simp only[d,f,bC,gT,gS,gQ,gR,gP,reduceIte])<;>rfl⟩
 have a9:=aS f
 refine aB 2<|cb ((c==11)) (fun h=>?_) (fun h=>?_)
 have ak:=aI h
 refine bM<|ct h<|aB 2<|c1<|go<|Pl 1<|?_
 refine aG<|m3 (iE (c:=c) ⟨hcode1,hcode2⟩ s (ub a p) (Ne.symm (nb (ag i) j.size g))) fun bo an ao ap=>?_
 obtain⟨bp,aq,ar⟩:=ao
 refine ab an fun au av aw=>?_
 exact nl<|bn<|jn (au,_,(cC c (aF.mk b false 0)).2) ⟨ap,aw,aq.1,(aH.lo ar l.size),by subst av;unfold aL bE ;(try simp only[d,f,h,bC,gT,gS,gQ,gR,gP,reduceIte])<;>rfl⟩
 have ak:=aS h
 refine aB 2<|cb ((c==12)) (fun k=>?_) (fun k=>?_)
 have ax:=aI k
 refine bM<|ct k<|aB 2<|c1<|go<|Pl 1<|?_
 refine aG<|m3 (iE (c:=c) ⟨hcode1,hcode2⟩ s (ub a p) (Ne.symm (nb (ag i) j.size g))) fun bq az aC aD=>?_
 obtain⟨bs,aE,aJ⟩:=aC
 refine ab az fun aM aQ aT=>?_
 exact nl<|bn<|jn (aM,_,(cC c (aF.mk b false 0)).2) ⟨aD,aT,aE.1,(aH.lo aJ l.size),by subst aQ;unfold aL bE ;(try simp only[d,f,h,k,bC,gT,gS,gQ,gR,gP,reduceIte])<;>rfl⟩
 have ax:=aS k
 refine go<|al 2<|cb ((c==17)) (fun t=>?_) (fun t=>?_)
 have aV:=aI t
 refine aB 2<|c1<|go<|Pl 1<|?_
 refine aG<|m3 (iE (c:=c) ⟨hcode1,hcode2⟩ s (ub a p) (Ne.symm (nb (ag i) j.size g))) fun bt aX aY b0=>?_
 obtain⟨bu,b1,b2⟩:=aY
 refine ab aX fun b3 b4 b5=>?_
 exact nl<|bn<|jn (b3,_,(cC c (aF.mk b false 0)).2) ⟨b0,b5,b1.1,(aH.lo b2 l.size),by subst b4;unfold aL bE ;(try simp only[d,f,h,k,t,bC,gT,gS,gQ,gR,gP,reduceIte])<;>rfl⟩
 have aV:=aS t
 refine aA 1<|?_
 refine aN (ub (aK q a) u) mZ fun bw b8 b9=>al 1<|rt<|br<|tr<|eA b8 (vI 4)<|?_
 exact dQ (by unfold aL bE;(try simp only[d,f,h,k,t,bC,gT,gS,gQ,gR,gP,reduceIte])<;>rfl) (cl (ud l b9 y))
theorem oW(hcode:B8 c)(hsl:aW m w (.slice A b.length cp) b)(hb:b.length≤1048576)(hd:¬ (dir=0∨dir=1)) :
    Calls Tryz.prog 100 #[vI dir,vB c,.slice A b.length cp] w (ef (aL bE dir c b) w):=by
 obtain⟨hcode1,hcode2⟩:=hcode
 have hln:(b.length:Int)≤1048576:=by omega
 have e0:(dir != 0)=true:=by simp;omega
 have e1:(dir != 1)=true:=by simp;omega
 refine en 47 Tryz.func100 rfl<|sg<|aO mZ fun g h a d e=>al 1<|sq<|aA 3<|sy 13 e0<|Pl 3<|nl<|tn<|ct e1<|aA 1<|aN d mZ fun i eT f=>al 1<|bQ<|eA eT (vI 1)<|?_
 exact dQ (by unfold aL bE;(try simp only[e0,e1,bC,gT,gS,gQ,gR,gP,reduceIte,hd])<;>rfl) (cl (ud e f a))
theorem mz(hc:B8 c)(h:aW m w v b)(hb:b.length≤1048576) :
    Calls Tryz.prog 100 #[.int .i64 dir,.int .u8 c,v] w (ef (aL bE dir c b) w):=by
  obtain⟨A,cp,rfl,_,_⟩:=h.shape
  by_cases h0:dir=0
  · subst h0;exact pz hc h hb
  by_cases h1:dir=1
  · subst h1;exact pi hc h hb
  exact oW hc h hb (by omega)
open Go.RowKit
def gB:Nat→aF→List Obj→aF × List Obj
  | 0,C,L=>(C,L)
  | n+1,C,L=>gB n (((C.bytesC 1).bytesC 1).bytesC (C.bytesC 1).byteV) (L++[⟨C.byteV,((C.bytesC 1).bytesC 1).bytesR (C.bytesC 1).byteV⟩])
def nE (C:aF) : aF:=(C.bytesC 1).need (bU C.byteV) 6
def rj (C:aF) : aF:=((nE C).bytesC 1).need ((nE C).byteV==0 || (nE C).byteV==255) 6
def qW (C:aF) : aF:=((rj C).bytesC 1).need ((nE C).byteV != 0 || (rj C).byteV==0) 6
def Br (kd:Int)(C:aF) : aF:=((qW C).bytesC 1).need (kd != 4 || (qW C).byteV==1) 5
def du (kd:Int)(C:aF) : aF × List Obj:=gB (qW C).byteV.toNat (Br kd C) []
theorem rW{me kd:Int}{C0:aF}  (hcode:B8 c)(hme:B8 me)(hkd:B8 kd)(hC:ah w g C0)(hm:w.heap[gm]? = some (.cells #[vB c,vB 0,vW 0,vW 0,vW 0,vW 0,vW 0,vW 0,vW 0,vW 0,vW 0,vW 0,nS,nS,nS,nS,vB me,vB kd,vB 0,vB 0,vB 0,nS] 45 (0,0)))(hne:g≠gm) :
    Calls Tryz.prog 161 #[vP g 0,vP gm 0] w (cg g gm (du kd C0).1 { b7.zero with code:=c,mei:=me,kind:=kd,level:=C0.byteV,more:=(nE C0).byteV,next:=(rj C0).byteV,objects:=(du kd C0).2 } w):=by
 obtain⟨hcode1,hcode2⟩:=hcode
 obtain⟨hme1,hme2⟩:=hme
 obtain⟨hkd1,hkd2⟩:=hkd
 refine en 92 Tryz.func161 rfl<|aA 2<|aG<|m3 (bJ hC) fun cS bI b cT=>Pl 2<|?_
 have ae:=bf b (Ne.symm hne) hm
 refine L0<|cA ae 18 (mG c 0 0 0 0 0 0 0 0 0 0 0 nS nS nS nS me kd C0.byteV 0 0 nS) fun cU eT j=>aU 4<|aD eT 18<|aG<|m1 (vZ (x:=C0.byteV) (w:=_)) fun cV d=>?_
 have af:=aK j d
 refine aG<|m2 (aY ((bU C0.byteV)) 6 (ah.upd bI af (aa hne av) (am (b6 ae (by decide)) aP))) fun cW bK l=>?_
 refine ab bK fun x25 bL bN=>?_
 refine aU 2<|aG<|m3 (bJ bN) fun cX bO o cY=>Pl 2<|?_
 have aj:=u1 l o im
 have an:=bf (uz d aj) (Ne.symm hne) eT
 refine L0<|cA an 19 (mG c 0 0 0 0 0 0 0 0 0 0 0 nS nS nS nS me kd C0.byteV x25.byteV 0 nS) fun d0 T f=>aU 4<|aD T 19<|Pl 2<|s8 6 [29] 35 29 (x25.byteV==0) (x25.byteV==255) (fun K bP bQ=>?_) ?_
 have d1:=aS bQ
 exact Pl 3<|L1<|iH T 19<|Pl 2<|ce bP _ rfl
 refine aG<|m2 (aY (((x25.byteV==0)||(x25.byteV==255))) 6 (ah.upd bO f (aa hne av) (am (b6 an (by decide)) aP))) fun d2 bR p=>?_
 refine ab bR fun x44 bS bT=>?_
 refine aU 2<|aG<|m3 (bJ bT) fun d3 bV r d4=>Pl 2<|?_
 have ao:=u1 p r im
 have ap:=bf ao (Ne.symm hne) T
 refine L0<|cA ap 20 (mG c 0 0 0 0 0 0 0 0 0 0 0 nS nS nS nS me kd C0.byteV x25.byteV x44.byteV nS) fun d5 U h=>aU 4<|aD U 19<|Pl 2<|s8 6 [48] 54 48 (x25.byteV != 0) (x44.byteV==0) (fun K bW bX=>?_) ?_
 have d6:=aZ bX
 exact Pl 3<|L1<|iH U 20<|Pl 2<|ce bW _ rfl
 refine aG<|m2 (aY (((x25.byteV != 0)||(x44.byteV==0))) 6 (ah.upd bV h (aa hne av) (am (b6 ap (by decide)) aP))) fun d7 bY s=>?_
 refine ab bY fun x62 bZ c0=>?_
 refine aU 1<|aG<|m3 (bJ c0) fun d8 c1 t d9=>bD x62.byteV<|Pl 1<|aU 4<|?_
 have ar:=u1 s t im
 have au:=bf ar (Ne.symm hne) U
 refine aD au 17<|Pl 2<|s8 3 [65] 68 65 (kd != 4) (x62.byteV==1) (fun K c2 c3=>?_) ?_
 have da:=aZ c3
 exact Pl 3<|ce c2 _ rfl
 refine aG<|m2 (aY (((kd != 4)||(x62.byteV==1))) 5 c1) fun V c4 i=>?_
 refine ab c4 fun x76 c5 c6=>?_
 refine dK 2<|bk<|?_
 refine jZ (fun x=>[(0,vP g 0),(1,vP gm 0),(70,vI x62.byteV),(71,vI (x.1:Int))]) (fun(x:Nat × aF × List Obj × Option Addr × Nat) w'=>ay [g,gm] V w'∧ah w' g x.2.1∧w'.heap[gm]? = some (.cells #[vB c,vB 0,vW 0,vW 0,vW 0,vW 0,vW 0,vW 0,vW 0,vW 0,vW 0,vW 0,nS,nS,nS,nS,vB me,vB kd,vB C0.byteV,vB x25.byteV,vB x44.byteV,.slice x.2.2.2.1 x.2.2.1.length x.2.2.2.2] 45 (0,0))∧aQ V.heap.size 100 2 (cH (.hi w.heap.size)) w' (.slice x.2.2.2.1 x.2.2.1.length x.2.2.2.2) x.2.2.1∧(x.1≤x62.byteV.toNat)∧(gB (x62.byteV.toNat-x.1) x.2.1 x.2.2.1=gB x62.byteV.toNat x76 [])∧(x.2.2.1.length≤x.1)) (fun x=>x62.byteV.toNat-x.1) (0,x76,[],none,0) ⟨ay.refl _ _,c6,(bf i (Ne.symm hne) au),aQ.nil ..,(by(try dsimp only);omega),(by(try dsimp only);rw[Nat.sub_zero]),(by(try dsimp only);(try simp only[co]);omega)⟩ ?_
 rintro⟨k,C,L,A,cp⟩ W ⟨v,c7,c8,c9,ca,cd,cf⟩
 refine iW [(0,vP g 0),(1,vP gm 0),(70,vI x62.byteV),(71,vI (k:Int))] ?_
 have z:ah W g C:=c7
 have E:W.heap[gm]? = some (.cells #[vB c,vB 0,vW 0,vW 0,vW 0,vW 0,vW 0,vW 0,vW 0,vW 0,vW 0,vW 0,nS,nS,nS,nS,vB me,vB kd,vB C0.byteV,vB x25.byteV,vB x44.byteV,.slice A L.length cp] 45 (0,0)):=c8
 have a:aQ V.heap.size 100 2 (cH (.hi w.heap.size)) W (.slice A L.length cp) L:=c9
 have db:k≤x62.byteV.toNat:=ca
 have dc:gB (x62.byteV.toNat-k) C L=gB x62.byteV.toNat x76 []:=cd
 have dd:L.length≤k:=cf
 have hobj:gB (x62.byteV.toNat-k) C L=gB x62.byteV.toNat x76 []:=by assumption
 refine aB 1<|sq<|?_
 refine cb ((decide ((k:Int)<x62.byteV))) (fun X=>?_) (fun X=>?_)
 have ch:=of_decide_eq_true X
 refine bM<|sq<|bk<|aA 1<|aG<|m3 (bJ z) fun de aw y df=>al 1<|Rg 17 (fun w'=>True) fun dg u=>bi trivial fun D=>Rt 0 D<|Rt 1 D<|Rt 2 D<|Rt 3 D<|Rt 5 D<|Rt 6 D<|Rt 7 D<|R2 4 8 rfl rfl ?_ ?_
 have Y:=aK y u
 have Z:=bf Y (Ne.symm hne) E
 refine  iH Z 21<|bi trivial fun dh=>?_
 refine R0 8 rfl<|Oc<|m3 (bJ (ah.old aw u)) fun di ax G dj=>bi trivial fun ci=>Rr 9 ci (vI ((C.bytesC 1).byteV)) (fun _ _=>cR (vI (IntKind.i64.wrap ((C.bytesC 1).byteV))) (by kernel_rfl) (congrArg (Value.int .i64) (i64_in (by omega))))<|R0 10 rfl<|Oc<|w6 (cc (n:=(C.bytesC 1).byteV) ax) fun cj ck dk cl dl dm cm a0=>?_
 have dn:=Nat.le_trans (aF.bytesR_le ((C.bytesC 1).bytesC 1) ((C.bytesC 1).byteV)) (ah.len ax)
 refine ab cm fun dp cn cq=>?_
 refine bi trivial fun cr=>Rt 11 cr<|R0 12 rfl<|dX (m:=1) (e:=100) #[vB C.byteV,.slice cj ((((C.bytesC 1).bytesC 1).bytesR ((C.bytesC 1).byteV)).length) ck] fun dq dr ds cs H=>?_
 have ct:=to (R:=cH (.hi w.heap.size)) (x:=(Obj.mk C.byteV (((C.bytesC 1).bytesC 1).bytesR ((C.bytesC 1).byteV)))) cs rfl ⟨_,rfl,(aT.hi_le (aW.upd' cl H aP) (le (le (le (le (le (le (le (le (le (le (le (le (le (le (le b.size j.size) d.size) l.size) o.size) f.size) p.size) r.size) h.size) s.size) t.size) i.size) v.size) y.size) u.size) G.size) fun _ _ q=>q),b8 (x:=C.byteV) (by omega)⟩
 refine bi trivial fun dt=>?_
 have aH:=u1 G (aK a0 H) im
 have a1:=u1 Y aH im
 have aI:=ak a a1 (fun x hx=>(aa (fun e=>(az (ah.lt hC) (le (le (le (le (le (le (le (le (le (le (le b.size j.size) d.size) l.size) o.size) f.size) p.size) r.size) h.size) s.size) t.size) i.size) a) (e▸hx)) av)) (cH.upd8 a1 (am (ah.safe z _ (by decide)) aP))
 refine R0 13 rfl<|mA (xs:=L) (ys:=([(Obj.mk C.byteV (((C.bytesC 1).bytesC 1).bytesR ((C.bytesC 1).byteV)))])) (.agg #[vB 0,nS]) 2 32 aI ct (by simp) cH.ones (fun w' hv=>cH.upd8 hv (cZ (dF _ aI (by decide)) aP)) (by(try simp only[co,aE]);omega) (le (le (le (le (le v.size y.size) u.size) G.size) a0.size) H.size) fun aJ aL dv aM aN=>bi trivial fun aO=>Rt 14 aO<|Rt 15 aO<|?_
 have aR:=ay.blk (ut (ay.mono (S':=(g :: (ob A++[]))) aH (ac im aC)) aN (ai il aC)) (aa (Ne.symm hne) (aq (az (ag hm) (le (le (le (le (le (le (le (le (le (le (le b.size j.size) d.size) l.size) o.size) f.size) p.size) r.size) h.size) s.size) t.size) i.size) a) av)) Z
 refine R0 16 rfl<|cA aR 21 (mG c 0 0 0 0 0 0 0 0 0 0 0 nS nS nS nS me kd C0.byteV x25.byteV x44.byteV (.slice aJ ((L++[(Obj.mk C.byteV (((C.bytesC 1).bytesC 1).bytesR ((C.bytesC 1).byteV)))]).length) aL)) fun dw cu a2=>bi trivial fun dx=>re<|bn<|tn<|go<|bD ((k:Int)+1)<|Pl 1<|nl<|?_
 subst cn
 have aV:=u1 (ay.mono (S':=(ob A++(gm :: []))) aN (ai il aC)) a2 im
 have b0:=u1 G a0 im
 have b1:=u1 Y b0 im
 exact fD ((k+1),(((C.bytesC 1).bytesC 1).bytesC ((C.bytesC 1).byteV)),(L++[(Obj.mk C.byteV (((C.bytesC 1).bytesC 1).bytesR ((C.bytesC 1).byteV)))]),aJ,aL) ⟨(ut v (ut (ay.mono (S':=(g :: (ob A++(gm :: [])))) a1 (ac im aC)) aV (ai il (ac im aC))) (ac im (ai (aX a lr) (ac im aC)))),(ah.upd cq (ut (ay.mono (S':=(ob A++(gm :: []))) H aC) aV (ai il (ac im aC))) (aq (az (ah.lt hC) (le (le (le (le (le (le (le (le (le (le (le b.size j.size) d.size) l.size) o.size) f.size) p.size) r.size) h.size) s.size) t.size) i.size) a) (aa hne av)) (cZ (dF _ (ak a b1 (fun x hx=>(aa (fun e=>(az (ah.lt hC) (le (le (le (le (le (le (le (le (le (le (le b.size j.size) d.size) l.size) o.size) f.size) p.size) r.size) h.size) s.size) t.size) i.size) a) (e▸hx)) av)) (cH.upd8 b1 (am (ah.safe z _ (by decide)) aP))) (by decide)) (am (b6 (bf b0 (Ne.symm hne) Z) (by decide)) aP))),cu,(ak aM a2 (fun x hx=>(aa (fun e=>(az (ag hm) (le (le (le (le (le (le (le (le (le (le (le b.size j.size) d.size) l.size) o.size) f.size) p.size) r.size) h.size) s.size) t.size) i.size) aM) (e▸hx)) av)) (cH.upd8 a2 (am (b6 aR (by decide)) aP))),(by(try dsimp only);omega),(by(try dsimp only);rw[← hobj,show x62.byteV.toNat-k=(x62.byteV.toNat-(k+1))+1 from by omega];rfl),(by(try dsimp only);(try simp only[co]);omega)⟩ (by omega)
 refine  Oc<|m3 (bJ (ah.old aw u)) fun dy I B dz=>bi trivial fun cv=>Rr 9 cv (vI ((C.bytesC 1).byteV)) (fun _ _=>cR (vI (IntKind.i64.wrap ((C.bytesC 1).byteV))) (by kernel_rfl) (congrArg (Value.int .i64) (i64_in (by omega))))<|R2 4 10 rfl rfl ?_ ?_
 have a3:=u1 y (uz u B) im
 have a4:=bf a3 (Ne.symm hne) E
 refine  iH a4 21<|bi trivial fun dA=>R0 10 rfl<|Oc<|w6 (cc (n:=(C.bytesC 1).byteV) I) fun cw cx dB cy dC dD cz J=>?_
 have dE:=Nat.le_trans (aF.bytesR_le ((C.bytesC 1).bytesC 1) ((C.bytesC 1).byteV)) (ah.len I)
 refine ab cz fun dG cB cC=>?_
 refine bi trivial fun cE=>Rt 11 cE<|R0 12 rfl<|dX (m:=1) (e:=100) #[vB C.byteV,.slice cw ((((C.bytesC 1).bytesC 1).bytesR ((C.bytesC 1).byteV)).length) cx] fun dH dI dJ cF M=>?_
 have cG:=to (R:=cH (.hi w.heap.size)) (x:=(Obj.mk C.byteV (((C.bytesC 1).bytesC 1).bytesR ((C.bytesC 1).byteV)))) cF rfl ⟨_,rfl,(aT.hi_le (aW.upd' cy M aP) (le (le (le (le (le (le (le (le (le (le (le (le (le (le (le b.size j.size) d.size) l.size) o.size) f.size) p.size) r.size) h.size) s.size) t.size) i.size) v.size) y.size) u.size) B.size) fun _ _ q=>q),b8 (x:=C.byteV) (by omega)⟩
 refine bi trivial fun dL=>?_
 have b2:=aK J M
 have a5:=u1 a3 b2 im
 have b3:=ak a a5 (fun x hx=>(aa (fun e=>(az (ah.lt hC) (le (le (le (le (le (le (le (le (le (le (le b.size j.size) d.size) l.size) o.size) f.size) p.size) r.size) h.size) s.size) t.size) i.size) a) (e▸hx)) av)) (cH.upd8 a5 (am (ah.safe z _ (by decide)) aP))
 refine R0 13 rfl<|mA (xs:=L) (ys:=([(Obj.mk C.byteV (((C.bytesC 1).bytesC 1).bytesR ((C.bytesC 1).byteV)))])) (.agg #[vB 0,nS]) 2 32 b3 cG (by simp) cH.ones (fun w' hv=>cH.upd8 hv (cZ (dF _ b3 (by decide)) aP)) (by(try simp only[co,aE]);omega) (le (le (le (le (le v.size y.size) u.size) B.size) J.size) M.size) fun b4 b5 dM b9 ba=>bi trivial fun bb=>Rt 14 bb<|Rt 15 bb<|?_
 have bc:=ay.blk (ut (ay.mono (S':=(g :: (ob A++[]))) b2 (ac im aC)) ba (ai il aC)) (aa (Ne.symm hne) (aq (az (ag hm) (le (le (le (le (le (le (le (le (le (le (le b.size j.size) d.size) l.size) o.size) f.size) p.size) r.size) h.size) s.size) t.size) i.size) a) av)) a4
 refine R0 16 rfl<|cA bc 21 (mG c 0 0 0 0 0 0 0 0 0 0 0 nS nS nS nS me kd C0.byteV x25.byteV x44.byteV (.slice b4 ((L++[(Obj.mk C.byteV (((C.bytesC 1).bytesC 1).bytesR ((C.bytesC 1).byteV)))]).length) b5)) fun dN cI a6=>bi trivial fun dO=>re<|bn<|tn<|go<|bD ((k:Int)+1)<|Pl 1<|nl<|?_
 subst cB
 have bd:=u1 (ay.mono (S':=(ob A++(gm :: []))) ba (ai il aC)) a6 im
 have be:=u1 a3 J im
 exact fD ((k+1),(((C.bytesC 1).bytesC 1).bytesC ((C.bytesC 1).byteV)),(L++[(Obj.mk C.byteV (((C.bytesC 1).bytesC 1).bytesR ((C.bytesC 1).byteV)))]),b4,b5) ⟨(ut v (ut (ay.mono (S':=(g :: (ob A++(gm :: [])))) a5 (ac im aC)) bd (ai il (ac im aC))) (ac im (ai (aX a lr) (ac im aC)))),(ah.upd cC (ut (ay.mono (S':=(ob A++(gm :: []))) M aC) bd (ai il (ac im aC))) (aq (az (ah.lt hC) (le (le (le (le (le (le (le (le (le (le (le b.size j.size) d.size) l.size) o.size) f.size) p.size) r.size) h.size) s.size) t.size) i.size) a) (aa hne av)) (cZ (dF _ (ak a be (fun x hx=>(aa (fun e=>(az (ah.lt hC) (le (le (le (le (le (le (le (le (le (le (le b.size j.size) d.size) l.size) o.size) f.size) p.size) r.size) h.size) s.size) t.size) i.size) a) (e▸hx)) av)) (cH.upd8 be (am (ah.safe z _ (by decide)) aP))) (by decide)) (am (b6 (bf J (Ne.symm hne) a4) (by decide)) aP))),cI,(ak b9 a6 (fun x hx=>(aa (fun e=>(az (ag hm) (le (le (le (le (le (le (le (le (le (le (le b.size j.size) d.size) l.size) o.size) f.size) p.size) r.size) h.size) s.size) t.size) i.size) b9) (e▸hx)) av)) (cH.upd8 a6 (am (b6 bc (by decide)) aP))),(by(try dsimp only);omega),(by(try dsimp only);rw[← hobj,show x62.byteV.toNat-k=(x62.byteV.toNat-(k+1))+1 from by omega];rfl),(by(try dsimp only);(try simp only[co]);omega)⟩ (by omega)
 refine  Oc<|w6 (cc (n:=(C.bytesC 1).byteV) I) fun bg bh dP bj dQ dR cJ F=>?_
 have dS:=Nat.le_trans (aF.bytesR_le ((C.bytesC 1).bytesC 1) ((C.bytesC 1).byteV)) (ah.len I)
 refine ab cJ fun dT bl bm=>?_
 refine bi trivial fun cK=>Rt 11 cK<|R2 4 12 rfl rfl ?_ ?_
 have N:=u1 y (uz u (u1 B F im)) im
 have a7:=bf N (Ne.symm hne) E
 refine  iH a7 21<|bi trivial fun dU=>R0 12 rfl<|dX (m:=1) (e:=100) #[vB C.byteV,.slice bg ((((C.bytesC 1).bytesC 1).bytesR ((C.bytesC 1).byteV)).length) bh] fun dV dW dY cL O=>?_
 have cM:=to (R:=cH (.hi w.heap.size)) (x:=(Obj.mk C.byteV (((C.bytesC 1).bytesC 1).bytesR ((C.bytesC 1).byteV)))) cL rfl ⟨_,rfl,(aT.hi_le (aW.upd' bj O aP) (le (le (le (le (le (le (le (le (le (le (le (le (le (le (le b.size j.size) d.size) l.size) o.size) f.size) p.size) r.size) h.size) s.size) t.size) i.size) v.size) y.size) u.size) B.size) fun _ _ q=>q),b8 (x:=C.byteV) (by omega)⟩
 refine bi trivial fun dZ=>?_
 have a8:=aK N O
 have bo:=ak a a8 (fun x hx=>(aa (fun e=>(az (ah.lt hC) (le (le (le (le (le (le (le (le (le (le (le b.size j.size) d.size) l.size) o.size) f.size) p.size) r.size) h.size) s.size) t.size) i.size) a) (e▸hx)) av)) (cH.upd8 a8 (am (ah.safe z _ (by decide)) aP))
 refine R0 13 rfl<|mA (xs:=L) (ys:=([(Obj.mk C.byteV (((C.bytesC 1).bytesC 1).bytesR ((C.bytesC 1).byteV)))])) (.agg #[vB 0,nS]) 2 32 bo cM (by simp) cH.ones (fun w' hv=>cH.upd8 hv (cZ (dF _ bo (by decide)) aP)) (by(try simp only[co,aE]);omega) (le (le (le (le (le v.size y.size) u.size) B.size) F.size) O.size) fun bp bq e0 br bs=>bi trivial fun bt=>Rt 14 bt<|Rt 15 bt<|?_
 have bu:=ut (ay.mono (S':=(ob A++[])) O aC) bs (ai il aC)
 have bv:=ay.blk bu (aq (az (ag hm) (le (le (le (le (le (le (le (le (le (le (le b.size j.size) d.size) l.size) o.size) f.size) p.size) r.size) h.size) s.size) t.size) i.size) a) av) a7
 refine R0 16 rfl<|cA bv 21 (mG c 0 0 0 0 0 0 0 0 0 0 0 nS nS nS nS me kd C0.byteV x25.byteV x44.byteV (.slice bp ((L++[(Obj.mk C.byteV (((C.bytesC 1).bytesC 1).bytesR ((C.bytesC 1).byteV)))]).length) bq)) fun e1 cN P=>bi trivial fun e2=>re<|bn<|tn<|go<|bD ((k:Int)+1)<|Pl 1<|nl<|?_
 subst bl
 exact fD ((k+1),(((C.bytesC 1).bytesC 1).bytesC ((C.bytesC 1).byteV)),(L++[(Obj.mk C.byteV (((C.bytesC 1).bytesC 1).bytesR ((C.bytesC 1).byteV)))]),bp,bq) ⟨(ut v (ut (ay.mono (S':=(g :: (ob A++(gm :: [])))) a8 (ac im aC)) (u1 (ay.mono (S':=(ob A++(gm :: []))) bs (ai il aC)) P im) (ai il (ac im aC))) (ac im (ai (aX a lr) (ac im aC)))),(ah.upd bm (u1 (ay.mono (S':=(ob A++(gm :: []))) bu (ai il aC)) P im) (aq (az (ah.lt hC) (le (le (le (le (le (le (le (le (le (le (le b.size j.size) d.size) l.size) o.size) f.size) p.size) r.size) h.size) s.size) t.size) i.size) a) (aa hne av)) (cZ (dF _ (ak a N (fun x hx=>(aa (fun e=>(az (ah.lt hC) (le (le (le (le (le (le (le (le (le (le (le b.size j.size) d.size) l.size) o.size) f.size) p.size) r.size) h.size) s.size) t.size) i.size) a) (e▸hx)) av)) (cH.upd8 N (am (ah.safe z _ (by decide)) aP))) (by decide)) (am (b6 a7 (by decide)) aP))),cN,(ak br P (fun x hx=>(aa (fun e=>(az (ag hm) (le (le (le (le (le (le (le (le (le (le (le b.size j.size) d.size) l.size) o.size) f.size) p.size) r.size) h.size) s.size) t.size) i.size) br) (e▸hx)) av)) (cH.upd8 P (am (b6 bv (by decide)) aP))),(by(try dsimp only);omega),(by(try dsimp only);rw[← hobj,show x62.byteV.toNat-k=(x62.byteV.toNat-(k+1))+1 from by omega];rfl),(by(try dsimp only);(try simp only[co]);omega)⟩ (by omega)
 refine  dX (m:=1) (e:=100) #[vB C.byteV,.slice bg ((((C.bytesC 1).bytesC 1).bytesR ((C.bytesC 1).byteV)).length) bh] fun e3 e4 e5 cO Q=>?_
 have cP:=to (R:=cH (.hi w.heap.size)) (x:=(Obj.mk C.byteV (((C.bytesC 1).bytesC 1).bytesR ((C.bytesC 1).byteV)))) cO rfl ⟨_,rfl,(aT.hi_le (aW.upd' bj Q aP) (le (le (le (le (le (le (le (le (le (le (le (le (le (le (le b.size j.size) d.size) l.size) o.size) f.size) p.size) r.size) h.size) s.size) t.size) i.size) v.size) y.size) u.size) B.size) fun _ _ q=>q),b8 (x:=C.byteV) (by omega)⟩
 refine bi trivial fun e6=>?_
 have S:=u1 y (uz u (u1 B (aK F Q) im)) im
 have bw:=bf S (Ne.symm hne) E
 refine R0 4 rfl<|iH bw 21<|bi trivial fun e7=>?_
 have bz:=ak a S (fun x hx=>(aa (fun e=>(az (ah.lt hC) (le (le (le (le (le (le (le (le (le (le (le b.size j.size) d.size) l.size) o.size) f.size) p.size) r.size) h.size) s.size) t.size) i.size) a) (e▸hx)) av)) (cH.upd8 S (am (ah.safe z _ (by decide)) aP))
 refine R0 13 rfl<|mA (xs:=L) (ys:=([(Obj.mk C.byteV (((C.bytesC 1).bytesC 1).bytesR ((C.bytesC 1).byteV)))])) (.agg #[vB 0,nS]) 2 32 bz cP (by simp) cH.ones (fun w' hv=>cH.upd8 hv (cZ (dF _ bz (by decide)) aP)) (by(try simp only[co,aE]);omega) (le (le (le (le (le v.size y.size) u.size) B.size) F.size) Q.size) fun bA bB e8 bC bE=>bi trivial fun bF=>Rt 14 bF<|Rt 15 bF<|?_
 have bG:=ay.blk bE (aq (az (ag hm) (le (le (le (le (le (le (le (le (le (le (le b.size j.size) d.size) l.size) o.size) f.size) p.size) r.size) h.size) s.size) t.size) i.size) a) av) bw
 refine R0 16 rfl<|cA bG 21 (mG c 0 0 0 0 0 0 0 0 0 0 0 nS nS nS nS me kd C0.byteV x25.byteV x44.byteV (.slice bA ((L++[(Obj.mk C.byteV (((C.bytesC 1).bytesC 1).bytesR ((C.bytesC 1).byteV)))]).length) bB)) fun e9 cQ a9=>bi trivial fun ea=>re<|bn<|tn<|go<|bD ((k:Int)+1)<|Pl 1<|nl<|?_
 subst bl
 have bH:=u1 (ay.mono (S':=(ob A++(gm :: []))) bE (ai il aC)) a9 im
 have ad:=u1 y (uz u (u1 B F im)) im
 exact fD ((k+1),(((C.bytesC 1).bytesC 1).bytesC ((C.bytesC 1).byteV)),(L++[(Obj.mk C.byteV (((C.bytesC 1).bytesC 1).bytesR ((C.bytesC 1).byteV)))]),bA,bB) ⟨(ut v (ut (ay.mono (S':=(g :: (ob A++(gm :: [])))) S (ac im aC)) bH (ai il (ac im aC))) (ac im (ai (aX a lr) (ac im aC)))),(ah.upd bm (ut (ay.mono (S':=(ob A++(gm :: []))) Q aC) bH (ai il (ac im aC))) (aq (az (ah.lt hC) (le (le (le (le (le (le (le (le (le (le (le b.size j.size) d.size) l.size) o.size) f.size) p.size) r.size) h.size) s.size) t.size) i.size) a) (aa hne av)) (cZ (dF _ (ak a ad (fun x hx=>(aa (fun e=>(az (ah.lt hC) (le (le (le (le (le (le (le (le (le (le (le b.size j.size) d.size) l.size) o.size) f.size) p.size) r.size) h.size) s.size) t.size) i.size) a) (e▸hx)) av)) (cH.upd8 ad (am (ah.safe z _ (by decide)) aP))) (by decide)) (am (b6 (bf ad (Ne.symm hne) E) (by decide)) aP))),cQ,(ak bC a9 (fun x hx=>(aa (fun e=>(az (ag hm) (le (le (le (le (le (le (le (le (le (le (le b.size j.size) d.size) l.size) o.size) f.size) p.size) r.size) h.size) s.size) t.size) i.size) bC) (e▸hx)) av)) (cH.upd8 a9 (am (b6 bG (by decide)) aP))),(by(try dsimp only);omega),(by(try dsimp only);rw[← hobj,show x62.byteV.toNat-k=(x62.byteV.toNat-(k+1))+1 from by omega];rfl),(by(try dsimp only);(try simp only[co]);omega)⟩ (by omega)
 have ch:=of_decide_eq_false X
 refine xt<|tx<|tx<|bx<|rm (.tuple #[])<|?_
 subst c5 bZ bS bL
 have hf:du kd C0=(C,L):=by
   have h1:gB ((((((C0.bytesC 1).need (bU C0.byteV) 6).bytesC 1).need ((((C0.bytesC 1).need (bU C0.byteV) 6).byteV==0)||(((C0.bytesC 1).need (bU C0.byteV) 6).byteV==255)) 6).bytesC 1).need ((((C0.bytesC 1).need (bU C0.byteV) 6).byteV != 0)||(((((C0.bytesC 1).need (bU C0.byteV) 6).bytesC 1).need ((((C0.bytesC 1).need (bU C0.byteV) 6).byteV==0)||(((C0.bytesC 1).need (bU C0.byteV) 6).byteV==255)) 6).byteV==0)) 6).byteV.toNat ((((((((C0.bytesC 1).need (bU C0.byteV) 6).bytesC 1).need ((((C0.bytesC 1).need (bU C0.byteV) 6).byteV==0)||(((C0.bytesC 1).need (bU C0.byteV) 6).byteV==255)) 6).bytesC 1).need ((((C0.bytesC 1).need (bU C0.byteV) 6).byteV != 0)||(((((C0.bytesC 1).need (bU C0.byteV) 6).bytesC 1).need ((((C0.bytesC 1).need (bU C0.byteV) 6).byteV==0)||(((C0.bytesC 1).need (bU C0.byteV) 6).byteV==255)) 6).byteV==0)) 6).bytesC 1).need ((kd != 4)||(((((((C0.bytesC 1).need (bU C0.byteV) 6).bytesC 1).need ((((C0.bytesC 1).need (bU C0.byteV) 6).byteV==0)||(((C0.bytesC 1).need (bU C0.byteV) 6).byteV==255)) 6).bytesC 1).need ((((C0.bytesC 1).need (bU C0.byteV) 6).byteV != 0)||(((((C0.bytesC 1).need (bU C0.byteV) 6).bytesC 1).need ((((C0.bytesC 1).need (bU C0.byteV) 6).byteV==0)||(((C0.bytesC 1).need (bU C0.byteV) 6).byteV==255)) 6).byteV==0)) 6).byteV==1)) 5) []=(C,L):=by
     rw[← hobj,show((((((C0.bytesC 1).need (bU C0.byteV) 6).bytesC 1).need ((((C0.bytesC 1).need (bU C0.byteV) 6).byteV==0)||(((C0.bytesC 1).need (bU C0.byteV) 6).byteV==255)) 6).bytesC 1).need ((((C0.bytesC 1).need (bU C0.byteV) 6).byteV != 0)||(((((C0.bytesC 1).need (bU C0.byteV) 6).bytesC 1).need ((((C0.bytesC 1).need (bU C0.byteV) 6).byteV==0)||(((C0.bytesC 1).need (bU C0.byteV) 6).byteV==255)) 6).byteV==0)) 6).byteV.toNat-k=0 from by omega]
     rfl
   exact h1
 rw[hf]
 exact⟨rfl,z,⟨_,⟨E,rfl⟩,⟨_,_,_,_,_,rfl,aT.nil ..,aT.nil ..,aT.nil ..,aT.nil ..,(aQ.hi a (le (le (le (le (le (le (le (le (le (le (le b.size j.size) d.size) l.size) o.size) f.size) p.size) r.size) h.size) s.size) t.size) i.size)),⟨(b8 (x:=c) (by omega)),(b8 (x:=0) (by omega)),(cD (x:=0) (by omega)),(cD (x:=0) (by omega)),(cD (x:=0) (by omega)),(cD (x:=0) (by omega)),(cD (x:=0) (by omega)),(cD (x:=0) (by omega)),(cD (x:=0) (by omega)),(cD (x:=0) (by omega)),(cD (x:=0) (by omega)),(cD (x:=0) (by omega)),(b8 (x:=me) (by omega)),(b8 (x:=kd) (by omega)),(b8 (x:=C0.byteV) (by omega)),(b8 (x:=((C0.bytesC 1).need (bU C0.byteV) 6).byteV) (by omega)),(b8 (x:=((((C0.bytesC 1).need (bU C0.byteV) 6).bytesC 1).need ((((C0.bytesC 1).need (bU C0.byteV) 6).byteV==0)||(((C0.bytesC 1).need (bU C0.byteV) 6).byteV==255)) 6).byteV) (by omega))⟩⟩⟩,(ui b (ui af (ui aj (ui f (ui ao (ui h (ui ar (ui i v))))))))⟩
end Go.Proofs.YtdkhbcefkfgbdaaGreat
