/- Contracts of functions, part CAduParses7. -/
import Derived.Test.YtogbnemojakcpaaGreatCAduParses1
import Derived.Test.YtogbnemojakcpaaGreatCAduParses2
import Derived.Test.YtogbnemojakcpaaGreatCAduParses3
import Derived.Test.YtogbnemojakcpaaGreatCAduParses4
import Derived.Test.YtogbnemojakcpaaGreatCAduParses5
import Derived.Test.YtogbnemojakcpaaGreatCAduParses6
import Derived.Deep.Slices
import Derived.ChangeArms
import Derived.WideShapes
set_option linter.unusedVariables false
set_option linter.unusedSimpArgs false
set_option maxRecDepth 100000
set_option maxHeartbeats 4000000
namespace Go.Proofs.YtogbnemojakcpaaGreat
open Go.RowKit
theorem mD{m:Md}{A:Option Addr}{cp:Nat}{b:List Int}{w:World}{dir:Int}(hsl:aT m w (.slice A b.length cp) b)(hb:b.length≤1048576)(hcp:b.length≤cp) :
    Calls Tryz.prog 33 #[.int .i64 dir,.slice A b.length cp] w (jR (.slice A b.length cp) b (dH dir b) w):=by
 have hln:(b.length:Int)≤1048576:=by omega
 have hrb:=aT.range hsl
 refine en 76 Tryz.func33 rfl<|sg<|L0<|bE #[.int .u8 0,.int .u16 0,.int .u8 0,.int .u8 0,.int .u16 0,.int .u16 0,.int .u16 0,.int .u16 0,.int .u16 0,.int .u16 0,.int .u16 0,.int .u16 0,.int .u16 0,.int .u16 0,.slice none 0 0,.slice none 0 0,.slice none 0 0,.slice none 0 0,.int .u8 0,.int .u8 0,.int .u8 0,.int .u8 0,.int .u8 0,.slice none 0 0] fun bj bk o h s=>Pl 1<|ng<|Pl 3<|nt<|sq<|sq<|?_
 refine go<|Pl 3<|cu 3 [13] 16 (((dir != 0)&&(dir != 1))) (fun K L=>?_) ?_
 refine bl 13 ((dir != 0)) (fun z=>?_) (fun z=>?_)
 have a4:=aq z
 exact Pl 3<|ce L (dir != 1) (by rw[z];rfl)
 have a4:=ai z
 exact Pl 3<|ce L false (by rw[z];rfl)
 refine nt<|cb (((dir != 0)&&(dir != 1))) (fun f=>?_) (fun f=>?_)
 have M:=(aR f).1
 have N:=(aR f).2
 have bm:=aq M
 have bn:=aq N
 refine sg<|Pl 1<|L0<|aW h #[.int .u8 0,.int .u16 0,.int .u8 0,.int .u8 0,.int .u16 0,.int .u16 0,.int .u16 0,.int .u16 0,.int .u16 0,.int .u16 0,.int .u16 0,.int .u16 0,.int .u16 0,.int .u16 0,.slice none 0 0,.slice none 0 0,.slice none 0 0,.slice none 0 0,.int .u8 0,.int .u8 0,.int .u8 0,.int .u8 0,.int .u8 0,.slice none 0 0] fun bo a5 a6=>Pl 1<|nt<|rt<|tr<|bz a5 (.int .i64 1)<|?_
 have hs:eE dir b=(d7.zero,1):=by
   unfold eE
   (try simp only[f,M,N,bs,if_true,if_false,decide_true,decide_false,bY,reduceIte])
   all_goals rfl
 rw[← eU hrb]
 refine ex hs ?_
 exact dL (ud s a6 o)
 refine bi<|sq<|sg<|Pl 2<|nt<|cb ((decide (((b.length:Nat) : Int)<8))) (fun i=>?_) (fun i=>?_)
 have a7:=of_decide_eq_true i
 refine sg<|Pl 1<|L0<|aW h #[.int .u8 0,.int .u16 0,.int .u8 0,.int .u8 0,.int .u16 0,.int .u16 0,.int .u16 0,.int .u16 0,.int .u16 0,.int .u16 0,.int .u16 0,.int .u16 0,.int .u16 0,.int .u16 0,.slice none 0 0,.slice none 0 0,.slice none 0 0,.slice none 0 0,.int .u8 0,.int .u8 0,.int .u8 0,.int .u8 0,.int .u8 0,.slice none 0 0] fun bp a8 a9=>Pl 1<|nt<|rt<|tr<|bz a8 (.int .i64 2)<|?_
 have hs:eE dir b=(d7.zero,2):=by
   unfold eE
   (try simp only[f,i,bs,if_true,if_false,decide_true,decide_false,bY,reduceIte])
   all_goals rfl
 rw[← eU hrb]
 refine ex hs ?_
 exact dL (ud s a9 o)
 have a7:=of_decide_eq_false i
 refine bi<|sq<|sg<|Pl 2<|nt<|cb ((decide (260<((b.length:Nat) : Int)))) (fun j=>?_) (fun j=>?_)
 have aa:=of_decide_eq_true j
 refine sg<|Pl 1<|L0<|aW h #[.int .u8 0,.int .u16 0,.int .u8 0,.int .u8 0,.int .u16 0,.int .u16 0,.int .u16 0,.int .u16 0,.int .u16 0,.int .u16 0,.int .u16 0,.int .u16 0,.int .u16 0,.int .u16 0,.slice none 0 0,.slice none 0 0,.slice none 0 0,.slice none 0 0,.int .u8 0,.int .u8 0,.int .u8 0,.int .u8 0,.int .u8 0,.slice none 0 0] fun bq ac ae=>Pl 1<|nt<|rt<|tr<|bz ac (.int .i64 3)<|?_
 have hs:eE dir b=(d7.zero,3):=by
   unfold eE
   (try simp only[f,i,j,bs,if_true,if_false,decide_true,decide_false,bY,reduceIte])
   all_goals rfl
 rw[← eU hrb]
 refine ex hs ?_
 exact dL (ud s ae o)
 have aa:=of_decide_eq_false j
 refine bi<|sq<|sg<|Pl 1<|?_
 have B:=aT.old hsl s
 refine eJ (aT.at_ B 2 (by omega)) fun af ag ah aj br=>L0<|iZ b.length 2 ah (by omega)<|L0<|dY (p:=⟨af,ag+2,none⟩) (v:=.int .u8 (b.getD 2 0)) aj<|Pl 2<|bl 28 (((b.getD 2 0)!=0)) (fun r=>?_) (fun r=>?_)
 have al:=aq r
 refine Pl 5<|nt<|c1<|sg<|Pl 1<|L0<|aW h #[.int .u8 0,.int .u16 0,.int .u8 0,.int .u8 0,.int .u16 0,.int .u16 0,.int .u16 0,.int .u16 0,.int .u16 0,.int .u16 0,.int .u16 0,.int .u16 0,.int .u16 0,.int .u16 0,.slice none 0 0,.slice none 0 0,.slice none 0 0,.slice none 0 0,.int .u8 0,.int .u8 0,.int .u8 0,.int .u8 0,.int .u8 0,.slice none 0 0] fun bt an ap=>Pl 1<|nt<|rt<|tr<|bz an (.int .i64 13)<|?_
 have hs:eE dir b=(d7.zero,13):=by
   unfold eE
   (try simp only[f,i,j,r,bs,if_true,if_false,decide_true,decide_false,bY,reduceIte])
   all_goals rfl
 rw[← eU hrb]
 refine ex hs ?_
 exact dL (ud s ap o)
 have al:=ai r
 refine Pl 1<|eJ (aT.at_ B 3 (by omega)) fun au av ax ay bu=>L1<|iZ b.length 3 ax (by omega)<|L1<|dY (p:=⟨au,av+3,none⟩) (v:=.int .u8 (b.getD 3 0)) ay<|Pl 2<|nt<|cb (((b.getD 3 0)!=0)) (fun t=>?_) (fun t=>?_)
 have az:=aq t
 refine sg<|Pl 1<|L0<|aW h #[.int .u8 0,.int .u16 0,.int .u8 0,.int .u8 0,.int .u16 0,.int .u16 0,.int .u16 0,.int .u16 0,.int .u16 0,.int .u16 0,.int .u16 0,.int .u16 0,.int .u16 0,.int .u16 0,.slice none 0 0,.slice none 0 0,.slice none 0 0,.slice none 0 0,.int .u8 0,.int .u8 0,.int .u8 0,.int .u8 0,.int .u8 0,.slice none 0 0] fun bv aA aC=>Pl 1<|nt<|rt<|tr<|bz aA (.int .i64 13)<|?_
 have hs:eE dir b=(d7.zero,13):=by
   unfold eE
   (try simp only[f,i,j,r,t,bs,if_true,if_false,decide_true,decide_false,bY,reduceIte])
   all_goals rfl
 rw[← eU hrb]
 refine ex hs ?_
 exact dL (ud s aC o)
 have az:=ai t
 refine bi<|sq<|sq<|eJ (aT.at_ B 4 (by omega)) fun aD aE aH aI bw=>eJ (aT.at_ B 5 (by omega)) fun aJ aK aL aN bx=>Rg 13 (fun w'=>w'.cell? ⟨aD,aE+4,none⟩=some (.int .u8 (b.getD 4 0))∧w'.cell? ⟨aJ,aK+5,none⟩=some (.int .u8 (b.getD 5 0))) fun bA l=>bg ⟨(uc l aI),(uc l aN)⟩ fun e=>Rt 0 e<|kU 1 e b.length 4 4 rfl aH (by omega)<|Rl 2 e (fun _ hs=>hs.1)<|Rr 3 e (.int .i64 (b.getD 4 0)) (fun _ _=>cg (.int .i64 (IntKind.i64.wrap (b.getD 4 0))) (by kernel_rfl) (congrArg (Value.int .i64) (i64_in (by omega))))<|Rr 4 e (.int .i64 (256*(b.getD 4 0))) (fun _ _=>cg (.int .i64 (IntKind.i64.wrap (256*(b.getD 4 0)))) (by kernel_rfl) (congrArg (Value.int .i64) (IntWalk.i64_in _ (by omega))))<|Rt 5 e<|?_
 refine kU 6 e b.length 5 5 rfl aL (by omega)<|Rl 7 e (fun _ hs=>hs.2)<|Rr 8 e (.int .i64 (b.getD 5 0)) (fun _ _=>cg (.int .i64 (IntKind.i64.wrap (b.getD 5 0))) (by kernel_rfl) (congrArg (Value.int .i64) (i64_in (by omega))))<|Rr 9 e (.int .i64 ((256*(b.getD 4 0))+(b.getD 5 0))) (fun _ _=>cg (.int .i64 (IntKind.i64.wrap ((256*(b.getD 4 0))+(b.getD 5 0)))) (by kernel_rfl) (congrArg (Value.int .i64) (IntWalk.i64_in _ (by omega))))<|Rt 10 e<|Rr 11 e (.int .i64 (((b.length:Nat) : Int)-6)) (fun _ _=>cg (.int .i64 (IntKind.i64.wrap (((b.length:Nat) : Int)-6))) (by kernel_rfl) (congrArg (Value.int .i64) (IntWalk.i64_in _ (by omega))))<|Rt 12 e<|re<|tn<|?_
 have O:=aF s l
 refine cb ((((256*(b.getD 4 0))+(b.getD 5 0))!=(((b.length:Nat) : Int)-6))) (fun u=>?_) (fun u=>?_)
 have aO:=aq u
 refine sg<|Pl 1<|?_
 refine L0<|aW (ub l h) #[.int .u8 0,.int .u16 0,.int .u8 0,.int .u8 0,.int .u16 0,.int .u16 0,.int .u16 0,.int .u16 0,.int .u16 0,.int .u16 0,.int .u16 0,.int .u16 0,.int .u16 0,.int .u16 0,.slice none 0 0,.slice none 0 0,.slice none 0 0,.slice none 0 0,.int .u8 0,.int .u8 0,.int .u8 0,.int .u8 0,.int .u8 0,.slice none 0 0] fun bB aP aQ=>Pl 1<|nt<|rt<|tr<|bz aP (.int .i64 5)<|?_
 have hs:eE dir b=(d7.zero,5):=by
   unfold eE
   (try simp only[f,i,j,r,t,u,bs,if_true,if_false,decide_true,decide_false,bY,reduceIte])
   all_goals rfl
 rw[← eU hrb]
 refine ex hs ?_
 exact dL (ud O aQ o)
 have aO:=ai u
 refine bi<|sg<|Pl 2<|jW (dv (P:=Tryz.prog) 22 5 1 Tryz.underlying22 rfl rfl A b.length cp 7 (by omega)) fun aS hrun84 Q=>L0<|g9 (.slice aS (b.length-7) (cp-7)) (dM (kl:=.i64) (k:=((7:Nat) : Int)) (A:=A) (n:=b.length) (c:=cp) rfl Tryz.underlying22 (by kernel_rfl) (by kernel_rfl) (hrun84 _ _))<|?_
 have R:=aT.old B l
 refine pr (cZ dir (b.drop 7)) fun a F G=>?_
 refine L0<|Oc<|e2 (gn G (Q _ _ _ _ _ R) (by rw[List.length_drop];omega)) fun x90 bC aU H=>?_
 have aV:=cP.sub aU (fun m' w' q=>(Q _ _ _ _ _ q))
 refine Pl 3<|L0<|bE mZ fun S bD T aY aZ=>L0<|aW aY (gF a x90) fun bF b0 b1=>Pl 1<|nt<|sq<|sg<|Pl 2<|nt<|?_
 have U:=ud aZ b1 T
 have D:=aF H U
 have V:=aF O D
 refine cb ((F != 0)) (fun C=>?_) (fun C=>?_)
 have b2:=aq C
 refine sg<|Pl 2<|?_
 refine L0<|aW (ub (aF l D) h) #[.int .u8 0,.int .u16 0,.int .u8 0,.int .u8 0,.int .u16 0,.int .u16 0,.int .u16 0,.int .u16 0,.int .u16 0,.int .u16 0,.int .u16 0,.int .u16 0,.int .u16 0,.int .u16 0,.slice none 0 0,.slice none 0 0,.slice none 0 0,.slice none 0 0,.int .u8 0,.int .u8 0,.int .u8 0,.int .u8 0,.int .u8 0,.slice none 0 0] fun bG b3 b4=>Pl 1<|nt<|rt<|tr<|bz b3 (.int .i64 F)<|?_
 have hs:eE dir b=(d7.zero,F):=by
   unfold eE
   (try simp only[f,i,j,r,t,u,C,bs,if_true,if_false,decide_true,decide_false,bY,G,reduceIte])
   all_goals rfl
 rw[← eU hrb]
 refine ex hs ?_
 exact dL (ud V b4 o)
 have b2:=ai C
 refine bi<|sq<|?_
 have I:=aT.old R D
 refine eJ (aT.at_ I 6 (by omega)) fun b5 b6 W b7 bH=>eJ (aT.at_ I 0 (by omega)) fun b9 ba X bb bI=>eJ (aT.at_ I 1 (by omega)) fun bc bd Y be bJ=>Rg 18 (fun w'=>w'.cell? ⟨b5,b6+6,none⟩=some (.int .u8 (b.getD 6 0))∧w'.cell? ⟨b9,ba+0,none⟩=some (.int .u8 (b.getD 0 0))∧w'.cell? ⟨bc,bd+1,none⟩=some (.int .u8 (b.getD 1 0))∧w'.heap[S]? = some (.cells (gF a x90) 30 (0,0))) fun bK y=>?_
 have Z:=ub y b0
 refine bg ⟨(uc y b7),(uc y bb),(uc y be),Z⟩ fun d=>Rt 0 d<|kU 1 d b.length 6 6 rfl W (by omega)<|Rl 2 d (fun _ hs=>hs.1)<|Rt 3 d<|kU 4 d b.length 0 0 rfl X (by omega)<|Rl 5 d (fun _ hs=>hs.2.1)<|Rr 6 d (.int .u16 (b.getD 0 0)) (fun _ _=>cg (.int .u16 (IntKind.u16.wrap (b.getD 0 0))) (by kernel_rfl) (congrArg (Value.int .u16) (gN (by omega))))<|Rt 7 d<|Rt 8 d<|kU 9 d b.length 1 1 rfl Y (by omega)<|Rl 10 d (fun _ hs=>hs.2.2.1)<|Rr 11 d (.int .u16 (b.getD 1 0)) (fun _ _=>cg (.int .u16 (IntKind.u16.wrap (b.getD 1 0))) (by kernel_rfl) (congrArg (Value.int .u16) (gN (by omega))))<|Rt 12 d<|?_
 refine Rt 13 d<|Rr 14 d (.agg (gF a x90)) (fun w' hs=>gM (g:=S) (off:=0) [.int .u8 a.code,.int .u8 a.fail,.int .u16 a.addr,.int .u16 a.count,.int .u16 a.value,.int .u16 a.and_,.int .u16 a.or_,.int .u16 a.addr2,.int .u16 a.sub,.int .u16 a.status,.int .u16 a.events,.int .u16 a.messages,.slice x90.aw a.words.length x90.kw,.slice x90.ab a.bits.length x90.kb,.slice x90.ad a.data.length x90.kd,.slice x90.ar a.recs.length x90.kr,.int .u8 a.mei,.int .u8 a.kind,.int .u8 a.level,.int .u8 a.more,.int .u8 a.next,.slice x90.ao a.objects.length x90.ko] rfl (by kernel_rfl) hs.2.2.2 (by kernel_rfl) (by kernel_rfl) rfl)<|Rt 15 d<|?_
 have a0:=aF D y
 have a1:=aF l a0
 refine R0 16 rfl<|aW (ub a1 h) (fD (b.getD 6 0) ((((256*(b.getD 0 0))%65536)+(b.getD 1 0))%65536) a x90) fun bL bf E=>?_
 have a2:=uz y E
 have bM:=uz a0 E
 have bN:=uz a1 E
 have a3:=ud V a2 o
 have J:=aT.old hsl a3
 refine bg ⟨(cB J W 6 (by omega)),(cB J X 0 (by omega)),(cB J Y 1 (by omega)),(aX E (Ne.symm (nb (am h) (le l.size H.size) T)) Z)⟩ fun bh=>Rt 17 bh<|re<|tn<|rt<|bz bf (.int .i64 0)<|?_
 have hs:eE dir b=(⟨(b.getD 6 0),((((256*(b.getD 0 0))%65536)+(b.getD 1 0))%65536),a⟩,0):=by
   unfold eE
   (try simp only[f,i,j,r,t,u,C,bs,if_true,if_false,decide_true,decide_false,bY,G,reduceIte])
   all_goals rfl
 rw[← eU hrb]
 refine ex hs ?_
 exact⟨x90,rfl,⟨(cP.upd aV (uz U a2) (ak (aM (ub (aF l H) h) (by decide)) aG)),b8 (x:=(b.getD 6 0)) (by omega),aB (x:=((((256*(b.getD 0 0))%65536)+(b.getD 1 0))%65536)) (by omega)⟩,a3⟩
theorem og{m:Md}{v:Value}{b:List Int}{w:World}{dir:Int}(h:aT m w v b)(hb:b.length≤1048576) : Calls Tryz.prog 33 #[.int .i64 dir,v] w (jR v b (dH dir b) w):=by
  obtain⟨A,cp,rfl,hc,_⟩:=h.shape
  exact mD h hb hc
theorem lz{m:Md}{v:Value}{b:List Int}{w:World}{dir:Int}{F:d7}{E:Int}(hX:dH dir b=(F,E))(h:aT m w v b)(hb:b.length≤1048576) : Calls Tryz.prog 33 #[.int .i64 dir,v] w (fun e w'=>∃ x,e = .returned (.tuple #[.agg (fD F.unit F.tid F.msg x),.int .i64 E])∧(cP v b w' (gF F.msg x).toList F.msg∧(0≤F.unit∧F.unit<256)∧(0≤F.tid∧F.tid<65536))∧aD [] w w'):=by
  refine(og h hb).mono ?_
  rintro e w' ⟨x,rfl,h1,h2⟩
  rw[hX] at h1 ⊢
  exact⟨x,rfl,h1,h2⟩
open Go.RowKit
theorem aL.flz{m:Md}{w:World}{cs:List Value}{M:aQ}(h:aL m w cs M) : aL false w cs M:=by
  obtain⟨vw,vb,vd,vr,vo,h0,h1,h2,h3,h4,h5,h6⟩:=h
  exact⟨vw,vb,vd,vr,vo,h0,aK.any h1 fun _ _ q=>q,aK.any h2 fun _ _ q=>q,aK.any h3 fun _ _ q=>q,aK.any h4 fun r cs ⟨v,a,b,c⟩=>⟨v,a,aK.any b fun _ _ q=>q,c⟩,aK.any h5 fun r cs ⟨v,a,b,c⟩=>⟨v,a,aK.any b fun _ _ q=>q,c⟩,h6⟩
theorem ol{k:Int}{m:Md}{A:Option Addr}{cp:Nat}{b:List Int}{w:World}{dir:Int}{F:d7}{E:Int}(hX:jA k dir b=(F,E))(hsl:aT m w (.slice A b.length cp) b)(hb:b.length≤1048576) :
    Calls Tryz.prog 66 #[.int .i64 k,.int .i64 dir,.slice A b.length cp] w (fun e w'=>∃ x,e = .returned (.tuple #[.agg (fD F.unit F.tid F.msg x),.int .i64 E])∧(aL false w' (gF F.msg x).toList F.msg∧(0≤F.unit∧F.unit<256)∧(0≤F.tid∧F.tid<65536))∧aD [] w w'):=by
 have hln:(b.length:Int)≤1048576:=by omega
 refine en 31 Tryz.func66 rfl<|sg<|L0<|bE #[.int .u8 0,.int .u16 0,.int .u8 0,.int .u8 0,.int .u16 0,.int .u16 0,.int .u16 0,.int .u16 0,.int .u16 0,.int .u16 0,.int .u16 0,.int .u16 0,.int .u16 0,.int .u16 0,.slice none 0 0,.slice none 0 0,.slice none 0 0,.slice none 0 0,.int .u8 0,.int .u8 0,.int .u8 0,.int .u8 0,.int .u8 0,.slice none 0 0] fun a4 a5 g h a=>Pl 1<|nt<|sq<|sg<|Pl 1<|nt<|bk<|?_
 refine sg<|Pl 2<|nt<|cb ((k==0)) (fun c=>?_) (fun c=>?_)
 have H:=al c
 refine sg<|Pl 2<|?_
 refine pr (dW dir b) fun i I n=>?_
 refine L0<|Oc<|e2 (mV n (aT.old hsl a) (by omega)) fun x20 a6 J o=>?_
 obtain⟨K,L,M⟩:=J
 refine Pl 2<|?_
 have p:=ub o h
 refine L0<|aW p (fD i.unit i.tid i.msg x20) fun a7 N q=>Pl 1<|nt<|rt<|br<|tr<|bz N (.int .i64 I)<|?_
 have r:=ud a (uz o q) g
 unfold jA at hX
 simp only[c,cond_true,cond_false] at hX
 obtain⟨rfl,rfl⟩:=Prod.mk.inj (n.symm.trans hX)
 exact⟨x20,rfl,⟨(cP.rd (cP.upd K q (ak (aM p (by decide)) aG)) (aT.old hsl r)),L,M⟩,r⟩
 have H:=ap c
 refine sg<|Pl 2<|nt<|cb ((k==1)) (fun d=>?_) (fun d=>?_)
 have O:=al d
 refine sg<|Pl 2<|?_
 refine pr (eD dir b) fun j P s=>?_
 refine L0<|Oc<|e2 (mt s (aT.old hsl a) (by omega)) fun x41 a8 Q t=>?_
 obtain⟨R,S,T⟩:=Q
 refine Pl 2<|?_
 have u:=ub t h
 refine L0<|aW u (fD j.unit j.tid j.msg x41) fun a9 U v=>Pl 1<|nt<|rt<|br<|tr<|bz U (.int .i64 P)<|?_
 unfold jA at hX
 simp only[c,d,cond_true,cond_false] at hX
 obtain⟨rfl,rfl⟩:=Prod.mk.inj (s.symm.trans hX)
 exact⟨x41,rfl,⟨(aL.flz (aL.upd R v (ak (aM u (by decide)) aG))),S,T⟩,(ud a (uz t v) g)⟩
 have O:=ap d
 refine sg<|Pl 2<|nt<|cb ((k==2)) (fun f=>?_) (fun f=>?_)
 have V:=al f
 refine sg<|Pl 2<|?_
 refine pr (dH dir b) fun l W y=>?_
 refine L0<|Oc<|e2 (lz y (aT.old hsl a) (by omega)) fun x61 aa X z=>?_
 obtain⟨Y,Z,a0⟩:=X
 refine Pl 2<|?_
 have B:=ub z h
 refine L0<|aW B (fD l.unit l.tid l.msg x61) fun ab a1 C=>Pl 1<|nt<|rt<|br<|tr<|bz a1 (.int .i64 W)<|?_
 have D:=ud a (uz z C) g
 unfold jA at hX
 simp only[c,d,f,cond_true,cond_false] at hX
 obtain⟨rfl,rfl⟩:=Prod.mk.inj (y.symm.trans hX)
 exact⟨x61,rfl,⟨(cP.rd (cP.upd Y C (ak (aM B (by decide)) aG)) (aT.old hsl D)),Z,a0⟩,D⟩
 have V:=ap f
 refine sk<|bn<|tn<|sg<|Pl 1<|L0<|aW h #[.int .u8 0,.int .u16 0,.int .u8 0,.int .u8 0,.int .u16 0,.int .u16 0,.int .u16 0,.int .u16 0,.int .u16 0,.int .u16 0,.int .u16 0,.int .u16 0,.int .u16 0,.int .u16 0,.slice none 0 0,.slice none 0 0,.slice none 0 0,.slice none 0 0,.int .u8 0,.int .u8 0,.int .u8 0,.int .u8 0,.int .u8 0,.slice none 0 0] fun ac a2 a3=>Pl 1<|nt<|rt<|bz a2 (.int .i64 1)<|?_
 have G:=ud a a3 g
 unfold jA at hX
 simp only[c,d,f,cond_true,cond_false] at hX
 obtain⟨rfl,rfl⟩:=Prod.mk.inj hX
 exact⟨zw,(by kernel_rfl),⟨cP.rd (cP.zero _ _ _) (aT.old hsl G),(show(0:Int)≤0∧(0:Int)<256 from by decide),(show(0:Int)≤0∧(0:Int)<65536 from by decide)⟩,G⟩
theorem mY{k:Int}{m:Md}{v:Value}{b:List Int}{w:World}{dir:Int}{F:d7}{E:Int}(hX:jA k dir b=(F,E))(h:aT m w v b)(hb:b.length≤1048576) : Calls Tryz.prog 66 #[.int .i64 k,.int .i64 dir,v] w (fun e w'=>∃ x,e = .returned (.tuple #[.agg (fD F.unit F.tid F.msg x),.int .i64 E])∧(aL false w' (gF F.msg x).toList F.msg∧(0≤F.unit∧F.unit<256)∧(0≤F.tid∧F.tid<65536))∧aD [] w w'):=by
  obtain⟨A,cp,rfl,_,_⟩:=h.shape
  exact ol hX h hb
theorem xY{w:World}{k:Int}:Calls Tryz.prog 68 #[.int .i64 k] w (bP (.int .i64 (i2 k)) w):=by
 refine en 10 Tryz.func68 rfl<|sg<|Pl 1<|nt<|sq<|sg<|Pl 1<|nt<|bk<|sq<|?_
 refine go<|Pl 2<|nt<|cb ((k==0)) (fun a=>?_) (fun a=>?_)
 have d:=al a
 refine sg<|Pl 1<|nt<|rt<|br<|tr<|rr (.int .i64 256)<|?_
 have hs:i2 k=256:=by unfold i2;simp only[a,cond_true,cond_false]
 rw[hs]
 exact⟨rfl,(aD.refl [] _)⟩
 have d:=ap a
 refine sg<|Pl 2<|nt<|cb ((k==1)) (fun b=>?_) (fun b=>?_)
 have e:=al b
 refine sg<|Pl 1<|nt<|rt<|br<|tr<|rr (.int .i64 513)<|?_
 have hs:i2 k=513:=by unfold i2;simp only[a,b,cond_true,cond_false]
 rw[hs]
 exact⟨rfl,(aD.refl [] _)⟩
 have e:=ap b
 refine sg<|Pl 2<|nt<|cb ((k==2)) (fun c=>?_) (fun c=>?_)
 have f:=al c
 refine sg<|Pl 1<|nt<|rt<|br<|tr<|rr (.int .i64 260)<|?_
 have hs:i2 k=260:=by unfold i2;simp only[a,b,c,cond_true,cond_false]
 rw[hs]
 exact⟨rfl,(aD.refl [] _)⟩
 have f:=ap c
 refine sk<|bn<|tn<|sg<|Pl 1<|nt<|rt<|rr (.int .i64 0)<|?_
 have hs:i2 k=0:=by unfold i2;simp only[a,b,c,cond_true,cond_false]
 rw[hs]
 exact⟨rfl,(aD.refl [] _)⟩
open Go.RowKit
theorem mO{w:World}{k dir:Int}{mA:Md}{A:Option Addr}{cpA:Nat}{b:List Int}(hb:aT mA w (.slice A b.length cpA) b) :
    Calls Tryz.prog 14 #[.int .i64 k,.int .i64 dir,.slice A b.length cpA] w (bP (.bool true) w):=by
 refine en 58 Tryz.func14 rfl<|sg<|Pl 1<|ng<|L0<|Oc<|m1 (@wi _) fun Y g=>Pl 1<|nt<|sq<|sq<|?_
 refine go<|Pl 3<|nt<|cb ((decide (700<((b.length:Nat) : Int)))) (fun h=>?_) (fun h=>?_)
 have E:=of_decide_eq_true h
 refine sg<|Pl 2<|nt<|rt<|tr<|rr (.bool true)<|?_
 exact⟨rfl,g⟩
 have E:=of_decide_eq_false h
 refine bi<|sg<|Pl 3<|?_
 have o:=aT.old hb g
 refine pr (jA k dir b) fun a i e=>?_
 refine L0<|Oc<|e2 (jo e o (by omega)) fun x14 Z F G=>?_
 obtain⟨H,a0,a1⟩:=F
 refine Pl 3<|L0<|bE #[.int .u8 0,.int .u16 0,.int .u8 0,.int .u8 0,.int .u16 0,.int .u16 0,.int .u16 0,.int .u16 0,.int .u16 0,.int .u16 0,.int .u16 0,.int .u16 0,.int .u16 0,.int .u16 0,.slice none 0 0,.slice none 0 0,.slice none 0 0,.slice none 0 0,.int .u8 0,.int .u8 0,.int .u8 0,.int .u8 0,.int .u8 0,.slice none 0 0] fun a2 a3 I J L=>L0<|aW J (fD a.unit a.tid a.msg x14) fun a4 p M=>Pl 1<|ng<|Pl 3<|?_
 have q:=ud L M I
 have r:=aF G q
 refine pr (jA k dir b) fun c j f=>?_
 refine L0<|Oc<|e2 (mY f (aT.old o r) (by omega)) fun x38 a5 N s=>?_
 obtain⟨O,a6,a7⟩:=N
 refine Pl 3<|L0<|bE #[.int .u8 0,.int .u16 0,.int .u8 0,.int .u8 0,.int .u16 0,.int .u16 0,.int .u16 0,.int .u16 0,.int .u16 0,.int .u16 0,.int .u16 0,.int .u16 0,.int .u16 0,.int .u16 0,.slice none 0 0,.slice none 0 0,.slice none 0 0,.slice none 0 0,.int .u8 0,.int .u8 0,.int .u8 0,.int .u8 0,.int .u8 0,.slice none 0 0] fun a8 a9 t P u=>L0<|aW P (fD c.unit c.tid c.msg x38) fun aa v x=>Pl 1<|ng<|Pl 7<|cu 6 [37] 43 (((i==j)&&((a.unit==c.unit)&&(a.tid==c.tid)))) (fun K y=>?_) ?_
 refine bl 37 ((i==j)) (fun d=>?_) (fun d=>?_)
 have Q:=al d
 refine Pl 1<|?_
 exact L1<|yk (ub (aF s (ud u x t)) p) 0 2<|Pl 1<|L1<|yk v 0 2<|L1<|g9 (.bool ((a.unit==c.unit)&&(a.tid==c.tid))) (pl a.unit a.tid c.unit c.tid rfl (by kernel_rfl) (by kernel_rfl) rfl)<|Pl 1<|ce y ((a.unit==c.unit)&&(a.tid==c.tid)) (by rw[d];rfl)
 have Q:=ap d
 exact Pl 6<|ce y false (by rw[d];rfl)
 refine Pl 1<|?_
 have z:=ud u x t
 have l:=aF s z
 have B:=aF g (aF r l)
 refine bl 44 (((i==j)&&((a.unit==c.unit)&&(a.tid==c.tid)))) (fun m=>?_) (fun m=>?_)
 have R:=(aR m).1
 have C:=(aR m).2
 have ab:=al R
 have S:=(aR C).1
 have T:=(aR C).2
 have q63bap:=al S
 have q63bbp:=al T
 refine Pl 1<|?_
 refine L1<|yk (ub l p) 2 22<|Pl 1<|L1<|yk v 2 22<|?_
 refine L1<|Oc<|m1 (sF (aL.upd H (aF q l) aG) (aL.upd O z aG)) fun ac U=>Pl 2<|?_
 have D:=aF B U
 refine bl 51 ((decide (a.msg=c.msg))) (fun n=>?_) (fun n=>?_)
 have V:=of_decide_eq_true n
 refine Pl 1<|L1<|Oc<|m1 (iQ (k:=k)) fun ad W=>Pl 1<|L1<|Oc<|m1 (xY (k:=k)) fun ae X=>Pl 3<|nt<|rt<|rr (.bool ((i2 k)==(i2 k)))<|?_
 have hs:((i2 k)==(i2 k))=true:=by obtain⟨rfl,rfl⟩:=Prod.mk.inj (e.symm.trans f);first | (simp;done) | (exfalso;simp_all)
 rw[hs]
 exact⟨rfl,(aF D (aF W X))⟩
 have V:=of_decide_eq_false n
 refine Pl 7<|nt<|rt<|rr (.bool false)<|?_
 have hs:false=true:=by obtain⟨rfl,rfl⟩:=Prod.mk.inj (e.symm.trans f);first | (simp;done) | (exfalso;simp_all)
 rw[hs]
 exact⟨rfl,D⟩
 refine Pl 14<|nt<|rt<|rr (.bool false)<|?_
 have hs:false=true:=by obtain⟨rfl,rfl⟩:=Prod.mk.inj (e.symm.trans f);first | (simp;done) | (exfalso;simp_all)
 rw[hs]
 exact⟨rfl,B⟩
theorem kZ{w:World}{k dir:Int}{mA:Md}{vA:Value}{b:List Int}(hb:aT mA w vA b) : Calls Tryz.prog 14 #[.int .i64 k,.int .i64 dir,vA] w (bP (.bool true) w):=by
  obtain⟨AA,cpA,rfl,_,_⟩:=hb.shape
  exact mO hb
open Go.RowKit
section
variable {H:Type}{enc:TypeId × Value→H}{P:Program}{w:World}{base:Nat}{spare:Nat→Bool}{held:Bool}
theorem nv(b off:Nat)(sp:Option Nat)(n:Nat)(h:sp=none) : (⟨b,off,sp⟩ : Addr).add n=⟨b,off+n,none⟩:=ir b off n sp h
theorem sm{b off:Nat}{sp:Option Nat}{v:Value}(h:w.cell? ⟨b,off,sp⟩=some v) : sp=none:=by
  cases sp with
  | none=>rfl
  | some s =>
    unfold World.cell? at h
    simp at h
    split at h<;>cases h
theorem ux{α:Type}{Pd:DataW H→Prop}{R:World→α→List Value→Prop}{t e:TypeId}{sz fuel:Nat}{cs:List Value}{x:DataW H × List MemPlace}(ht:P.underlying t=some (.slice e))(hsz:P.cellsOf e=sz)(hp:0<sz)
    (hel:∀ n cs' y,cs'.length=sz→DataW.trod enc P w base spare held n e cs'=some y→Pd y.1→∃ x,R w x cs') (hP:∀ elems spare,x.1 = .slice elems spare→∀ d,d∈elems→Pd d) (h:DataW.trod enc P w base spare held fuel t cs=some x) : ∃ v xs,cs=[v]∧aK false e sz R w v xs:=by
  rcases Go.Deep.open_slice ht h with⟨rfl,_⟩|⟨a,len,cap,m,n,D,Pl,rfl,_,hl,hm,hmm,hxe,hx⟩
  · exact⟨_,[],rfl,aK.nil ..⟩
  have hlm:len≤m:=by rw[hmm];split<;>omega
  have key:∀ i:Fin len,∃ y:α × List Value,w.cells? base (a.add (i*sz)) sz=some y.2∧y.2.length=sz∧R w y.1 y.2:=fun i=>by
    obtain⟨cs',h1,h2⟩:=hx i (by omega)
    rw[hsz] at h1
    obtain⟨_,hlen,_⟩:=World.cells?_some h1
    obtain⟨y,hy⟩:=hel n cs' _ hlen h2 (hP _ _ (by rw[hxe]) _ (List.mem_map.2 ⟨i.1,List.mem_range.2 i.2,rfl⟩))
    exact⟨(y,cs'),h1,hlen,hy⟩
  obtain⟨f,hf⟩:=Classical.axiomOfChoice key
  refine⟨_,List.ofFn fun i=>(f i).1,rfl,some a,cap,by simp,by simpa using hl,hm,(fun h=>by cases h),fun hpos=>?_⟩
  have hpos':0<len:=by simpa using hpos
  obtain⟨b,off,sp⟩:=a
  have hsp:sp=none:=by
    obtain⟨h1,h2,_⟩:=hf ⟨0,hpos'⟩
    obtain⟨_,_,h3⟩:=World.cells?_some h1
    have h4:=h3 0 hp
    rw[List.getElem?_eq_getElem (by omega)] at h4
    cases sp with
    | none=>rfl
    | some s =>
      simp[Addr.add] at h4
      exact sm h4
  subst hsp
  have hc:∀ i:Fin len,∀ k u,(f i).2[k]? = some u→w.cell? ⟨b,off+i*sz+k,none⟩=some u:=fun i k u hu=>by
    obtain⟨h1,h2,_⟩:=hf i
    obtain⟨_,_,h3⟩:=World.cells?_some h1
    have hk:k<sz:=by have:=(List.getElem?_eq_some_iff.1 hu).1;omega
    have h4:=h3 k hk
    rw[nv _ _ _ _ rfl,nv _ _ _ _ rfl] at h4
    rw[h4,hu]
  have h0:∃ u,w.cell? ⟨b,off+0*sz+0,none⟩=some u:=by
    obtain⟨_,h2,_⟩:=hf ⟨0,hpos'⟩
    exact⟨_,hc ⟨0,hpos'⟩ 0 _ (List.getElem?_eq_getElem (by omega))⟩
  obtain⟨u,hu⟩:=h0
  unfold World.cell? at hu
  split at hu
  · rename_i cells t' fr hb
    refine⟨b,off,cells,t',fr,rfl,hb,fun h=>(by cases h),fun j y hj=>?_⟩
    have hjl:j<len:=by have:=(List.getElem?_eq_some_iff.1 hj).1;simpa using this
    have hy:(f ⟨j,hjl⟩).1=y:=by
      rw[List.getElem?_ofFn] at hj
      simpa [hjl] using hj
    obtain⟨_,h2,h3⟩:=hf ⟨j,hjl⟩
    refine⟨(f ⟨j,hjl⟩).2,h2,by rw[← hy];exact h3,fun i u hi=>?_⟩
    have:=hc ⟨j,hjl⟩ i u hi
    rw[bv hb] at this
    exact this
  · cases hu
theorem wg{α:Type}{R:World→α→List Value→Prop}{t e:TypeId}{sz fuel:Nat}{cs:List Value}{x:DataW H × List MemPlace}(ht:P.underlying t=some (.slice e))(hsz:P.cellsOf e=sz)(hp:0<sz)
    (hel:∀ n cs' y,cs'.length=sz→DataW.trod enc P w base spare held n e cs'=some y→∃ x,R w x cs') (h:DataW.trod enc P w base spare held fuel t cs=some x) : ∃ v xs,cs=[v]∧aK false e sz R w v xs :=
  ux (Pd:=fun _=>True) ht hsz hp (fun n cs' y h1 h2 _=>hel n cs' y h1 h2) (fun _ _ _ _ _=>trivial) h
end
section
variable {H:Type}{enc:TypeId × Value→H}{w:World}{base:Nat}{spare:Nat→Bool}{held:Bool}{n:Nat}{y:DataW H × List MemPlace}
theorem ya{cs:List Value}(h:DataW.trod enc Tryz.prog w base spare held n 5 cs=some y) : ∃ x,u7 w x cs:=by
  obtain⟨k,rfl,_,hw⟩:=DataW.trod_int Tryz.underlying5 h
  exact⟨k,rfl,rg hw⟩
theorem yb{cs:List Value}(h:DataW.trod enc Tryz.prog w base spare held n 22 cs=some y) : ∃ v xs,cs=[v]∧aT false w v xs:=wg Tryz.underlying22 (by kernel_rfl) (by decide) (fun _ _ _ _ h=>ya h) h
end
open Go.RowKit
section
variable {H:Type}{enc:TypeId × Value→H}{w:World}{base:Nat}{spare:Nat→Bool}{held:Bool}{n:Nat}{y:DataW H × List MemPlace}
end
open Go.RowKit
section
variable {H:Type}{enc:TypeId × Value→H}{w:World}{base:Nat}{spare:Nat→Bool}{held:Bool}{n:Nat}{y:DataW H × List MemPlace}
end
end Go.Proofs.YtogbnemojakcpaaGreat
