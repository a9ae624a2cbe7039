/- Contracts of functions, part CSascTells5. -/
import Derived.Test.YtdkhbcefkfgbdaaGreatCSascTells1
import Derived.Test.YtdkhbcefkfgbdaaGreatCSascTells2
import Derived.Test.YtdkhbcefkfgbdaaGreatCSascTells3
import Derived.Test.YtdkhbcefkfgbdaaGreatCSascTells4
import Derived.Deep.Slices
import Derived.ChangeArms
import Derived.WideShapes
import Derived.SizedLaws
set_option linter.unusedVariables false
set_option linter.unusedSimpArgs false
set_option maxRecDepth 100000
set_option maxHeartbeats 4000000
namespace Go.Proofs.YtdkhbcefkfgbdaaGreat
open Go.RowKit
variable {b:List Int}{w w':World}
theorem fK{x y:b7 × Int}(h:x=y)  {e:Ending}  {v0:Value}  (k:cz v0 b y w e w') : cz v0 b x w e w':=by rw[h];exact k
variable {c dir:Int}{m:Md}{v:Value}
theorem lB(hc:B8 c)(h:aX m w v b)(hb:b.length≤1048576) :
    Calls Tryz.prog 109 #[.int .i64 dir,.int .u8 c,v] w (cz v b (aj aP dir c b) w):=by
  obtain⟨A,cp,rfl,_,_⟩:=h.shape
  by_cases h0:dir=0
  · subst h0;exact jp hc h hb
  by_cases h1:dir=1
  · subst h1;exact jw hc h hb
  exact jK hc h hb (by omega)
theorem n7(hc:B8 c)(h:aX m w v b)(hb:b.length≤1048576) :
    Calls Tryz.prog 110 #[.int .i64 dir,.int .u8 c,v] w (cz v b (aj aZ dir c b) w):=by
  obtain⟨A,cp,rfl,_,_⟩:=h.shape
  by_cases h0:dir=0
  · subst h0;exact kn hc h hb
  by_cases h1:dir=1
  · subst h1;exact jW hc h hb
  exact jS hc h hb (by omega)
theorem mY(hc:B8 c)(h:aX m w v b)(hb:b.length≤1048576) :
    Calls Tryz.prog 111 #[.int .i64 dir,.int .u8 c,v] w (cz v b (aj bi dir c b) w):=by
  obtain⟨A,cp,rfl,_,_⟩:=h.shape
  rw[← lb]
  by_cases h0:dir=0
  · subst h0;exact jT hc h hb
  by_cases h1:dir=1
  · subst h1;exact jO hc h hb
  exact kf hc h hb (by omega)
variable {A:Option Addr}
theorem mp{cp:Nat}    (hsl:aX m w (.slice A b.length cp) b)(hb:b.length≤1048576) :
    Calls Tryz.prog 78 #[vI dir,.slice A b.length cp] w (cz (.slice A b.length cp) b (eh dir b) w):=by
 have hln:(b.length:Int)≤1048576:=by omega
 refine en 87 Tryz.func78 rfl<|sg<|aK mZ fun bJ bK u d i=>ap 1<|sq<|aq 3<|cY 3 [11] 14 11 (dir != 0) (dir != 1) (fun K aI aJ=>?_) ?_
 have bL:=ay aJ
 exact Pl 3<|ce aI _ rfl
 refine nt<|cb (((dir != 0)&&(dir != 1))) (fun f=>?_) (fun f=>?_)
 have aL:=(aS f).1
 have aM:=(aS f).2
 refine aq 1<|aD d mZ fun bM aO aQ=>ap 1<|bj<|c8 aO (vI 1)<|?_
 have hs:fk dir b=(b7.zero,1):=by
   unfold fk
   (try simp only[f,aL,aM,bq,ey,reduceIte])
   all_goals rfl
 rw[← eB]
 refine fK hs ?_
 exact bo (ud i aQ u)
 refine bz<|sq<|az 3<|cb (((b.length:Int)==0)) (fun g=>?_) (fun g=>?_)
 have aR:=ak g
 refine aq 1<|aD d mZ fun bN aU aV=>ap 1<|bj<|c8 aU (vI 2)<|?_
 have hs:fk dir b=(b7.zero,2):=by
   unfold fk
   (try simp only[f,g,bq,ey,reduceIte])
   all_goals rfl
 rw[← eB]
 refine fK hs ?_
 exact bo (ud i aV u)
 have aR:=au g
 refine bz<|sq<|az 3<|cb ((decide (253<(b.length:Int)))) (fun j=>?_) (fun j=>?_)
 have aW:=of_decide_eq_true j
 refine aq 1<|aD d mZ fun bO aY b0=>ap 1<|bj<|c8 aY (vI 3)<|?_
 have hs:fk dir b=(b7.zero,3):=by
   unfold fk
   (try simp only[f,g,j,bq,ey,reduceIte])
   all_goals rfl
 rw[← eB]
 refine fK hs ?_
 exact bo (ud i b0 u)
 have aW:=of_decide_eq_false j
 refine bz<|aq 1<|?_
 have D:=aX.old hsl i
 refine eF (aX.at_ D 0 (by omega)) fun b1 b2 b3 b4 bP=>L0<|hM b.length 0 b3 (by omega)<|L0<|dC (p:=⟨b1,b2+0,none⟩) (v:=vB (b.getD 0 0)) b4<|ap 1<|sq<|aq 3<|cY 3 [29] 32 29 (decide (128≤(b.getD 0 0))) (dir==1) (fun K b5 b9=>?_) ?_
 have bQ:=of_decide_eq_true b9
 exact Pl 3<|ce b5 _ rfl
 refine nt<|cb (((decide (128≤(b.getD 0 0)))&&(dir==1))) (fun x=>?_) (fun x=>?_)
 have ba:=(aS x).1
 have bb:=(aS x).2
 refine aq 1<|ax<|e2 (nv D (by omega)) fun bc bR E L=>?_
 refine Pl 2<|?_
 have S:=ub L d
 refine aD (hz:=(by rw[E.size];exact b6)) (hv:=E.size) (h1:=(bE.one E (aX.old D L))) S (bc) fun bS bd T=>ap 1<|bj<|eu 22 E.size bd (vI (((g8 b)).2))<|?_
 have hs:fk dir b=(g8 b):=by
   unfold fk
   (try simp only[f,g,j,x,ba,bb,bq,ey,reduceIte])
   all_goals rfl
 rw[← eB]
 refine fK hs ?_
 exact⟨_,rfl,(bE.upd E T (ai (aT S (by decide)) aC)),(ud i (uz L T) u)⟩
 refine bz<|aq 3<|jR (d9 (P:=Tryz.prog) 27 5 1 Tryz.underlying27 rfl rfl A b.length cp 1 (by omega)) fun be hrun54 U=>L0<|gy (.slice be (b.length-1) (cp-1)) (dn (kl:=.i64) (k:=((1:Nat) : Int)) (A:=A) (n:=b.length) (c:=cp) rfl Tryz.underlying27 (by kernel_rfl) (by kernel_rfl) (hrun54 _ _))<|ax<|e2 (lB (dir:=dir) (c:=(b.getD 0 0)) (b8 (by omega)) (U _ _ _ _ _ D) (by(try simp only[List.length_drop]);omega)) fun V bT bf e=>?_
 have G:=aX.old D e
 have l:=bE.sub bf (fun m' w' q=>(U _ _ _ _ _ q))
 refine Pl 3<|aK mZ fun bU bV a bh bk=>aD (hz:=(by rw[l.size];exact b6)) (hv:=l.size) (h1:=(bE.one l hsl)) bh (V) fun bW W bl=>ap 1<|sq<|az 2<|?_
 have H:=ud bk bl a
 have o:=aN e H
 have X:=aN i o
 refine cb (((((aj aP dir (b.getD 0 0) (b.drop 1))).2)==4)) (fun h=>?_) (fun h=>?_)
 have bm:=ak h
 refine go<|Pl 3<|jR (d9 (P:=Tryz.prog) 27 5 1 Tryz.underlying27 rfl rfl A b.length cp 1 (by omega)) fun bn hrun75 Y=>L0<|gy (.slice bn (b.length-1) (cp-1)) (dn (kl:=.i64) (k:=((1:Nat) : Int)) (A:=A) (n:=b.length) (c:=cp) rfl Tryz.underlying27 (by kernel_rfl) (by kernel_rfl) (hrun75 _ _))<|?_
 refine ax<|e2 (n7 (dir:=dir) (c:=(b.getD 0 0)) (b8 (by omega)) (Y _ _ _ _ _ (aX.old G H)) (by(try simp only[List.length_drop]);omega)) fun Z bX bp M=>?_
 have r:=bE.sub bp (fun m' w' q=>(Y _ _ _ _ _ q))
 refine Pl 3<|?_
 have a0:=ub M W
 refine aD (hz:=(by rw[r.size];exact b6)) (hv:=(Eq.trans r.size (Eq.symm l.size))) (h1:=(bE.one r hsl)) a0 (Z) fun bZ a1 a2=>ap 1<|sq<|az 2<|?_
 have C:=uz M a2
 have a3:=ud X C (le (le i.size e.size) a)
 refine cb (((((aj aZ dir (b.getD 0 0) (b.drop 1))).2)==4)) (fun y=>?_) (fun y=>?_)
 have br:=ak y
 refine go<|Pl 3<|jR (d9 (P:=Tryz.prog) 27 5 1 Tryz.underlying27 rfl rfl A b.length cp 1 (by omega)) fun bs hrun92 a4=>L0<|gy (.slice bs (b.length-1) (cp-1)) (dn (kl:=.i64) (k:=((1:Nat) : Int)) (A:=A) (n:=b.length) (c:=cp) rfl Tryz.underlying27 (by kernel_rfl) (by kernel_rfl) (hrun92 _ _))<|?_
 have a5:=ud H C a
 refine ax<|e2 (mY (dir:=dir) (c:=(b.getD 0 0)) (b8 (by omega)) (a4 _ _ _ _ _ (aX.old G a5)) (by(try simp only[List.length_drop]);omega)) fun a6 c0 bt N=>?_
 have s:=bE.sub bt (fun m' w' q=>(a4 _ _ _ _ _ q))
 refine Pl 3<|?_
 have a7:=ub N a1
 refine aD (hz:=(by rw[s.size];exact b6)) (hv:=(Eq.trans s.size (Eq.symm r.size))) (h1:=(bE.one s hsl)) a7 (a6) fun c1 a8 a9=>ap 1<|sq<|az 2<|?_
 have I:=uz N a9
 have aa:=ud a3 I (le (le i.size e.size) a)
 refine cb (((((aj bi dir (b.getD 0 0) (b.drop 1))).2)==4)) (fun B=>?_) (fun B=>?_)
 have bu:=ak B
 refine go<|Pl 3<|jR (d9 (P:=Tryz.prog) 27 5 1 Tryz.underlying27 rfl rfl A b.length cp 1 (by omega)) fun bv hrun110 ab=>L0<|gy (.slice bv (b.length-1) (cp-1)) (dn (kl:=.i64) (k:=((1:Nat) : Int)) (A:=A) (n:=b.length) (c:=cp) rfl Tryz.underlying27 (by kernel_rfl) (by kernel_rfl) (hrun110 _ _))<|?_
 have O:=u1 C I im
 have ad:=ud a5 I a
 refine ax<|e2 (ln (dir:=dir) (c:=(b.getD 0 0)) (b8 (by omega)) (ab _ _ _ _ _ (aX.old G ad)) (by(try simp only[List.length_drop]);omega)) fun ae c2 bw Q=>?_
 have t:=bE.sub bw (fun m' w' q=>(ab _ _ _ _ _ q))
 refine Pl 3<|?_
 have af:=ub Q a8
 refine aD (hz:=(by rw[t.size];exact b6)) (hv:=(Eq.trans t.size (Eq.symm s.size))) (h1:=(bE.one t hsl)) af (ae) fun c3 ag ah=>ap 1<|sq<|az 2<|?_
 have J:=uz Q ah
 have al:=ud aa J (le (le i.size e.size) a)
 refine cb (((((aj bg dir (b.getD 0 0) (b.drop 1))).2)==4)) (fun F=>?_) (fun F=>?_)
 have bx:=ak F
 refine go<|Pl 3<|jR (d9 (P:=Tryz.prog) 27 5 1 Tryz.underlying27 rfl rfl A b.length cp 1 (by omega)) fun bA hrun130 am=>L0<|gy (.slice bA (b.length-1) (cp-1)) (dn (kl:=.i64) (k:=((1:Nat) : Int)) (A:=A) (n:=b.length) (c:=cp) rfl Tryz.underlying27 (by kernel_rfl) (by kernel_rfl) (hrun130 _ _))<|?_
 have an:=u1 O J im
 refine ax<|e2 (nJ (dir:=dir) (c:=(b.getD 0 0)) (b8 (by omega)) (am _ _ _ _ _ (aX.old G (ud ad J a))) (by(try simp only[List.length_drop]);omega)) fun ao c4 bB R=>?_
 have z:=bE.sub bB (fun m' w' q=>(am _ _ _ _ _ q))
 refine Pl 3<|?_
 have ar:=ub R ag
 refine aD (hz:=(by rw[z.size];exact b6)) (hv:=(Eq.trans z.size (Eq.symm t.size))) (h1:=(bE.one z hsl)) ar (ao) fun c5 bC av=>Pl 1<|ng<|L0<|cJ (hz:=(by rw[z.size];exact b6)) bC<|Pl 1<|?_
 have aw:=uz R av
 refine aD (hz:=(by rw[z.size];exact b6)) (hv:=z.size) (h1:=(bE.one z hsl)) (ub (ud o (u1 an aw im) (le e.size a)) d) (ao) fun c6 bD aB=>ap 1<|rt<|eu 22 z.size bD (vI (((aj bY dir (b.getD 0 0) (b.drop 1))).2))<|?_
 have hs:fk dir b=(aj bY dir (b.getD 0 0) (b.drop 1)):=by
   unfold fk
   (try simp only[f,g,j,x,h,y,B,F,bq,ey,reduceIte])
   all_goals rfl
 rw[← eB]
 refine fK hs ?_
 exact⟨_,rfl,(bE.upd z (us av aB) (ai (aT ar (by decide)) (ai (aT (ub (ud o (aN an R) (le e.size a)) d) (by decide)) aC))),(ut al (us aw aB) (ac (ni (le i.size e.size) a) (ac (nr u) aA)))⟩
 have bx:=au F
 refine bz<|sg<|L0<|cJ (hz:=(by rw[t.size];exact b6)) ag<|Pl 1<|?_
 refine aD (hz:=(by rw[t.size];exact b6)) (hv:=t.size) (h1:=(bE.one t hsl)) (ub (ud o (u1 O J im) (le e.size a)) d) (ae) fun c7 bF aE=>ap 1<|rt<|eu 22 t.size bF (vI (((aj bg dir (b.getD 0 0) (b.drop 1))).2))<|?_
 have hs:fk dir b=(aj bg dir (b.getD 0 0) (b.drop 1)):=by
   unfold fk
   (try simp only[f,g,j,x,h,y,B,F,bq,ey,reduceIte])
   all_goals rfl
 rw[← eB]
 refine fK hs ?_
 exact⟨_,rfl,(bE.upd t (us ah aE) (ai (aT af (by decide)) (ai (aT (ub (ud o (aN O Q) (le e.size a)) d) (by decide)) aC))),(ud al aE u)⟩
 have bu:=au B
 refine bz<|sq<|az 2<|cf B<|bz<|sg<|L0<|cJ (hz:=(by rw[s.size];exact b6)) a8<|Pl 1<|?_
 refine aD (hz:=(by rw[s.size];exact b6)) (hv:=s.size) (h1:=(bE.one s hsl)) (ub (ud o (u1 C I im) (le e.size a)) d) (a6) fun c9 bG aF=>ap 1<|rt<|eu 22 s.size bG (vI (((aj bi dir (b.getD 0 0) (b.drop 1))).2))<|?_
 have hs:fk dir b=(aj bi dir (b.getD 0 0) (b.drop 1)):=by
   unfold fk
   (try simp only[f,g,j,x,h,y,B,bq,ey,reduceIte])
   all_goals rfl
 rw[← eB]
 refine fK hs ?_
 exact⟨_,rfl,(bE.upd s (us a9 aF) (ai (aT a7 (by decide)) (ai (aT (ub (ud o (aN C N) (le e.size a)) d) (by decide)) aC))),(ud aa aF u)⟩
 have br:=au y
 refine bz<|sq<|az 2<|cf y<|bz<|sq<|az 2<|cf y<|bz<|sg<|L0<|cJ (hz:=(by rw[r.size];exact b6)) a1<|Pl 1<|?_
 refine aD (hz:=(by rw[r.size];exact b6)) (hv:=r.size) (h1:=(bE.one r hsl)) (ub (ud o C (le e.size a)) d) (Z) fun ca bH aG=>ap 1<|rt<|eu 22 r.size bH (vI (((aj aZ dir (b.getD 0 0) (b.drop 1))).2))<|?_
 have hs:fk dir b=(aj aZ dir (b.getD 0 0) (b.drop 1)):=by
   unfold fk
   (try simp only[f,g,j,x,h,y,bq,ey,reduceIte])
   all_goals rfl
 rw[← eB]
 refine fK hs ?_
 exact⟨_,rfl,(bE.upd r (us a2 aG) (ai (aT a0 (by decide)) (ai (aT (ub (aN o M) d) (by decide)) aC))),(ud a3 aG u)⟩
 have bm:=au h
 refine bz<|sq<|az 2<|cf h<|bz<|sq<|az 2<|cf h<|bz<|sq<|az 2<|cf h<|sk<|tn<|sg<|L0<|cJ (hz:=(by rw[l.size];exact b6)) W<|Pl 1<|?_
 refine aD (hz:=(by rw[l.size];exact b6)) (hv:=l.size) (h1:=(bE.one l hsl)) (ub o d) (V) fun cc bI aH=>ap 1<|rt<|eu 22 l.size bI (vI (((aj aP dir (b.getD 0 0) (b.drop 1))).2))<|?_
 have hs:fk dir b=(aj aP dir (b.getD 0 0) (b.drop 1)):=by
   unfold fk
   (try simp only[f,g,j,x,h,bq,ey,reduceIte])
   all_goals rfl
 rw[← eB]
 refine fK hs ?_
 exact⟨_,rfl,(bE.upd l (uz H aH) (ai (aT (ub e d) (by decide)) aC)),(ud X aH u)⟩
theorem nN(h:aX m w v b)(hb:b.length≤1048576) : Calls Tryz.prog 78 #[.int .i64 dir,v] w (cz v b (eh dir b) w):=by
  obtain⟨A,cp,rfl,_,_⟩:=h.shape
  exact mp h hb
open Go.RowKit
theorem lG{M:b7}{E:Int}(hX:eh dir b=(M,E))(h:aX m w v b)(hb:b.length≤1048576) : Calls Tryz.prog 78 #[.int .i64 dir,v] w (fun e w'=>∃ x,e = .returned (.tuple #[.agg (mJ M x),.int .i64 E])∧bE v b w' (mJ M x).toList M∧aE [] w w'):=by
  refine(nN h hb).mono ?_
  rintro e w' ⟨cs,rfl,h1,h2⟩
  rw[hX] at h1 ⊢
  obtain⟨x,rfl⟩:=nI (h1.rd (aX.old h h2))
  exact⟨x,rfl,h1,h2⟩
open Go.RowKit
def xj (b:List Int) : ah:=⟨b,false,0⟩
def xv (b:List Int) : ah:=(xj b).wordsC 1
def xo (b:List Int) : ah:=(xv b).wordsC 1
def xq (b:List Int) : ah:=(xo b).wordsC 1
def xi (b:List Int) : ah:=(xq b).bytesC 1
def uR (b:List Int) : List Int:=(xi b).bytesR (((xi b).l.length:Nat) : Int)
def u0 (dir:Int)(b:List Int) : cE × Int :=
  if dir != 0&&dir != 1 then (cE.zero,1)
  else if decide ((b.length:Int)<8) then (cE.zero,2)
  else if decide (260<(b.length:Int)) then (cE.zero,3)
  else if (xv b).wordV != 0 then (cE.zero,13)
  else if (xo b).wordV != (b.length:Int)-6 then (cE.zero,5)
  else dz (xq b).byteV (xj b).wordV (eh dir (uR b))
open Go.RowKit
def eV (dir:Int)(b:List Int) : cE × Int :=
  if dir != 0&&dir != 1 then (cE.zero,1)
  else if decide ((b.length:Int)<9) then (cE.zero,2)
  else if decide (513<(b.length:Int)) then (cE.zero,3)
  else if ((b.getD 0 0 != 58)||(b.getD ((b.length:Int)-2).toNat 0 != 13))||(b.getD ((b.length:Int)-1).toNat 0 != 10) then (cE.zero,12)
  else match bG ((b.take ((b.length:Int)-2).toNat).drop 1) with
    | none=>(cE.zero,11)
    | some x=>if !(dL x) then (cE.zero,10) else dz (x.getD 0 0) 0 (eh dir ((x.take ((x.length:Int)-1).toNat).drop 1))
theorem tc(h:3≤b.length) : fh (b.drop 1)=((b.getD ((b.length:Int)-2).toNat 0==13)&&(b.getD ((b.length:Int)-1).toNat 0==10)):=by
  unfold fh
  rw[show((((b.drop 1).length:Nat) : Int)-2).toNat=b.length-3 from by simp only[List.length_drop];omega,List.drop_drop,show 1+(b.length-3)=b.length-2 from by omega,show((b.length:Int)-2).toNat=b.length-2 from by omega,show((b.length:Int)-1).toNat=b.length-2+1 from by omega,decide_eq_true (show 2≤(((b.drop 1).length:Nat) : Int) from by simp only[List.length_drop];omega),Bool.true_and]
  have e:b.drop (b.length-2)=[b.getD (b.length-2) 0,b.getD (b.length-2+1) 0]:=by
    apply List.ext_getElem
    · simp;omega
    · intro i h1 h2
      simp only[List.length_cons,List.length_nil] at h2
      rw[List.getElem_drop]
      rcases i with _|_|i
      · simp[List.getD_eq_getElem?_getD,List.getElem?_eq_getElem (show b.length-2<b.length by omega)]
      · simp[List.getD_eq_getElem?_getD,List.getElem?_eq_getElem (show b.length-2+1<b.length by omega)]
      · omega
  rw[e,Bool.eq_iff_iff]
  simp only[decide_eq_true_eq,List.cons.injEq,and_true,Bool.and_eq_true,beq_iff_eq]
theorem ec:eV dir b=dv dir b:=by
  unfold eV dv
  split
  · rfl
  split
  · rfl
  rename_i hl
  have hl:9≤b.length:=by
    have:=of_decide_eq_false (by simpa using hl:decide ((b.length:Int)<9)=false)
    omega
  split
  · rfl
  have h2:=tc (b:=b) (by omega)
  by_cases hc:(((b.getD 0 0 != 58)||(b.getD ((b.length:Int)-2).toNat 0 != 13))||(b.getD ((b.length:Int)-1).toNat 0 != 10))=true
  · rw[if_pos hc]
    have hd:fQ b=none:=by
      unfold fQ
      rw[if_neg]
      rintro⟨k1,k2⟩
      rw[h2] at k2
      simp only[Bool.or_eq_true,bne_iff_ne,ne_eq,Bool.and_eq_true,beq_iff_eq] at hc k2
      rcases hc with(hc|hc) | hc
      · exact hc k1
      · exact hc k2.1
      · exact hc k2.2
    rw[hd]
  · rw[if_neg hc]
    simp only[Bool.or_eq_true,bne_iff_ne,ne_eq,not_or,Decidable.not_not] at hc
    have hd:fQ b=some ((b.take ((b.length:Int)-2).toNat).drop 1):=by
      unfold fQ
      rw[if_pos ⟨hc.1.1,by rw[h2,hc.1.2,hc.2];rfl⟩,List.drop_take,show((b.length:Int)-2).toNat-1=b.length-3 from by omega]
    rw[hd]
    dsimp only
    cases bG ((b.take ((b.length:Int)-2).toNat).drop 1) with
    | none=>rfl
    | some x=>dsimp only;rw[gK]
open Go.RowKit
theorem jZ.old{base:Nat}   {xs:List Int}(h:jZ base w v xs)(hu:aE [] w w') : jZ base w' v xs:=by
  obtain⟨g,cap,cur,n,h1,h2,h3,h4⟩:=h
  exact⟨g,cap,cur,n,h1,h2,hu.blk (by simp) h3,h4⟩
section
variable {P:Program}{n:Nat}{D:List Deferred}{F:Fr}{w:World}{K:Fr→World→Prop}{Q:Exit→Act→World→Prop}{d:Option Tmp}{t:TypeId}{s:String}{af:Array Edge}{gu:Option (Nat × Bool)}
end
open Go.RowKit
theorem rS{w:World}{c:Int}(hc:0≤c∧c<256) : Calls Tryz.prog 118 #[vB c] w (bW (vI (bJ c)) w):=by
 refine en 23 Tryz.func118 rfl<|az 1<|sq<|bk<|aq 3<|cY 3 [6] 9 6 (decide (48≤c)) (decide (c≤57)) (fun K d e=>?_) ?_
 have l:=of_decide_eq_true e
 exact Pl 3<|ce d _ rfl
 refine ap 1<|cb (((decide (48≤c))&&(decide (c≤57)))) (fun a=>?_) (fun a=>?_)
 have f:=(aS a).1
 have g:=(aS a).2
 have m:=of_decide_eq_true f
 have n:=of_decide_eq_true g
 refine aq 1<|be c<|be (c-48)<|ap 1<|rt<|br<|tr<|rr (vI (c-48))<|?_
 have hs:bJ c=(c-48):=by unfold bJ;(try simp only[Bool.and_eq_true,decide_eq_true_eq,Bool.and_eq_false_iff,decide_eq_false_iff_not] at *);(repeat' split)<;>omega
 rw[hs]
 exact⟨rfl,(aE.refl [] _)⟩
 refine aq 3<|cY 3 [16] 19 16 (decide (65≤c)) (decide (c≤70)) (fun K h i=>?_) ?_
 have o:=of_decide_eq_true i
 exact Pl 3<|ce h _ rfl
 refine ap 1<|cb (((decide (65≤c))&&(decide (c≤70)))) (fun b=>?_) (fun b=>?_)
 have j:=(aS b).1
 have k:=(aS b).2
 have p:=of_decide_eq_true j
 have q:=of_decide_eq_true k
 refine aq 1<|be c<|be (c-55)<|ap 1<|rt<|br<|tr<|rr (vI (c-55))<|?_
 have hs:bJ c=(c-55):=by unfold bJ;(try simp only[Bool.and_eq_true,decide_eq_true_eq,Bool.and_eq_false_iff,decide_eq_false_iff_not] at *);(repeat' split)<;>omega
 rw[hs]
 exact⟨rfl,(aE.refl [] _)⟩
 refine sk<|bn<|tn<|az 1<|rt<|rr (vI (-1))<|?_
 have hs:bJ c = -1:=by unfold bJ;(try simp only[Bool.and_eq_true,decide_eq_true_eq,Bool.and_eq_false_iff,decide_eq_false_iff_not] at *);(repeat' split)<;>omega
 rw[hs]
 exact⟨rfl,(aE.refl [] _)⟩
theorem oA(c:Int) : -1≤bJ c:=by
  unfold bJ
  (repeat' split)<;>omega
theorem rC{xs:List Int}{w:World}(hr:ep xs)(hl:xs.length≤1048576) :
    Calls Tryz.prog 84 #[.string (strOfNums xs)] w (fb xs w):=by
 refine en 43 Tryz.func84 rfl<|az 2<|sq<|aq 1<|L0<|Oe (vI (((strOfNums xs).size:Nat) : Int)) (vI (xs.length:Int)) (by rw[strOfNums_size])<|L0<|Oe (vI (Int.tmod (xs.length:Int) 2)) (vI ((xs.length:Int)%2)) (congrArg (Value.int .i64) (Int.tmod_eq_emod_of_nonneg (by omega)))<|Pl 1<|nl<|tn<|cb ((((xs.length:Int)%2)==1)) (fun b=>?_) (fun b=>?_)
 have t:=ak b
 refine az 2<|bj<|rr (.tuple #[nS,vI 11])<|?_
 have hs:bG xs=none:=iv (by omega)
 exact iX hs ⟨rfl,(aE.refl [] _)⟩
 have t:=au b
 refine bz<|az 1<|sq<|az 1<|bk<|gw (fun x=>[(0,.string (strOfNums xs)),(4,.slice x.2.2.1 x.2.1.length x.2.2.2),(5,vI ((2*x.1:Nat) : Int))]) (fun(x:Nat × List Int × Option Addr × Nat) w'=>aE [] w w'∧ef w.heap.size w' (.slice x.2.2.1 x.2.1.length x.2.2.2) x.2.1∧(2*x.1≤xs.length)∧(bG xs=(bG (xs.drop (2*x.1))).map fun l=>x.2.1++l)∧(x.2.1.length=x.1)) (fun x=>xs.length-2*x.1) (0,[],none,0) ⟨aE.refl _ _,(aW.nil w.heap.size _ _ lO _),(by(try dsimp only);omega),(by(try dsimp only);simp),(by(try dsimp only);rfl)⟩ ?_
 rintro⟨k,L,B,cq⟩ u ⟨d,v,y,z,A⟩
 refine f5 [(0,.string (strOfNums xs)),(4,.slice B L.length cq),(5,vI ((2*k:Nat) : Int))] ?_
 have f:ef w.heap.size u (.slice B L.length cq) L:=v
 have Q:2*k≤xs.length:=y
 have R:bG xs=(bG (xs.drop (2*k))).map fun l=>L++l:=z
 have S:L.length=k:=A
 have hL:bG xs=(bG (xs.drop (2*k))).map fun l=>L++l:=by assumption
 refine sq<|aq 1<|be (((2*k:Nat) : Int)+1)<|Pl 1<|L0<|Oe (vI (((strOfNums xs).size:Nat) : Int)) (vI (xs.length:Int)) (by rw[strOfNums_size])<|ap 1<|cb ((decide ((((2*k:Nat) : Int)+1)<(xs.length:Int)))) (fun g=>?_) (fun g=>?_)
 have C:=of_decide_eq_true g
 refine bz<|sq<|bk<|aq 2<|L0<|gy (vB (xs.getD (2*k) 0)) (gU (xs:=xs) (k:=.i64) (i:=((2*k:Nat) : Int)) (2*k) rfl Tryz.underlying9 (by kernel_rfl) (by kernel_rfl) hr rfl (by omega))<|?_
 have T:=i1 (xs.getD (2*k) 0)
 have U:=oA (xs.getD (2*k) 0)
 refine ax<|m1 (rS (c:=(xs.getD (2*k) 0)) (w:=_) (eq (by omega) hr _)) fun V n=>Pl 1<|aL 2<|be (((2*k:Nat) : Int)+1)<|L0<|gy (vB (xs.getD ((((2*k:Nat) : Int)+1)).toNat 0)) (gU (xs:=xs) (k:=.i64) (i:=(((2*k:Nat) : Int)+1)) ((((2*k:Nat) : Int)+1)).toNat rfl Tryz.underlying9 (by kernel_rfl) (by kernel_rfl) hr (by omega) (by omega))<|?_
 have W:=i1 (xs.getD ((((2*k:Nat) : Int)+1)).toNat 0)
 have X:=oA (xs.getD ((((2*k:Nat) : Int)+1)).toNat 0)
 refine ax<|m1 (rS (c:=(xs.getD ((((2*k:Nat) : Int)+1)).toNat 0)) (w:=_) (eq (by omega) hr _)) fun Y o=>ap 1<|sq<|aq 3<|ea 3 [30] 33 30 ((bJ (xs.getD (2*k) 0))==(-1)) ((bJ (xs.getD ((((2*k:Nat) : Int)+1)).toNat 0))==(-1)) (fun K D E=>?_) ?_
 have Z:=au E
 exact Pl 3<|ce D _ rfl
 refine nt<|?_
 have p:=aN n o
 have r:=aN d p
 refine cb ((((bJ (xs.getD (2*k) 0))==(-1))||((bJ (xs.getD ((((2*k:Nat) : Int)+1)).toNat 0))==(-1)))) (fun a=>?_) (fun a=>?_)
 refine az 2<|bj<|br<|tr<|tr<|br<|tr<|rr (.tuple #[nS,vI 11])<|?_
 have hs:bG xs=none:=lP (k:=k) hL (by omega) (by have q:=a;simp only[Bool.or_eq_true,beq_iff_eq] at q;rw[show 2*k+1=(((2*k:Nat) : Int)+1).toNat from by omega];omega)
 exact iX hs ⟨rfl,r⟩
 have F:=(ci a).1
 have G:=(ci a).2
 have a0:=au F
 have a1:=au G
 refine bz<|go<|Pl 2<|be (16*(bJ (xs.getD (2*k) 0)))<|Pl 1<|be ((16*(bJ (xs.getD (2*k) 0)))+(bJ (xs.getD ((((2*k:Nat) : Int)+1)).toNat 0)))<|Pl 1<|L0<|eX (m:=1) (e:=5) #[vB (((16*(bJ (xs.getD (2*k) 0)))+(bJ (xs.getD ((((2*k:Nat) : Int)+1)).toNat 0)))%256)] fun a2 a3 H I j=>?_
 have J:=jI H (xs:=[(((16*(bJ (xs.getD (2*k) 0)))+(bJ (xs.getD ((((2*k:Nat) : Int)+1)).toNat 0)))%256)]) (by as_aux_lemma=>kernel_rfl) (aF (by omega) cm) (by(try simp only[List.length_cons,List.length_nil]);omega) I
 refine L0<|rV lh (xs:=L) (ys:=([(((16*(bJ (xs.getD (2*k) 0)))+(bJ (xs.getD ((((2*k:Nat) : Int)+1)).toNat 0)))%256)])) (vB 0) 1 (al f (aN p j) (fun x hx=>av) (fun _ _ h=>h)) (J).rd (by(try simp only[d8,aQ]);omega) (le (le (le d.size n.size) o.size) j.size) fun M N a4 O P=>Pl 1<|nl<|bn<|tn<|go<|Pl 1<|be (((2*k:Nat) : Int)+2)<|Pl 1<|nl<|?_
 have s:=jx (k:=k) hL (by omega) (by omega) (by rw[show 2*k+1=(((2*k:Nat) : Int)+1).toNat from by omega];omega)
 rw[show 2*k+1=(((2*k:Nat) : Int)+1).toNat from by omega] at s
 exact ed ((k+1),(L++[(((16*(bJ (xs.getD (2*k) 0)))+(bJ (xs.getD ((((2*k:Nat) : Int)+1)).toNat 0)))%256)]),M,N) ⟨(ut r (ut (aE.mono (S':=(ob B++[])) j aA) P (aB il aA)) (aB (bC f lr) aA)),O,(by(try dsimp only);omega),s,(by(try dsimp only);simp only[d8];omega)⟩ (by omega)
 have C:=of_decide_eq_false g
 refine xt<|tx<|tx<|bx<|tn<|az 3<|rt<|rr (.tuple #[.slice B L.length cq,vI 0])<|?_
 have hs:bG xs=some L:=kE hL (by omega)
 exact oP hs ⟨_,rfl,f,d⟩
theorem sV{m:Md}{A:Option Addr}{cp:Nat}{b:List Int}{w:World}(hsl:aX m w (.slice A b.length cp) b) :
    Calls Tryz.prog 119 #[.slice A b.length cp] w (bW (vB (gz b)) w):=by
 have hln:=aI.len hsl
 have hb:=aX.range hsl
 refine en 23 Tryz.func119 rfl<|aq 1<|db 1<|sq<|az 1<|bk<|gw (fun x=>[(0,.slice A b.length cp),(2,vB 0),(3,vI (fE b x)),(4,vI (x:Int))]) (fun(x:Nat) w'=>aE [] w w'∧(x≤b.length)) (fun x=>b.length-x) 0 ⟨aE.refl _ _,(by(try dsimp only);omega)⟩ ?_
 rintro k j ⟨a,d⟩
 refine f5 [(0,.slice A b.length cp),(2,vB 0),(3,vI (fE b k)),(4,vI (k:Int))] ?_
 have l:k≤b.length:=d
 have hlr:=rH b k
 refine sq<|az 4<|cb ((decide ((k:Int)<(b.length:Int)))) (fun c=>?_) (fun c=>?_)
 have e:=of_decide_eq_true c
 refine bz<|sq<|bk<|go<|Pl 3<|?_
 exact eF (aX.at_ (aX.old hsl a) k (by omega)) fun f g h i n=>L0<|hM b.length k h (by omega)<|L0<|dC (p:=⟨f,g+k,none⟩) (v:=vB (b.getD k 0)) i<|be (b.getD k 0)<|be ((fE b k)+(b.getD k 0))<|L0<|Oe (vI (Int.tmod ((fE b k)+(b.getD k 0)) 256)) (vI (((fE b k)+(b.getD k 0))%256)) (congrArg (Value.int .i64) (Int.tmod_eq_emod_of_nonneg (by omega)))<|Pl 1<|nl<|bn<|tn<|go<|Pl 1<|be ((k:Int)+1)<|Pl 1<|nl<|ed (k+1) ⟨a,(by(try dsimp only);omega)⟩ (by omega)
 have e:=of_decide_eq_false c
 refine xt<|tx<|tx<|bx<|tn<|aq 1<|be (256-(fE b k))<|L0<|Oe (vI (Int.tmod (256-(fE b k)) 256)) (vI ((256-(fE b k))%256)) (congrArg (Value.int .i64) (Int.tmod_eq_emod_of_nonneg (by omega)))<|ap 2<|rt<|rr (vB (((256-(fE b k))%256)%256))<|?_
 have hk:k=b.length:=by omega
 subst hk
 have hs:gz b=(((256-(fE b b.length))%256)%256):=by unfold gz tH;omega
 rw[hs]
 exact⟨rfl,a⟩
theorem tI{m:Md}{A:Option Addr}{cp:Nat}{b:List Int}{w:World}(hsl:aX m w (.slice A b.length cp) b) :
    Calls Tryz.prog 85 #[.slice A b.length cp] w (bW (.bool (dL b)) w):=by
 have hln:=aI.len hsl
 refine en 9 Tryz.func85 rfl<|az 1<|sq<|az 3<|cb (((b.length:Int)==0)) (fun a=>?_) (fun a=>?_)
 have c:=ak a
 refine az 1<|bj<|rr (.bool false)<|?_
 have hs:dL b=false:=by unfold dL;rw[decide_eq_false (by omega)];rfl
 rw[hs]
 exact⟨rfl,(aE.refl [] _)⟩
 have c:=au a
 refine bz<|aq 1<|ax (args:=#[.slice A b.length cp])<|m1 (sV hsl) fun e d=>ap 2<|rt<|rr (.bool ((gz b)==0))<|?_
 have hs:dL b=((gz b)==0):=by unfold dL;rw[decide_eq_true (by omega)];rfl
 rw[hs]
 exact⟨rfl,d⟩
open Go.RowKit
def lY (res:cE × Int)(w:World)(e:Ending)(w':World) : Prop:=∃ cs,e = .returned (.tuple #[.agg cs,.int .i64 res.2])∧tV true w' cs res.1∧aE [] w w'
theorem fc{x y:cE × Int}(h:x=y){w:World}{e:Ending}{w':World}(k:lY y w e w') : lY x w e w':=by rw[h];exact k
theorem dM{x:Int}{w W:World}(hu:aE [] w W) : lY (cE.zero,x) w (.returned (.tuple #[.agg w5,.int .i64 x])) W:=⟨_,rfl,⟨jt,(by kernel_rfl),aU.zero ..,(show(0:Int)≤0∧(0:Int)<256 from by decide),(show(0:Int)≤0∧(0:Int)<65536 from by decide)⟩,hu⟩
theorem lS{m:Md}{A:Option Addr}{cp:Nat}{b:List Int}{w:World}{dir:Int}(hsl:aX m w (.slice A b.length cp) b)(hb:b.length≤1048576)(hcp:b.length≤cp) :
    Calls Tryz.prog 57 #[vI dir,.slice A b.length cp] w (lY (dv dir b) w):=by
 have hln:(b.length:Int)≤1048576:=by omega
 have hr:ep b:=aX.range hsl
 refine en 86 Tryz.func57 rfl<|sg<|aK #[vB 0,vW 0,vB 0,vB 0,vW 0,vW 0,vW 0,vW 0,vW 0,vW 0,vW 0,vW 0,vW 0,vW 0,nS,nS,nS,nS,vB 0,vB 0,vB 0,vB 0,vB 0,nS] fun bu R l f q=>Pl 1<|db 3<|sq<|sq<|go<|Pl 3<|cY 3 [16] 19 16 (dir != 0) (dir != 1) (fun K a8 a9=>?_) ?_
 have bv:=ay a9
 exact Pl 3<|ce a8 _ rfl
 refine nt<|cb (((dir != 0)&&(dir != 1))) (fun i=>?_) (fun i=>?_)
 have S:=(aS i).1
 have T:=(aS i).2
 have bw:=ay S
 have bx:=ay T
 refine aq 1<|aD f #[vB 0,vW 0,vB 0,vB 0,vW 0,vW 0,vW 0,vW 0,vW 0,vW 0,vW 0,vW 0,vW 0,vW 0,nS,nS,nS,nS,vB 0,vB 0,vB 0,vB 0,vB 0,nS] fun bB ac ae=>ap 1<|bj<|c8 ac (vI 1)<|?_
 have hs:eV dir b=(cE.zero,1):=by
   unfold eV
   (try simp only[i,S,T,bq,dz,reduceIte])
   all_goals rfl
 rw[← ec]
 refine fc hs ?_
 exact dM (ud q ae l)
 refine bz<|sq<|az 2<|cb ((decide ((b.length:Int)<9))) (fun j=>?_) (fun j=>?_)
 have af:=of_decide_eq_true j
 refine aq 1<|aD f #[vB 0,vW 0,vB 0,vB 0,vW 0,vW 0,vW 0,vW 0,vW 0,vW 0,vW 0,vW 0,vW 0,vW 0,nS,nS,nS,nS,vB 0,vB 0,vB 0,vB 0,vB 0,nS] fun bC ah aj=>ap 1<|bj<|c8 ah (vI 2)<|?_
 have hs:eV dir b=(cE.zero,2):=by
   unfold eV
   (try simp only[i,j,bq,dz,reduceIte])
   all_goals rfl
 rw[← ec]
 refine fc hs ?_
 exact dM (ud q aj l)
 have af:=of_decide_eq_false j
 refine bz<|sq<|az 2<|cb ((decide (513<(b.length:Int)))) (fun k=>?_) (fun k=>?_)
 have ak:=of_decide_eq_true k
 refine aq 1<|aD f #[vB 0,vW 0,vB 0,vB 0,vW 0,vW 0,vW 0,vW 0,vW 0,vW 0,vW 0,vW 0,vW 0,vW 0,nS,nS,nS,nS,vB 0,vB 0,vB 0,vB 0,vB 0,nS] fun bD am an=>ap 1<|bj<|c8 am (vI 3)<|?_
 have hs:eV dir b=(cE.zero,3):=by
   unfold eV
   (try simp only[i,j,k,bq,dz,reduceIte])
   all_goals rfl
 rw[← ec]
 refine fc hs ?_
 exact dM (ud q an l)
 have ak:=of_decide_eq_false k
 refine bz<|sq<|aq 1<|?_
 have t:=aX.old hsl q
 refine eF (aX.at_ t 0 (by omega)) fun au aA aB aE bF=>L0<|hM b.length 0 aB (by omega)<|L0<|dC (p:=⟨au,aA+0,none⟩) (v:=vB (b.getD 0 0)) aE<|Pl 2<|bl 31 (((b.getD 0 0)!=58)) (fun o=>?_) (fun o=>?_)
 have aF:=ay o
 refine ap 15<|c1<|aq 1<|aD f #[vB 0,vW 0,vB 0,vB 0,vW 0,vW 0,vW 0,vW 0,vW 0,vW 0,vW 0,vW 0,vW 0,vW 0,nS,nS,nS,nS,vB 0,vB 0,vB 0,vB 0,vB 0,nS] fun bH aH aI=>ap 1<|bj<|c8 aH (vI 12)<|?_
 have hs:eV dir b=(cE.zero,12):=by
   unfold eV
   (try simp only[i,j,k,o,bq,dz,reduceIte])
   all_goals rfl
 rw[← ec]
 refine fc hs ?_
 exact dM (ud q aI l)
 have aF:=aJ o
 refine Pl 2<|L1<|Oi ((b.length:Int)-2)<|eF (aX.at_ t ((((b.length:Int)-2)).toNat) (by omega)) fun aL aM aO aP bI=>L1<|iS b.length ((((b.length:Int)-2)).toNat) ((b.length:Int)-2) (by omega) aO (by omega)<|L1<|dC (p:=⟨aL,aM+((((b.length:Int)-2)).toNat),none⟩) (v:=vB (b.getD ((((b.length:Int)-2)).toNat) 0)) aP<|Pl 3<|bl 39 (((b.getD ((((b.length:Int)-2)).toNat) 0)!=13)) (fun r=>?_) (fun r=>?_)
 have aQ:=ay r
 refine ap 7<|c1<|aq 1<|aD f #[vB 0,vW 0,vB 0,vB 0,vW 0,vW 0,vW 0,vW 0,vW 0,vW 0,vW 0,vW 0,vW 0,vW 0,nS,nS,nS,nS,vB 0,vB 0,vB 0,vB 0,vB 0,nS] fun bJ aR aW=>ap 1<|bj<|c8 aR (vI 12)<|?_
 have hs:eV dir b=(cE.zero,12):=by
   unfold eV
   (try simp only[i,j,k,o,r,bq,dz,reduceIte])
   all_goals rfl
 rw[← ec]
 refine fc hs ?_
 exact dM (ud q aW l)
 have aQ:=aJ r
 refine Pl 2<|L1<|Oi ((b.length:Int)-1)<|eF (aX.at_ t ((((b.length:Int)-1)).toNat) (by omega)) fun aY aZ b0 b1 bK=>L1<|iS b.length ((((b.length:Int)-1)).toNat) ((b.length:Int)-1) (by omega) b0 (by omega)<|L1<|dC (p:=⟨aY,aZ+((((b.length:Int)-1)).toNat),none⟩) (v:=vB (b.getD ((((b.length:Int)-1)).toNat) 0)) b1<|ap 2<|cb (((b.getD ((((b.length:Int)-1)).toNat) 0)!=10)) (fun s=>?_) (fun s=>?_)
 have b2:=ay s
 refine aq 1<|aD f #[vB 0,vW 0,vB 0,vB 0,vW 0,vW 0,vW 0,vW 0,vW 0,vW 0,vW 0,vW 0,vW 0,vW 0,nS,nS,nS,nS,vB 0,vB 0,vB 0,vB 0,vB 0,nS] fun bL b3 b4=>ap 1<|bj<|c8 b3 (vI 12)<|?_
 have hs:eV dir b=(cE.zero,12):=by
   unfold eV
   (try simp only[i,j,k,o,r,s,bq,dz,reduceIte])
   all_goals rfl
 rw[← ec]
 refine fc hs ?_
 exact dM (ud q b4 l)
 have b2:=aJ s
 refine bz<|aq 2<|be ((b.length:Int)-2)<|jR (e9 (P:=Tryz.prog) 27 5 1 Tryz.underlying27 rfl rfl A b.length cp (lo:=1) (up:=((b.length:Int)-2)) 1 ((((b.length:Int)-2)).toNat) (by omega) (by omega) (by omega) (by omega) (by omega)) fun U hrun64 G=>L0<|gy (.slice U (((((b.length:Int)-2)).toNat)-1) (cp-1)) (de (kl:=.i64) (kh:=.i64) (lo:=1) (hi:=((b.length:Int)-2)) (A:=A) (n:=b.length) (c:=cp) rfl Tryz.underlying27 (by kernel_rfl) (by kernel_rfl) (by kernel_rfl) (hrun64 _ _ _))<|L0<|gy (.string (strOfNums ((b.take ((((b.length:Int)-2)).toNat)).drop 1))) (dD (A:=U) (n:=(((((b.length:Int)-2)).toNat)-1)) (c:=(cp-1)) rfl (by kernel_rfl) Tryz.underlying27 Tryz.underlying5 Tryz.underlying9 (G _ _ _ _ _ t))<|?_
 rcases hth:bG ((b.take ((((b.length:Int)-2)).toNat)).drop 1) with _|x
 have b5:=(rC (w:=R) (aX.range (G _ _ _ _ _ t)) (by rw[List.length_drop,List.length_take];omega)).mono (mE hth)
 refine ax<|m1 b5 fun bM V=>ap 5<|sq<|az 2<|c1<|aq 2<|?_
 refine aD (ub V f) #[vB 0,vW 0,vB 0,vB 0,vW 0,vW 0,vW 0,vW 0,vW 0,vW 0,vW 0,vW 0,vW 0,vW 0,nS,nS,nS,nS,vB 0,vB 0,vB 0,vB 0,vB 0,nS] fun bN b6 b7=>ap 1<|bj<|c8 b6 (vI 11)<|?_
 have hs:eV dir b=(cE.zero,11):=by
   unfold eV
   (try simp only[i,j,k,o,r,s,bq,dz,hth,reduceIte])
   all_goals rfl
 rw[← ec]
 refine fc hs ?_
 exact dM (ud q (uz V b7) l)
 have hxl:2*x.length=(((b.take ((((b.length:Int)-2)).toNat)).drop 1)).length:=by have:=l2 hth;omega
 have hxl2:(((b.take ((((b.length:Int)-2)).toNat)).drop 1)).length=b.length-3:=by rw[List.length_drop,List.length_take];omega
 have b9:=(rC (w:=R) (aX.range (G _ _ _ _ _ t)) (by rw[List.length_drop,List.length_take];omega)).mono (mn hth)
 refine ax<|tv b9 fun H C bO I bP bQ W=>ap 5<|sq<|az 2<|c0<|bz<|sq<|go<|Pl 1<|ax (args:=#[.slice H x.length C])<|m1 (tI (I).rd) fun bR J=>ap 1<|sq<|az 2<|?_
 have z:=aN W J
 have X:=aN q z
 refine cb ((!(dL x))) (fun u=>?_) (fun u=>?_)
 have D:(dL x)=false:=by simpa using u
 refine aq 1<|?_
 refine aD (ub z f) #[vB 0,vW 0,vB 0,vB 0,vW 0,vW 0,vW 0,vW 0,vW 0,vW 0,vW 0,vW 0,vW 0,vW 0,nS,nS,nS,nS,vB 0,vB 0,vB 0,vB 0,vB 0,nS] fun bS ba bb=>ap 1<|bj<|c8 ba (vI 10)<|?_
 have hs:eV dir b=(cE.zero,10):=by
   unfold eV
   (try simp only[i,j,k,o,r,s,u,D,bq,dz,hth,reduceIte])
   all_goals rfl
 rw[← ec]
 refine fc hs ?_
 exact dM (ud X bb l)
 have D:(dL x)=true:=by simpa using u
 refine bz<|aq 4<|be ((x.length:Int)-1)<|jR (e9 (P:=Tryz.prog) 27 5 1 Tryz.underlying27 rfl rfl H x.length C (lo:=1) (up:=((x.length:Int)-1)) 1 ((((x.length:Int)-1)).toNat) (by omega) (by omega) (by omega) (by omega) (by omega)) fun bc hrun96 Y=>L0<|gy (.slice bc (((((x.length:Int)-1)).toNat)-1) (C-1)) (de (kl:=.i64) (kh:=.i64) (lo:=1) (hi:=((x.length:Int)-1)) (A:=H) (n:=x.length) (c:=C) rfl Tryz.underlying27 (by kernel_rfl) (by kernel_rfl) (by kernel_rfl) (hrun96 _ _ _))<|?_
 have Z:=al I J (fun x hx=>av) (fun _ _ h=>h)
 refine pr (eh dir ((x.take ((((x.length:Int)-1)).toNat)).drop 1)) fun a L M=>?_
 refine ax<|e2 (lG M (Y _ _ _ _ _ (Z).rd) (by rw[List.length_drop,List.length_take];omega)) fun d bT bd E=>?_
 have a0:=al Z E (fun x hx=>av) (fun _ _ h=>h)
 refine Pl 3<|aK mZ fun a1 bU a2 bf bg=>aD bf (mJ a d) fun bV bh bi=>ap 1<|sq<|az 2<|?_
 have N:=ud bg bi a2
 have O:=aN E N
 have a3:=aN X O
 refine cb ((L != 0)) (fun B=>?_) (fun B=>?_)
 have bk:=ay B
 refine aq 2<|?_
 refine aD (ub (aN z O) f) #[vB 0,vW 0,vB 0,vB 0,vW 0,vW 0,vW 0,vW 0,vW 0,vW 0,vW 0,vW 0,vW 0,vW 0,nS,nS,nS,nS,vB 0,vB 0,vB 0,vB 0,vB 0,nS] fun bW bm bn=>ap 1<|bj<|c8 bm (vI L)<|?_
 have hs:eV dir b=(cE.zero,L):=by
   unfold eV
   (try simp only[i,j,k,o,r,s,u,D,B,bq,dz,hth,M,reduceIte])
   all_goals rfl
 rw[← ec]
 refine fc hs ?_
 exact dM (ud a3 bn l)
 have bk:=aJ B
 refine bz<|sq<|?_
 have a4:=al a0 N (fun x hx=>av) (fun _ _ h=>h)
 refine eF (aX.at_ (a4).rd 0 (by omega)) fun bo bp a5 br bX=>Rg 8 (fun w'=>w'.cell? ⟨bo,bp+0,none⟩=some (vB (x.getD 0 0))∧w'.heap[a1]? = some (.cells (mJ a d) 45 (0,0))) fun bY F=>?_
 have a6:=ub F bh
 refine bA ⟨(uc F br),a6⟩ fun y=>Rt 0 y<|nG 1 y x.length 0 0 rfl a5 (by omega)<|Rl 2 y (fun _ hs=>hs.1)<|Rt 3 y<|Rr 4 y (.agg (mJ a d)) (fun w' hs=>oT (g:=a1) (off:=0) [vB a.code,vB a.fail,vW a.addr,vW a.count,vW a.value,vW a.and_,vW a.or_,vW a.addr2,vW a.sub,vW a.status,vW a.events,vW a.messages,.slice d.aw a.words.length d.kw,.slice d.ab a.bits.length d.kb,.slice d.ad a.data.length d.kd,.slice d.ar a.recs.length d.kr,vB a.mei,vB a.kind,vB a.level,vB a.more,vB a.next,.slice d.ao a.objects.length d.ko] rfl (by kernel_rfl) hs.2 (by kernel_rfl) (by kernel_rfl) rfl)<|Rt 5 y<|?_
 refine R0 6 rfl<|j5 (ub (aN z (aN O F)) f) (qt (x.getD 0 0) 0 a d) fun bZ bs a7=>?_
 have Q:=uz F a7
 refine bA ⟨(cB ((al a4 Q (fun x hx=>(aa (fun e=>(aG (ag f) lr I) (e▸hx)) av)) (fun _ _ h=>h))).rd a5 0 (by omega)),(aV a7 (Ne.symm (nb (ag f) (le (le W.size J.size) E.size) a2)) a6)⟩ fun bt=>Rt 7 bt<|re<|tn<|rt<|c8 bs (vI 0)<|?_
 have hs:eV dir b=(⟨(x.getD 0 0),0,a⟩,0):=by
   unfold eV
   (try simp only[i,j,k,o,r,s,u,D,B,bq,dz,hth,M,reduceIte])
   all_goals rfl
 rw[← ec]
 refine fc hs ?_
 exact⟨_,rfl,⟨mJ a d,(by as_aux_lemma=>kernel_rfl),(aU.upd (bE.rdt bd (Y _ _ _ _ _ (a0).rd)) (uz N Q) (ai (aT (ub (aN z E) f) (by decide)) aC)),b8 (x:=(x.getD 0 0)) (by omega),c7 (x:=0) (by omega)⟩,(ud a3 Q l)⟩
theorem ou{m:Md}{v:Value}{b:List Int}{w:World}{dir:Int}(h:aX m w v b)(hb:b.length≤1048576) : Calls Tryz.prog 57 #[.int .i64 dir,v] w (lY (dv dir b) w):=by
  obtain⟨A,cp,rfl,hc,_⟩:=h.shape
  exact lS h hb hc
theorem fw{m:Md}{v:Value}{b:List Int}{w:World}{dir:Int}{F:cE}{E:Int}(hX:dv dir b=(F,E))(h:aX m w v b)(hb:b.length≤1048576) : Calls Tryz.prog 57 #[.int .i64 dir,v] w (fun e w'=>∃ x,e = .returned (.tuple #[.agg (qt F.unit F.tid F.msg x),.int .i64 E])∧(aU true w' (mJ F.msg x).toList F.msg∧(0≤F.unit∧F.unit<256)∧(0≤F.tid∧F.tid<65536))∧aE [] w w'):=by
  refine(ou h hb).mono ?_
  rintro e w' ⟨cs,rfl,h1,h2⟩
  rw[hX] at h1 ⊢
  obtain⟨c,rfl,h3,h4,h5⟩:=h1
  obtain⟨x,rfl⟩:=nI h3
  exact⟨x,by rw[o0],⟨h3,h4,h5⟩,h2⟩
end Go.Proofs.YtdkhbcefkfgbdaaGreat
namespace Go.Proofs.YtdkhbcefkfgbdaaGreat
def zE (b:List Int)(i e:Nat) : Bool:=((b.getD (((e:Nat) : Int)-1).toNat 0==10)&&(b.getD (((e:Nat) : Int)-2).toNat 0==13))&&decide (2<((e:Nat) : Int)-((i:Nat) : Int))
def run (b:List Int)(i e:Nat) : List Int:=(b.take e).drop i
variable {b:List Int}{e i:Nat}
theorem fI(he:e≤b.length) : (run b i e).length=e-i:=by unfold run;rw[List.length_drop,List.length_take];omega
theorem tG{j:Nat}(hj:i+j<e) : (run b i e).getD j 0=b.getD (i+j) 0:=by
  unfold run
  rw[List.getD_eq_getElem?_getD,List.getD_eq_getElem?_getD,List.getElem?_drop,List.getElem?_take,if_pos hj]
theorem mN(hi:i≤e)(he:e<b.length) : run b i e++[b.getD e 0]=run b i (e+1):=by
  unfold run
  rw[List.take_succ_eq_append_getElem he,List.drop_append,List.length_take,show i-min e b.length=0 from by omega,List.getD_eq_getElem?_getD,List.getElem?_eq_getElem he]
  rfl
theorem nf(hi:i+1≤e)(he:e≤b.length)(a:b.getD i 0=58) : fi (run b i e) [13,10]=zE b i e:=by
  have hl:=fI (b:=b) (i:=i) he
  unfold fi zE
  by_cases h1:e=i+1
  · rw[decide_eq_false (by rw[hl];simp;omega),Bool.false_and,show(((e:Nat) : Int)-1).toNat=i from by omega,a]
    rfl
  rw[decide_eq_true (show(([13,10] : List Int).length:Int)≤((run b i e).length:Int) by rw[hl];simp;omega),Bool.true_and]
  have hd:(run b i e).drop ((((run b i e).length:Nat) : Int)-((([13,10] : List Int).length:Nat) : Int)).toNat=[b.getD (e-2) 0,b.getD (e-1) 0]:=by
    rw[show((((run b i e).length:Nat) : Int)-((([13,10] : List Int).length:Nat) : Int)).toNat=e-i-2 from by rw[hl];simp;omega]
    apply List.ext_getElem
    · simp[hl];omega
    · intro j h2 h3
      simp only[List.length_cons,List.length_nil] at h3
      rw[List.getElem_drop]
      have g:=tG (b:=b) (i:=i) (e:=e) (j:=e-i-2+j) (by omega)
      rw[List.getD_eq_getElem?_getD,List.getElem?_eq_getElem (by rw[hl];omega)] at g
      simp only[Option.getD_some] at g
      rw[g]
      rcases j with _|_|j
      · rw[show i+(e-i-2+0)=e-2 from by omega];rfl
      · rw[show i+(e-i-2+(0+1))=e-1 from by omega];rfl
      · omega
  rw[hd,show(((e:Nat) : Int)-1).toNat=e-1 from by omega,show(((e:Nat) : Int)-2).toNat=e-2 from by omega]
  by_cases h2:e=i+2
  · rw[show e-2=i from by omega,a,decide_eq_false (show ¬ 2<((e:Nat) : Int)-((i:Nat) : Int) by omega),Bool.and_false,decide_eq_false]
    intro h
    injection h with h3 _
    cases h3
  · rw[decide_eq_true (show 2<((e:Nat) : Int)-((i:Nat) : Int) by omega),Bool.and_true,Bool.eq_iff_iff]
    simp only[decide_eq_true_eq,List.cons.injEq,and_true,Bool.and_eq_true,beq_iff_eq]
    exact And.comm
variable {L L2:List Ev}
theorem gS{S0 T T2:SA}   {k:Nat}(hk:k<b.length)(h:S0.feed (b.take k)=(T,L))(hx:T.byte (b.getD k 0)=(T2,L2)) : S0.feed (b.take (k+1))=(T2,L++L2):=by
  rw[List.take_succ_eq_append_getElem hk]
  rw[List.getD_eq_getElem?_getD,List.getElem?_eq_getElem hk] at hx
  exact rR h (tz.trans hx)
def iO (d:Int)(b:List Int)(i:Nat)(L:List Ev) : Prop:=(SA.mk d []).feed (b.take i)=(SA.mk d [],L)∨(i<b.length∧b.getD i 0=58∧∃ h L0,0<h.length∧(SA.mk d []).feed (b.take i)=(SA.mk d h,L0)∧L=L0++[Ev.mk 12 cE.zero])
def gP (d:Int)(b:List Int)(i e:Nat)(L:List Ev) : Prop:=(SA.mk d []).feed (b.take e)=((SA.tail d (run b i e)).1,L++(SA.tail d (run b i e)).2)
variable {d:Int}
theorem pz(h:iO d b i L)(hi:i<b.length)(hc:b.getD i 0≠58) : iO d b (i+1) L:=by
  rcases h with h|⟨_,h,_⟩
  · refine .inl ?_
    have hx:(SA.mk d []).byte (b.getD i 0)=(SA.mk d [],[]):=by
      unfold SA.byte
      rw[if_neg (by simp),if_pos (by simpa using hc)]
    have:=gS hi h hx
    rwa [List.append_nil] at this
  · exact absurd h hc
theorem sR(h:iO d b i L)(hi:i<b.length)(hc:b.getD i 0=58) : gP d b i (i+1) L:=by
  have hr:run b i (i+1)=[58]:=by rw[← mN (Nat.le_refl _) hi,hc];unfold run;rw[List.drop_of_length_le (by rw[List.length_take];omega)];rfl
  have ht:SA.tail d [58]=(SA.mk d [58],[]):=by
    unfold SA.tail fi
    rw[if_neg (by decide),if_neg (by decide)]
  unfold gP
  rw[hr,ht]
  rcases h with h|⟨_,_,g,L0,hg,h,rfl⟩
  · have hx:(SA.mk d []).byte (b.getD i 0)=(SA.mk d [58],[]):=by
      rw[hc]
      unfold SA.byte
      rw[if_neg (by simp),if_neg (by simp)]
      exact ht
    exact gS hi h hx
  · have hx:(SA.mk d g).byte (b.getD i 0)=(SA.mk d [58],[Ev.bad 12]):=by
      rw[hc]
      unfold SA.byte
      rw[if_pos (by simpa using hg)]
    rw[gS hi h hx,List.append_nil]
    rfl
theorem kL(h:gP d b i e L)(hi:i+1≤e)(he:e<b.length)(a:b.getD i 0=58)(hc:b.getD e 0≠58)(hn:e-i<514)(hz:zE b i e=false) : gP d b i (e+1) L:=by
  have hl:=fI (b:=b) (i:=i) (show e≤b.length by omega)
  have ht:SA.tail d (run b i e)=(SA.mk d (run b i e),[]):=by
    unfold SA.tail
    rw[if_neg (by rw[hl];simp only[decide_eq_true_eq];omega),if_neg (by rw[nf hi (by omega) a,hz];decide)]
  unfold gP at h
  rw[ht,List.append_nil] at h
  refine gS he h ?_
  unfold SA.byte
  rw[if_neg (by rw[Bool.and_eq_true,beq_iff_eq];exact fun h=>hc h.1),if_neg (by show ¬ ((b.getD e 0 != 58)&&(((run b i e).length:Int)==0))=true;rw[hl];simp only[Bool.and_eq_true,beq_iff_eq,not_and];omega)]
  show SA.tail d (run b i e++[b.getD e 0])=_
  rw[mN (by omega) he]
theorem iD(h:gP d b i e L)(he:e≤b.length)(hn:513<e-i) : iO d b e (L++[Ev.mk 3 cE.zero]):=by
  have ht:SA.tail d (run b i e)=(SA.mk d [],[Ev.bad 3]):=by
    unfold SA.tail
    rw[if_pos (by rw[fI he];simp only[decide_eq_true_eq];omega)]
  unfold gP at h
  rw[ht] at h
  exact .inl h
theorem lL(h:gP d b i e L)(hi:i+1≤e)(he:e≤b.length)(a:b.getD i 0=58)(hn:¬ 513<e-i)(hz:zE b i e=true){F:cE}{E:Int}(hF:dv d (run b i e)=(F,E)) : iO d b e (L++[Ev.mk E F]):=by
  have ht:SA.tail d (run b i e)=(SA.mk d [],[Ev.mk E F]):=by
    unfold SA.tail
    rw[if_neg (by rw[fI he];simp only[decide_eq_true_eq];omega),if_pos (by rw[nf hi he a,hz]),hF]
  unfold gP at h
  rw[ht] at h
  exact .inl h
theorem dW(h:gP d b i e L)(hi:i+1≤e)(he:e≤b.length)(a:b.getD i 0=58)(hn:¬ 513<e-i)(hz:zE b i e=false) : (SA.mk d []).feed (b.take e)=(SA.mk d (run b i e),L):=by
  have ht:SA.tail d (run b i e)=(SA.mk d (run b i e),[]):=by
    unfold SA.tail
    rw[if_neg (by rw[fI he];simp only[decide_eq_true_eq];omega),if_neg (by rw[nf hi he a,hz];decide)]
  unfold gP at h
  rw[ht,List.append_nil] at h
  exact h
theorem jb(h:gP d b i e L)(hi:i+1≤e)(he:e<b.length)(a:b.getD i 0=58)(hn:¬ 513<e-i)(hz:zE b i e=false)(hc:b.getD e 0=58) : iO d b e (L++[Ev.mk 12 cE.zero]) :=
  .inr ⟨he,hc,run b i e,L,by rw[fI (by omega)];omega,dW h hi (by omega) a hn hz,rfl⟩
def dZ (d:Int)(b:List Int) : List Ev × Nat:=(((SA.mk d []).feed b).2,((SA.mk d []).feed b).1.held.length)
theorem rX(h:iO d b i L)(hi:i=b.length) : dZ d b=(L,0):=by
  subst hi
  rcases h with h|⟨h,_⟩
  · rw[List.take_length] at h
    unfold dZ
    rw[h]
    rfl
  · exact absurd h (Nat.lt_irrefl _)
theorem eJ(h:(SA.mk d []).feed (b.take e)=(SA.mk d (run b i e),L))(he:e=b.length) : dZ d b=(L,e-i):=by
  have hl:=fI (b:=b) (i:=i) (show e≤b.length by omega)
  rw[List.take_of_length_le (by omega)] at h
  unfold dZ
  rw[h]
  show(L,(run b i e).length)=_
  rw[hl]
open Go.RowKit
open Go.RowKit
open Go.RowKit
open Go.RowKit
structure SM where
  dir:Int
  held:List Int
  skip:Int
def SM.size (S:SM) : Int:=S.held.getD 4 0*256+S.held.getD 5 0
def SM.nx (S:SM) : Nat:=if S.held.length<6 then 0 else if 254<S.size then 1 else if S.size<2 then 2 else if (S.held.length:Int)=6+S.size then 3 else 0
def SM.does (S:SM) : SM × List Ev:=match S.nx with
  | 1=>(⟨S.dir,[],S.size⟩,[Ev.bad 3])
  | 2=>(⟨S.dir,[],S.size⟩,[Ev.bad 5])
  | 3=>(⟨S.dir,[],S.skip⟩,[⟨(u0 S.dir S.held).2,(u0 S.dir S.held).1⟩])
  | _=>(S,[])
def SM.byte (S:SM)(c:Int) : SM × List Ev:=if 0<S.skip then (⟨S.dir,S.held,S.skip-1⟩,[]) else (SM.mk S.dir (S.held++[c]) S.skip).does
def SM.feed (S:SM)(b:List Int) : SM × List Ev:=b.foldl (fun p c=>((p.1.byte c).1,p.2++(p.1.byte c).2)) (S,[])
abbrev xB (S:SM) (A:Option Addr) (cp:Nat) : Array Value:=#[.int .i64 S.dir,.slice A S.held.length cp,.int .i64 S.skip]
abbrev xM (w:World) (g:Nat) (S:SM) (A:Option Addr) (cp:Nat) : Prop:=w.heap[g]? = some (.cells (xB S A cp) 89 (0,0))
theorem SM.size_rng{S:SM}(h:∀ x,x∈S.held→0≤x∧x<256) : 0≤S.size∧S.size<65536:=by
  have hd:∀ j,0≤S.held.getD j 0∧S.held.getD j 0<256:=fun j=>by
    rw[List.getD_eq_getElem?_getD]
    cases hj:S.held[j]? with
    | none=>simp
    | some x=>exact h x (List.mem_of_getElem? hj)
  have h4:=hd 4
  have h5:=hd 5
  unfold SM.size
  omega
def SM.fn (S:SM)(g:Nat) : Value:=match S.nx with
  | 1=>.func (.func 75) #[.pointer (some ⟨g,0,none⟩)] #[]
  | 2=>.func (.func 76) #[.pointer (some ⟨g,0,none⟩)] #[]
  | 3=>.func (.func 77) #[.pointer (some ⟨g,0,none⟩)] #[]
  | _=>.nilFunc
open Go.RowKit
def SM.ok (S:SM) : Prop:=(0≤S.skip∧S.skip<65536)∧(∀ x,x∈S.held→0≤x∧x<256)∧(S.held.length<6∨2≤S.size∧S.size≤254∧(S.held.length:Int)<6+S.size)
theorem SM.ok_le{S:SM}(h:S.ok) : S.held.length≤259:=by
  obtain⟨_,_,h|h⟩:=h
  · omega
  · omega
variable {c:Int}
theorem SM.size_app{S:SM}  (h:6≤S.held.length) : (SM.mk S.dir (S.held++[c]) S.skip).size=S.size:=by
  unfold SM.size
  simp only[List.getD_eq_getElem?_getD]
  rw[List.getElem?_append_left (by omega),List.getElem?_append_left (by omega)]
theorem SM.byte_ok{S S2:SM}   (h:S.ok)(hc:0≤c∧c<256)(hx:S.byte c=(S2,L2)) : S2.ok∧L2.length≤1:=by
  obtain⟨h1,h2,h3⟩:=h
  unfold SM.byte at hx
  split at hx
  · injection hx with e1 e2
    subst e1 e2
    exact⟨⟨⟨by show 0≤S.skip-1;omega,by show S.skip-1<65536;omega⟩,h2,h3⟩,Nat.zero_le _⟩
  have hr:∀ x,x∈(SM.mk S.dir (S.held++[c]) S.skip).held→0≤x∧x<256:=fun x hx=>by
    rcases List.mem_append.1 hx with h|h
    · exact h2 x h
    · rw[List.mem_singleton] at h;rw[h];exact hc
  have hz:=SM.size_rng hr
  have hn:∀ d k,(0≤k∧k<65536)→(SM.mk d [] k).ok:=fun d k hk=>⟨hk,fun x hx=>(by cases hx),.inl (show 0<6 by omega)⟩
  unfold SM.does at hx
  have hnx:∀ i,(SM.mk S.dir (S.held++[c]) S.skip).nx=i→i=0∨i=1∨i=2∨i=3:=by
    intro i hi
    subst hi
    unfold SM.nx
    (repeat' split)<;>simp
  rcases hnx _ rfl with e|e|e|e<;>rw[e] at hx<;>injection hx with e1 e2<;>subst e1 e2
  · refine⟨⟨h1,hr,?_⟩,Nat.zero_le _⟩
    unfold SM.nx at e
    by_cases h6:(SM.mk S.dir (S.held++[c]) S.skip).held.length<6
    · exact .inl h6
    rw[if_neg h6] at e
    split at e
    · cases e
    split at e
    · cases e
    split at e
    · cases e
    rename_i k1 k2 k3
    refine .inr ⟨by omega,by omega,?_⟩
    have hl:(SM.mk S.dir (S.held++[c]) S.skip).held.length=S.held.length+1:=by simp
    rcases h3 with h3|⟨h4,h5,h7⟩
    · omega
    · by_cases h8:6≤S.held.length
      · rw[SM.size_app h8] at k1 k2 k3 ⊢
        omega
      · omega
  · exact⟨hn _ _ hz,Nat.le_refl _⟩
  · exact⟨hn _ _ hz,Nat.le_refl _⟩
  · exact⟨hn _ _ h1,Nat.le_refl _⟩
open Go.RowKit
def eN (n base:Nat)(w:World)(g:Nat)(A:Option Addr)(cp:Nat)(S:SM) : Prop:=xM w g S A cp∧ef base w (.slice A S.held.length cp) S.held∧S.ok∧n≤w.heap.size∧(∀ x,x∈ob A→n≤x)∧base≤w.heap.size
section
variable {n base g cp:Nat}{w w':World}{A:Option Addr}{S:SM}{X:List Nat}
theorem eN.row(h:eN n base w g A cp S) : ef base w (.slice A S.held.length cp) S.held:=h.2.1
theorem eN.low(h:eN n base w g A cp S) : ∀ x,x∈ob A→n≤x:=h.2.2.2.2.1
theorem eN.nle(h:eN n base w g A cp S) : n≤w.heap.size:=h.2.2.2.1
theorem eN.le(h:eN n base w g A cp S) : S.held.length≤259:=SM.ok_le h.2.2.1
theorem eN.lt(h:eN n base w g A cp S) : g<w.heap.size:=ag h.1
theorem eN.cells(h:eN n base w g A cp S) : ∃ cs fr,w.heap[g]? = some (.cells cs 89 fr):=⟨_,_,h.1⟩
theorem eN.upd(h:eN n base w g A cp S)(hu:aE X w w')(hg:g∉X)(hr:∀ x,x∈ob A→x∉X) : eN n base w' g A cp S :=
  ⟨hu.blk hg h.1,al h.2.1 hu hr (fun _ _ q=>q),h.2.2.1,Nat.le_trans h.2.2.2.1 hu.size,h.2.2.2.2.1,Nat.le_trans h.2.2.2.2.2 hu.size⟩
end
theorem SM.feed_ok:∀ (b:List Int)(S:SM)(L:List Ev),S.ok→(∀ x,x∈b→0≤x∧x<256)→(b.foldl (fun(p:SM × List Ev) c=>((p.1.byte c).1,p.2++(p.1.byte c).2)) (S,L)).1.ok∧(b.foldl (fun(p:SM × List Ev) c=>((p.1.byte c).1,p.2++(p.1.byte c).2)) (S,L)).2.length≤L.length+b.length
  | [],S,L,h,_=>⟨h,Nat.le_refl _⟩
  | c :: t,S,L,h,hb=>by
    have k:=SM.byte_ok (S2:=(S.byte c).1) (L2:=(S.byte c).2) h (hb c (List.mem_cons_self ..)) rfl
    have q:=SM.feed_ok t (S.byte c).1 (L++(S.byte c).2) k.1 (fun x hx=>hb x (List.mem_cons_of_mem _ hx))
    refine⟨q.1,Nat.le_trans q.2 ?_⟩
    rw[List.length_append,List.length_cons]
    omega
theorem SM.feed_le{S S2:SM}{b:List Int}{L:List Ev}(h:S.ok)(hb:∀ x,x∈b→0≤x∧x<256)(hX:S.feed b=(S2,L)) : L.length≤b.length:=by
  have q:=(SM.feed_ok b S [] h hb).2
  have e:L=(S.feed b).2:=(congrArg Prod.snd hX).symm
  rw[e]
  rw[List.length_nil,Nat.zero_add] at q
  exact q
end Go.Proofs.YtdkhbcefkfgbdaaGreat
namespace Go.Proofs.YtdkhbcefkfgbdaaGreat
end Go.Proofs.YtdkhbcefkfgbdaaGreat
namespace Go.Proofs.YtdkhbcefkfgbdaaGreat
end Go.Proofs.YtdkhbcefkfgbdaaGreat
namespace Go.Proofs.YtdkhbcefkfgbdaaGreat
open Go.RowKit
def w4 (R:List Ev × Nat)(w:World)(e:Ending)(w':World) : Prop:=∃ v,e = .returned (.tuple #[v,.int .i64 ((R.2:Nat) : Int)])∧rf w.heap.size w' v R.1∧aE [] w w'
open Go.RowKit
variable {b:List Int}{e i:Nat}
theorem gX(hi:i+1≤e)(a:b.getD i 0=58)(q:(b.getD (((e:Nat) : Int)-1).toNat 0==10)=true) : i+2≤e:=by
  by_cases h:e=i+1
  · subst h
    rw[show((((i+1:Nat) : Nat) : Int)-1).toNat=i from by omega,a] at q
    cases q
  · omega
theorem vE(q:(((b.getD e 0)!=58)&&(decide ((((e:Nat) : Int)-((i:Nat) : Int))<514)))=false)(hn:e-i<514) : b.getD e 0=58:=by
  rw[Bool.and_eq_false_iff] at q
  rcases q with q|q
  · simpa using q
  · have:=of_decide_eq_false q
    omega
variable {A:Option Addr}{dir:Int}{w:World}
theorem tb{cp:Nat}    (hsl:aX true w (.slice A b.length cp) b)(hb:b.length≤1048576)(hcp:b.length≤cp) :
    Calls Tryz.prog 23 #[vI dir,.slice A b.length cp] w (w4 (dZ dir b) w):=by
 have hln:(b.length:Int)≤1048576:=by omega
 refine en 124 Tryz.func23 rfl<|aq 2<|aL 1<|aL 1<|nl<|tn<|sq<|bk<|?_
 refine gw (fun x=>[(0,vI dir),(1,.slice A b.length cp),(6,.slice x.2.2.1 x.2.1.length x.2.2.2),(7,vI (x.1:Int))]) (fun(x:Nat × List Ev × Option Addr × Nat) w'=>aE [] w w'∧aX true w' (.slice A b.length cp) b∧rf w.heap.size w' (.slice x.2.2.1 x.2.1.length x.2.2.2) x.2.1∧(x.1≤b.length)∧(x.2.1.length≤x.1)∧(iO dir b x.1 x.2.1)) (fun x=>b.length-x.1) (0,[],none,0) ⟨aE.refl _ _,hsl,(aW.nil w.heap.size _ _ (d6 true) _),(by(try dsimp only);omega),(by(try dsimp only);simp),(.inl rfl)⟩ ?_
 rintro⟨i,L,Bq,cq⟩ O ⟨j,bV,bW,bX,bY,bZ⟩
 refine f5 [(0,vI dir),(1,.slice A b.length cp),(6,.slice Bq L.length cq),(7,vI (i:Int))] ?_
 have B:aX true O (.slice A b.length cp) b:=bV
 have d:rf w.heap.size O (.slice Bq L.length cq) L:=bW
 have f2:i≤b.length:=bX
 have f3:L.length≤i:=bY
 have Q:iO dir b i L:=bZ
 refine sq<|az 4<|cb ((decide ((i:Int)<(b.length:Int)))) (fun R=>?_) (fun R=>?_)
 have c2:=of_decide_eq_true R
 refine bz<|bk<|sq<|aq 2<|eF (aX.at_ B i (by omega)) fun S T c3 c4 f4=>L0<|hM b.length i c3 (by omega)<|L0<|dC (p:=⟨S,T+i,none⟩) (v:=vB (b.getD i 0)) c4<|ap 1<|cb (((b.getD i 0)!=58)) (fun I=>?_) (fun I=>?_)
 have c5:=ay I
 refine aq 1<|be ((i:Int)+1)<|ap 1<|xt<|tx<|bx<|?_
 have hz:=pz Q (by omega) (by omega)
 exact ed ((i+1),L,Bq,cq) ⟨j,B,d,(by(try dsimp only);omega),(by(try dsimp only);omega),hz⟩ (by omega)
 have c5:=aJ I
 refine bz<|aq 1<|be ((i:Int)+1)<|ap 1<|sq<|bk<|?_
 have f:b.getD i 0=58:=by have hq:=I;simpa using hq
 have hin:=sR Q (by omega) f
 refine gw (fun x=>[(0,vI dir),(1,.slice A b.length cp),(6,.slice Bq L.length cq),(7,vI (i:Int)),(8,vI ((x:Nat) : Int)),(12,vI (i:Int)),(13,.slice A b.length cp),(14,vI (b.length:Int)),(15,.bool (decide ((i:Int)<(b.length:Int)))),(16,.slice A b.length cp),(17,vI (i:Int)),(18,.pointer (some (⟨S,T+i,none⟩))),(19,vB (b.getD i 0)),(20,.bool ((b.getD i 0)!=58)),(23,vI (i:Int)),(24,vI ((i:Int)+1))]) (fun(x:Nat) w'=>aE [] O w'∧(i+1≤x)∧(x≤b.length)∧(x-i≤514)∧(gP dir b i x L)) (fun x=>b.length-x) (i+1) ⟨aE.refl _ _,(by(try dsimp only);omega),(by(try dsimp only);omega),(by(try dsimp only);omega),hin⟩ ?_
 rintro e o ⟨a,c6,c7,c8,c9⟩
 refine f5 [(0,vI dir),(1,.slice A b.length cp),(6,.slice Bq L.length cq),(7,vI (i:Int)),(8,vI (e:Int)),(12,vI (i:Int)),(13,.slice A b.length cp),(14,vI (b.length:Int)),(15,.bool (decide ((i:Int)<(b.length:Int)))),(16,.slice A b.length cp),(17,vI (i:Int)),(18,.pointer (some (⟨S,T+i,none⟩))),(19,vB (b.getD i 0)),(20,.bool ((b.getD i 0)!=58)),(23,vI (i:Int)),(24,vI ((i:Int)+1))] ?_
 have f6:i+1≤e:=c6
 have f7:e≤b.length:=c7
 have f8:e-i≤514:=c8
 have h:gP dir b i e L:=c9
 refine sq<|aq 5<|?_
 have g:=aN j a
 refine bl 29 ((decide ((e:Int)<(b.length:Int)))) (fun U=>?_) (fun U=>?_)
 have ca:=of_decide_eq_true U
 refine Pl 2<|?_
 have k:=aX.upd' B a aC
 refine eF (aX.at_ k e (by omega)) fun cc cd cf cg f9=>L1<|hM b.length e cf (by omega)<|L1<|dC (p:=⟨cc,cd+e,none⟩) (v:=vB (b.getD e 0)) cg<|Pl 3<|cY 5 [36] 41 36 ((b.getD e 0)!=58) (decide (((e:Int)-(i:Int))<514)) (fun K ch ci=>?_) ?_
 have fa:=ay ci
 exact Pl 2<|L1<|Oi ((e:Int)-(i:Int))<|Pl 2<|ce ch _ rfl
 refine Pl 1<|bl 42 ((((b.getD e 0)!=58)&&(decide (((e:Int)-(i:Int))<514)))) (fun C=>?_) (fun C=>?_)
 have V:=(aS C).1
 have cj:=(aS C).2
 have fb:=ay V
 have fc:=of_decide_eq_true cj
 refine Pl 2<|L1<|Oi ((e:Int)-1)<|eF (aX.at_ k ((((e:Int)-1)).toNat) (by omega)) fun am an ao ar fd=>L1<|iS b.length ((((e:Int)-1)).toNat) ((e:Int)-1) (by omega) ao (by omega)<|L1<|dC (p:=⟨am,an+((((e:Int)-1)).toNat),none⟩) (v:=vB (b.getD ((((e:Int)-1)).toNat) 0)) ar<|Pl 2<|bl 49 (((b.getD ((((e:Int)-1)).toNat) 0)==10)) (fun q=>?_) (fun q=>?_)
 have ck:=ak q
 refine Pl 2<|L1<|Oi ((e:Int)-2)<|?_
 have ff:=gX (by omega) f q
 refine eF (aX.at_ k ((((e:Int)-2)).toNat) (by omega)) fun aw aF aG aH fg=>L1<|iS b.length ((((e:Int)-2)).toNat) ((e:Int)-2) (by omega) aG (by omega)<|L1<|dC (p:=⟨aw,aF+((((e:Int)-2)).toNat),none⟩) (v:=vB (b.getD ((((e:Int)-2)).toNat) 0)) aH<|Pl 3<|cY 5 [57] 62 57 ((b.getD ((((e:Int)-2)).toNat) 0)==13) (decide (2<((e:Int)-(i:Int)))) (fun K cl cm=>?_) ?_
 have fh:=ak cm
 exact Pl 2<|L1<|Oi ((e:Int)-(i:Int))<|Pl 2<|ce cl _ rfl
 refine ap 2<|cb ((!(((b.getD ((((e:Int)-2)).toNat) 0)==13)&&(decide (2<((e:Int)-(i:Int))))))) (fun F=>?_) (fun F=>?_)
 have G:(((b.getD ((((e:Int)-2)).toNat) 0)==13)&&(decide (2<((e:Int)-(i:Int)))))=false:=by simpa only[Bool.not_eq_true',Bool.not_eq_false'] using F
 refine bz<|bk<|go<|Pl 1<|be ((e:Int)+1)<|Pl 1<|nl<|bn<|?_
 have hzf:zE b i e=false:=by
   unfold zE
   have z0:=q
   have z1:=F
   have z2:=G
   revert z0 z1 z2
   cases (b.getD ((e:Int)-1).toNat 0==10)<;>cases (b.getD ((e:Int)-2).toNat 0==13)<;>cases (decide (2<(e:Int)-(i:Int)))<;>simp
 have hstep:=kL h (by omega) (by omega) f (by have hq:=V;simpa using hq) (by omega) hzf
 exact ed (e+1) ⟨a,(by(try dsimp only);omega),(by(try dsimp only);omega),(by(try dsimp only);omega),hstep⟩ (by omega)
 have G:(((b.getD ((((e:Int)-2)).toNat) 0)==13)&&(decide (2<((e:Int)-(i:Int)))))=true:=by simpa only[Bool.not_eq_true',Bool.not_eq_false'] using F
 have W:=(aS G).1
 have X:=(aS G).2
 have q66nap:=ak W
 have q66nbp:=of_decide_eq_true X
 refine xt<|tx<|tx<|bx<|tn<|aq 2<|be ((e:Int)-(i:Int))<|ap 1<|sq<|bk<|az 3<|cb ((decide (513<((e:Int)-(i:Int))))) (fun Y=>?_) (fun Y=>?_)
 have cn:=of_decide_eq_true Y
 refine go<|Pl 2<|L0<|eX (m:=1) (e:=87) #[vI 3,vB 0,vW 0,vB 0,vB 0,vW 0,vW 0,vW 0,vW 0,vW 0,vW 0,vW 0,vW 0,vW 0,vW 0,nS,nS,nS,nS,vB 0,vB 0,vB 0,vB 0,vB 0,nS] fun fi fj co cr Z=>?_
 have cs:=gn (m:=true) (w0:=o) (x:=(Ev.mk 3 cE.zero)) co cr ⟨⟨none,0,none,0,none,0,none,0,none,0⟩,by kernel_rfl,eM,by decide,by decide⟩
 have aI:=aN a Z
 have aM:=al d aI (fun x hx=>av) (d6.upd aI aC)
 refine L0<|fe (xs:=L) (ys:=([(Ev.mk 3 cE.zero)])) (.agg #[vI 0,vB 0,vW 0,vB 0,vB 0,vW 0,vW 0,vW 0,vW 0,vW 0,vW 0,vW 0,vW 0,vW 0,vW 0,nS,nS,nS,nS,vB 0,vB 0,vB 0,vB 0,vB 0,nS]) 25 168 aM cs.rd d6.ones (fun w' hv=>d6.upd hv (bf (bv _ aM (by decide)) aC)) (by(try simp only[d8,aQ]);omega) (le (le j.size a.size) Z.size) fun cu cv fk cw cx fl=>Pl 1<|nl<|bn<|tn<|go<|Pl 2<|nl<|bn<|?_
 have hz:=iD h (by omega) (by omega)
 have aO:=ut (aE.mono (S':=(ob Bq++[])) Z aA) cx (aB il aA)
 exact ed (e,(L++[(Ev.mk 3 cE.zero)]),cu,cv) ⟨(ut g aO (aB (bC d lr) aA)),(aX.upd' k aO (bf (bv _ (al d a (fun x hx=>av) (d6.upd a aC)) (by decide)) aC)),cw,(by(try dsimp only);omega),(by(try dsimp only);simp only[d8];omega),hz⟩ (by omega)
 have cn:=of_decide_eq_false Y
 refine aq 3<|sy 84 X<|Pl 2<|L1<|Oi ((e:Int)-1)<|L1<|iS b.length ((((e:Int)-1)).toNat) ((e:Int)-1) (by omega) ao (by omega)<|L1<|dC (p:=⟨am,an+((((e:Int)-1)).toNat),none⟩) (v:=vB (b.getD ((((e:Int)-1)).toNat) 0)) ar<|Pl 3<|sy 92 q<|Pl 2<|L1<|Oi ((e:Int)-2)<|?_
 have fm:=gX (by omega) f q
 refine L1<|iS b.length ((((e:Int)-2)).toNat) ((e:Int)-2) (by omega) aG (by omega)<|L1<|dC (p:=⟨aw,aF+((((e:Int)-2)).toNat),none⟩) (v:=vB (b.getD ((((e:Int)-2)).toNat) 0)) aH<|ap 3<|ct W<|aq 4<|jR (e9 (P:=Tryz.prog) 27 5 1 Tryz.underlying27 rfl rfl A b.length cp (lo:=(i:Int)) (up:=(e:Int)) (((i:Int)).toNat) (((e:Int)).toNat) (by omega) (by omega) (by omega) (by omega) (by omega)) fun cy hrun88 cz=>L0<|gy (.slice cy ((((e:Int)).toNat)-(((i:Int)).toNat)) (cp-(((i:Int)).toNat))) (de (kl:=.i64) (kh:=.i64) (lo:=(i:Int)) (hi:=(e:Int)) (A:=A) (n:=b.length) (c:=cp) rfl Tryz.underlying27 (by kernel_rfl) (by kernel_rfl) (by kernel_rfl) (hrun88 _ _ _))<|pr (dv dir ((b.take (((e:Int)).toNat)).drop (((i:Int)).toNat))) fun s J aP=>?_
 refine ax<|e2 (fw aP (cz _ _ _ _ _ k) (by rw[List.length_drop,List.length_take];omega)) fun x93 fn cA aR=>?_
 obtain⟨cB,cC,cD⟩:=cA
 refine Pl 3<|aK #[vB 0,vW 0,vB 0,vB 0,vW 0,vW 0,vW 0,vW 0,vW 0,vW 0,vW 0,vW 0,vW 0,vW 0,nS,nS,nS,nS,vB 0,vB 0,vB 0,vB 0,vB 0,nS] fun fo fp cF cG aT=>aD cG (qt s.unit s.tid s.msg x93) fun cH cI aV=>ap 1<|go<|Pl 2<|L0<|cJ cI<|Pl 1<|L0<|eX (m:=1) (e:=87) (nP ⟨J,s⟩ x93) fun fq fr cK cL aY=>?_
 have aZ:=ud aT (aN aV aY) cF
 have cM:=gn (w0:=cH) (x:=(Ev.mk J s)) cK cL ⟨x93,rfl,(aU.upd cB aZ aC),cC,cD⟩
 have b0:=aN aR aZ
 have b1:=aN a b0
 have b2:=al d b1 (fun x hx=>av) (d6.upd b1 aC)
 refine L0<|fe (xs:=L) (ys:=([(Ev.mk J s)])) (.agg #[vI 0,vB 0,vW 0,vB 0,vB 0,vW 0,vW 0,vW 0,vW 0,vW 0,vW 0,vW 0,vW 0,vW 0,vW 0,nS,nS,nS,nS,vB 0,vB 0,vB 0,vB 0,vB 0,nS]) 25 168 b2 cM.rd d6.ones (fun w' hv=>d6.upd hv (bf (bv _ b2 (by decide)) aC)) (by(try simp only[d8,aQ]);omega) (le (le (le (le (le j.size a.size) aR.size) aT.size) aV.size) aY.size) fun cN cO fs cP cQ ft=>Pl 1<|nl<|bn<|tn<|go<|Pl 2<|nl<|bn<|?_
 have hzt:zE b i e=true:=by
   unfold zE
   have z0:=q
   have z1:=F
   have z2:=G
   have z3:=W
   have z4:=X
   revert z0 z1 z2 z3 z4
   cases (b.getD ((e:Int)-1).toNat 0==10)<;>cases (b.getD ((e:Int)-2).toNat 0==13)<;>cases (decide (2<(e:Int)-(i:Int)))<;>simp
 have hz:=lL h (by omega) (by omega) f (by omega) hzt aP
 have b3:=ut (aE.mono (S':=(ob Bq++[])) b0 aA) cQ (aB il aA)
 exact ed (e,(L++[(Ev.mk J s)]),cN,cO) ⟨(ut g b3 (aB (bC d lr) aA)),(aX.upd' k b3 (bf (bv _ (al d a (fun x hx=>av) (d6.upd a aC)) (by decide)) aC)),cP,(by(try dsimp only);omega),(by(try dsimp only);simp only[d8];omega),hz⟩ (by omega)
 have ck:=au q
 refine ap 15<|c1<|bz<|bk<|go<|Pl 1<|be ((e:Int)+1)<|Pl 1<|nl<|bn<|?_
 have hzf:zE b i e=false:=by
   unfold zE
   have z0:=q
   revert z0
   cases (b.getD ((e:Int)-1).toNat 0==10)<;>cases (b.getD ((e:Int)-2).toNat 0==13)<;>cases (decide (2<(e:Int)-(i:Int)))<;>simp
 have hstep:=kL h (by omega) (by omega) f (by have hq:=V;simpa using hq) (by omega) hzf
 exact ed (e+1) ⟨a,(by(try dsimp only);omega),(by(try dsimp only);omega),(by(try dsimp only);omega),hstep⟩ (by omega)
 refine ap 22<|c0<|xt<|tx<|tx<|bx<|tn<|aq 2<|be ((e:Int)-(i:Int))<|Pl 1<|nl<|tn<|sq<|bk<|az 3<|cb ((decide (513<((e:Int)-(i:Int))))) (fun a0=>?_) (fun a0=>?_)
 have cR:=of_decide_eq_true a0
 refine go<|Pl 2<|L0<|eX (m:=1) (e:=87) #[vI 3,vB 0,vW 0,vB 0,vB 0,vW 0,vW 0,vW 0,vW 0,vW 0,vW 0,vW 0,vW 0,vW 0,vW 0,nS,nS,nS,nS,vB 0,vB 0,vB 0,vB 0,vB 0,nS] fun fu fv cS cT a1=>?_
 have cU:=gn (m:=true) (w0:=o) (x:=(Ev.mk 3 cE.zero)) cS cT ⟨⟨none,0,none,0,none,0,none,0,none,0⟩,by kernel_rfl,eM,by decide,by decide⟩
 have b4:=aN a a1
 have b5:=al d b4 (fun x hx=>av) (d6.upd b4 aC)
 refine L0<|fe (xs:=L) (ys:=([(Ev.mk 3 cE.zero)])) (.agg #[vI 0,vB 0,vW 0,vB 0,vB 0,vW 0,vW 0,vW 0,vW 0,vW 0,vW 0,vW 0,vW 0,vW 0,vW 0,nS,nS,nS,nS,vB 0,vB 0,vB 0,vB 0,vB 0,nS]) 25 168 b5 cU.rd d6.ones (fun w' hv=>d6.upd hv (bf (bv _ b5 (by decide)) aC)) (by(try simp only[d8,aQ]);omega) (le (le j.size a.size) a1.size) fun cV cW fx cX cZ fy=>Pl 1<|nl<|bn<|tn<|go<|Pl 2<|nl<|bn<|?_
 have hz:=iD h (by omega) (by omega)
 have b6:=ut (aE.mono (S':=(ob Bq++[])) a1 aA) cZ (aB il aA)
 exact ed (e,(L++[(Ev.mk 3 cE.zero)]),cV,cW) ⟨(ut g b6 (aB (bC d lr) aA)),(aX.upd' k b6 (bf (bv _ (al d a (fun x hx=>av) (d6.upd a aC)) (by decide)) aC)),cX,(by(try dsimp only);omega),(by(try dsimp only);simp only[d8];omega),hz⟩ (by omega)
 have cR:=of_decide_eq_false a0
 refine aq 3<|bl 84 ((decide (2<((e:Int)-(i:Int))))) (fun l=>?_) (fun l=>?_)
 have d0:=of_decide_eq_true l
 refine Pl 2<|L1<|Oi ((e:Int)-1)<|eF (aX.at_ k ((((e:Int)-1)).toNat) (by omega)) fun d1 d2 d3 d4 fz=>L1<|iS b.length ((((e:Int)-1)).toNat) ((e:Int)-1) (by omega) d3 (by omega)<|L1<|dC (p:=⟨d1,d2+((((e:Int)-1)).toNat),none⟩) (v:=vB (b.getD ((((e:Int)-1)).toNat) 0)) d4<|Pl 3<|bl 92 (((b.getD ((((e:Int)-1)).toNat) 0)==10)) (fun r=>?_) (fun r=>?_)
 have d5:=ak r
 refine Pl 2<|L1<|Oi ((e:Int)-2)<|?_
 have fA:=gX (by omega) f r
 refine eF (aX.at_ k ((((e:Int)-2)).toNat) (by omega)) fun d7 d9 da db fB=>L1<|iS b.length ((((e:Int)-2)).toNat) ((e:Int)-2) (by omega) da (by omega)<|L1<|dC (p:=⟨d7,d9+((((e:Int)-2)).toNat),none⟩) (v:=vB (b.getD ((((e:Int)-2)).toNat) 0)) db<|ap 3<|cb (((b.getD ((((e:Int)-2)).toNat) 0)==13)) (fun D=>?_) (fun D=>?_)
 have dc:=ak D
 refine aq 4<|jR (e9 (P:=Tryz.prog) 27 5 1 Tryz.underlying27 rfl rfl A b.length cp (lo:=(i:Int)) (up:=(e:Int)) (((i:Int)).toNat) (((e:Int)).toNat) (by omega) (by omega) (by omega) (by omega) (by omega)) fun dd hrun165 df=>L0<|gy (.slice dd ((((e:Int)).toNat)-(((i:Int)).toNat)) (cp-(((i:Int)).toNat))) (de (kl:=.i64) (kh:=.i64) (lo:=(i:Int)) (hi:=(e:Int)) (A:=A) (n:=b.length) (c:=cp) rfl Tryz.underlying27 (by kernel_rfl) (by kernel_rfl) (by kernel_rfl) (hrun165 _ _ _))<|pr (dv dir ((b.take (((e:Int)).toNat)).drop (((i:Int)).toNat))) fun t M b7=>?_
 refine ax<|e2 (fw b7 (df _ _ _ _ _ k) (by rw[List.length_drop,List.length_take];omega)) fun a2 fC dg b8=>?_
 obtain⟨dh,di,dj⟩:=dg
 refine Pl 3<|aK #[vB 0,vW 0,vB 0,vB 0,vW 0,vW 0,vW 0,vW 0,vW 0,vW 0,vW 0,vW 0,vW 0,vW 0,nS,nS,nS,nS,vB 0,vB 0,vB 0,vB 0,vB 0,nS] fun fD fE dk dl b9=>aD dl (qt t.unit t.tid t.msg a2) fun dm dn ba=>ap 1<|go<|Pl 2<|L0<|cJ dn<|Pl 1<|L0<|eX (m:=1) (e:=87) (nP ⟨M,t⟩ a2) fun fF fG dp dq bb=>?_
 have bc:=ud b9 (aN ba bb) dk
 have dr:=gn (w0:=dm) (x:=(Ev.mk M t)) dp dq ⟨a2,rfl,(aU.upd dh bc aC),di,dj⟩
 have bd:=aN b8 bc
 have bg:=aN a bd
 have bh:=al d bg (fun x hx=>av) (d6.upd bg aC)
 refine L0<|fe (xs:=L) (ys:=([(Ev.mk M t)])) (.agg #[vI 0,vB 0,vW 0,vB 0,vB 0,vW 0,vW 0,vW 0,vW 0,vW 0,vW 0,vW 0,vW 0,vW 0,vW 0,nS,nS,nS,nS,vB 0,vB 0,vB 0,vB 0,vB 0,nS]) 25 168 bh dr.rd d6.ones (fun w' hv=>d6.upd hv (bf (bv _ bh (by decide)) aC)) (by(try simp only[d8,aQ]);omega) (le (le (le (le (le j.size a.size) b8.size) b9.size) ba.size) bb.size) fun ds dt fH du dw fI=>Pl 1<|nl<|bn<|tn<|go<|Pl 2<|nl<|bn<|?_
 have hzt:zE b i e=true:=by
   unfold zE
   have z0:=l
   have z1:=r
   have z2:=D
   revert z0 z1 z2
   cases (b.getD ((e:Int)-1).toNat 0==10)<;>cases (b.getD ((e:Int)-2).toNat 0==13)<;>cases (decide (2<(e:Int)-(i:Int)))<;>simp
 have hz:=lL h (by omega) (by omega) f (by omega) hzt b7
 have bi:=ut (aE.mono (S':=(ob Bq++[])) bd aA) dw (aB il aA)
 exact ed (e,(L++[(Ev.mk M t)]),ds,dt) ⟨(ut g bi (aB (bC d lr) aA)),(aX.upd' k bi (bf (bv _ (al d a (fun x hx=>av) (d6.upd a aC)) (by decide)) aC)),du,(by(try dsimp only);omega),(by(try dsimp only);simp only[d8];omega),hz⟩ (by omega)
 have dc:=au D
 refine az 5<|cb (((e:Int)==(b.length:Int))) (fun a3=>?_) (fun a3=>?_)
 have dx:=ak a3
 refine az 4<|rt<|br<|tr<|br<|tr<|br<|tr<|rr (.tuple #[.slice Bq L.length cq,vI ((e:Int)-(i:Int))])<|?_
 have hzf:zE b i e=false:=by
   unfold zE
   have z0:=l
   have z1:=r
   have z2:=D
   revert z0 z1 z2
   cases (b.getD ((e:Int)-1).toNat 0==10)<;>cases (b.getD ((e:Int)-2).toNat 0==13)<;>cases (decide (2<(e:Int)-(i:Int)))<;>simp
 have hz:dZ dir b=(L,e-i):=eJ (dW h (by omega) (by omega) f (by omega) hzf) (by omega)
 rw[hz]
 exact⟨_,(by rw[show((e-i:Nat) : Int)=(e:Int)-(i:Int) from by omega]),(al d a (fun x hx=>av) (d6.upd a aC)),g⟩
 have dx:=au a3
 refine go<|Pl 2<|L0<|eX (m:=1) (e:=87) #[vI 12,vB 0,vW 0,vB 0,vB 0,vW 0,vW 0,vW 0,vW 0,vW 0,vW 0,vW 0,vW 0,vW 0,vW 0,nS,nS,nS,nS,vB 0,vB 0,vB 0,vB 0,vB 0,nS] fun fJ fK dy dz a4=>?_
 have dA:=gn (m:=true) (w0:=o) (x:=(Ev.mk 12 cE.zero)) dy dz ⟨⟨none,0,none,0,none,0,none,0,none,0⟩,by kernel_rfl,eM,by decide,by decide⟩
 have bj:=aN a a4
 have bm:=al d bj (fun x hx=>av) (d6.upd bj aC)
 refine L0<|fe (xs:=L) (ys:=([(Ev.mk 12 cE.zero)])) (.agg #[vI 0,vB 0,vW 0,vB 0,vB 0,vW 0,vW 0,vW 0,vW 0,vW 0,vW 0,vW 0,vW 0,vW 0,vW 0,nS,nS,nS,nS,vB 0,vB 0,vB 0,vB 0,vB 0,nS]) 25 168 bm dA.rd d6.ones (fun w' hv=>d6.upd hv (bf (bv _ bm (by decide)) aC)) (by(try simp only[d8,aQ]);omega) (le (le j.size a.size) a4.size) fun dB dD fL dE dF fM=>Pl 1<|nl<|bn<|tn<|go<|Pl 2<|nl<|bn<|?_
 have hzf:zE b i e=false:=by
   unfold zE
   have z0:=l
   have z1:=r
   have z2:=D
   revert z0 z1 z2
   cases (b.getD ((e:Int)-1).toNat 0==10)<;>cases (b.getD ((e:Int)-2).toNat 0==13)<;>cases (decide (2<(e:Int)-(i:Int)))<;>simp
 have hz:=jb h (by omega) (by omega) f (by omega) hzf (vE C (by omega))
 have bo:=ut (aE.mono (S':=(ob Bq++[])) a4 aA) dF (aB il aA)
 exact ed (e,(L++[(Ev.mk 12 cE.zero)]),dB,dD) ⟨(ut g bo (aB (bC d lr) aA)),(aX.upd' k bo (bf (bv _ (al d a (fun x hx=>av) (d6.upd a aC)) (by decide)) aC)),dE,(by(try dsimp only);omega),(by(try dsimp only);simp only[d8];omega),hz⟩ (by omega)
 have d5:=au r
 refine ap 8<|c0<|az 5<|cb (((e:Int)==(b.length:Int))) (fun a5=>?_) (fun a5=>?_)
 have dG:=ak a5
 refine az 4<|rt<|br<|tr<|br<|tr<|br<|tr<|rr (.tuple #[.slice Bq L.length cq,vI ((e:Int)-(i:Int))])<|?_
 have hzf:zE b i e=false:=by
   unfold zE
   have z0:=l
   have z1:=r
   revert z0 z1
   cases (b.getD ((e:Int)-1).toNat 0==10)<;>cases (b.getD ((e:Int)-2).toNat 0==13)<;>cases (decide (2<(e:Int)-(i:Int)))<;>simp
 have hz:dZ dir b=(L,e-i):=eJ (dW h (by omega) (by omega) f (by omega) hzf) (by omega)
 rw[hz]
 exact⟨_,(by rw[show((e-i:Nat) : Int)=(e:Int)-(i:Int) from by omega]),(al d a (fun x hx=>av) (d6.upd a aC)),g⟩
 have dG:=au a5
 refine go<|Pl 2<|L0<|eX (m:=1) (e:=87) #[vI 12,vB 0,vW 0,vB 0,vB 0,vW 0,vW 0,vW 0,vW 0,vW 0,vW 0,vW 0,vW 0,vW 0,vW 0,nS,nS,nS,nS,vB 0,vB 0,vB 0,vB 0,vB 0,nS] fun fN fO dH dI a6=>?_
 have dJ:=gn (m:=true) (w0:=o) (x:=(Ev.mk 12 cE.zero)) dH dI ⟨⟨none,0,none,0,none,0,none,0,none,0⟩,by kernel_rfl,eM,by decide,by decide⟩
 have bp:=aN a a6
 have bq:=al d bp (fun x hx=>av) (d6.upd bp aC)
 refine L0<|fe (xs:=L) (ys:=([(Ev.mk 12 cE.zero)])) (.agg #[vI 0,vB 0,vW 0,vB 0,vB 0,vW 0,vW 0,vW 0,vW 0,vW 0,vW 0,vW 0,vW 0,vW 0,vW 0,nS,nS,nS,nS,vB 0,vB 0,vB 0,vB 0,vB 0,nS]) 25 168 bq dJ.rd d6.ones (fun w' hv=>d6.upd hv (bf (bv _ bq (by decide)) aC)) (by(try simp only[d8,aQ]);omega) (le (le j.size a.size) a6.size) fun dK dL fP dM dN fQ=>Pl 1<|nl<|bn<|tn<|go<|Pl 2<|nl<|bn<|?_
 have hzf:zE b i e=false:=by
   unfold zE
   have z0:=l
   have z1:=r
   revert z0 z1
   cases (b.getD ((e:Int)-1).toNat 0==10)<;>cases (b.getD ((e:Int)-2).toNat 0==13)<;>cases (decide (2<(e:Int)-(i:Int)))<;>simp
 have hz:=jb h (by omega) (by omega) f (by omega) hzf (vE C (by omega))
 have bs:=ut (aE.mono (S':=(ob Bq++[])) a6 aA) dN (aB il aA)
 exact ed (e,(L++[(Ev.mk 12 cE.zero)]),dK,dL) ⟨(ut g bs (aB (bC d lr) aA)),(aX.upd' k bs (bf (bv _ (al d a (fun x hx=>av) (d6.upd a aC)) (by decide)) aC)),dM,(by(try dsimp only);omega),(by(try dsimp only);simp only[d8];omega),hz⟩ (by omega)
 have d0:=of_decide_eq_false l
 refine ap 16<|c0<|az 5<|cb (((e:Int)==(b.length:Int))) (fun a7=>?_) (fun a7=>?_)
 have dO:=ak a7
 refine az 4<|rt<|br<|tr<|br<|tr<|br<|tr<|rr (.tuple #[.slice Bq L.length cq,vI ((e:Int)-(i:Int))])<|?_
 have hzf:zE b i e=false:=by
   unfold zE
   have z0:=l
   revert z0
   cases (b.getD ((e:Int)-1).toNat 0==10)<;>cases (b.getD ((e:Int)-2).toNat 0==13)<;>cases (decide (2<(e:Int)-(i:Int)))<;>simp
 have hz:dZ dir b=(L,e-i):=eJ (dW h (by omega) (by omega) f (by omega) hzf) (by omega)
 rw[hz]
 exact⟨_,(by rw[show((e-i:Nat) : Int)=(e:Int)-(i:Int) from by omega]),(al d a (fun x hx=>av) (d6.upd a aC)),g⟩
 have dO:=au a7
 refine go<|Pl 2<|L0<|eX (m:=1) (e:=87) #[vI 12,vB 0,vW 0,vB 0,vB 0,vW 0,vW 0,vW 0,vW 0,vW 0,vW 0,vW 0,vW 0,vW 0,vW 0,nS,nS,nS,nS,vB 0,vB 0,vB 0,vB 0,vB 0,nS] fun fR fS dP dQ a8=>?_
 have dR:=gn (m:=true) (w0:=o) (x:=(Ev.mk 12 cE.zero)) dP dQ ⟨⟨none,0,none,0,none,0,none,0,none,0⟩,by kernel_rfl,eM,by decide,by decide⟩
 have bt:=aN a a8
 have bu:=al d bt (fun x hx=>av) (d6.upd bt aC)
 refine L0<|fe (xs:=L) (ys:=([(Ev.mk 12 cE.zero)])) (.agg #[vI 0,vB 0,vW 0,vB 0,vB 0,vW 0,vW 0,vW 0,vW 0,vW 0,vW 0,vW 0,vW 0,vW 0,vW 0,nS,nS,nS,nS,vB 0,vB 0,vB 0,vB 0,vB 0,nS]) 25 168 bu dR.rd d6.ones (fun w' hv=>d6.upd hv (bf (bv _ bu (by decide)) aC)) (by(try simp only[d8,aQ]);omega) (le (le j.size a.size) a8.size) fun dS dT fT dU dV fU=>Pl 1<|nl<|bn<|tn<|go<|Pl 2<|nl<|bn<|?_
 have hzf:zE b i e=false:=by
   unfold zE
   have z0:=l
   revert z0
   cases (b.getD ((e:Int)-1).toNat 0==10)<;>cases (b.getD ((e:Int)-2).toNat 0==13)<;>cases (decide (2<(e:Int)-(i:Int)))<;>simp
 have hz:=jb h (by omega) (by omega) f (by omega) hzf (vE C (by omega))
 have bw:=ut (aE.mono (S':=(ob Bq++[])) a8 aA) dV (aB il aA)
 exact ed (e,(L++[(Ev.mk 12 cE.zero)]),dS,dT) ⟨(ut g bw (aB (bC d lr) aA)),(aX.upd' k bw (bf (bv _ (al d a (fun x hx=>av) (d6.upd a aC)) (by decide)) aC)),dU,(by(try dsimp only);omega),(by(try dsimp only);simp only[d8];omega),hz⟩ (by omega)
 have ca:=of_decide_eq_false U
 refine ap 35<|c0<|xt<|tx<|tx<|bx<|tn<|aq 2<|be ((e:Int)-(i:Int))<|Pl 1<|nl<|tn<|sq<|bk<|az 3<|cb ((decide (513<((e:Int)-(i:Int))))) (fun a9=>?_) (fun a9=>?_)
 have dX:=of_decide_eq_true a9
 refine go<|Pl 2<|L0<|eX (m:=1) (e:=87) #[vI 3,vB 0,vW 0,vB 0,vB 0,vW 0,vW 0,vW 0,vW 0,vW 0,vW 0,vW 0,vW 0,vW 0,vW 0,nS,nS,nS,nS,vB 0,vB 0,vB 0,vB 0,vB 0,nS] fun fV fW dY e0 aa=>?_
 have e1:=gn (m:=true) (w0:=o) (x:=(Ev.mk 3 cE.zero)) dY e0 ⟨⟨none,0,none,0,none,0,none,0,none,0⟩,by kernel_rfl,eM,by decide,by decide⟩
 have ab:=aN a aa
 have bA:=al d ab (fun x hx=>av) (d6.upd ab aC)
 refine L0<|fe (xs:=L) (ys:=([(Ev.mk 3 cE.zero)])) (.agg #[vI 0,vB 0,vW 0,vB 0,vB 0,vW 0,vW 0,vW 0,vW 0,vW 0,vW 0,vW 0,vW 0,vW 0,vW 0,nS,nS,nS,nS,vB 0,vB 0,vB 0,vB 0,vB 0,nS]) 25 168 bA e1.rd d6.ones (fun w' hv=>d6.upd hv (bf (bv _ bA (by decide)) aC)) (by(try simp only[d8,aQ]);omega) (le (le j.size a.size) aa.size) fun e3 e4 fX e5 bB fY=>Pl 1<|nl<|bn<|tn<|go<|Pl 2<|nl<|bn<|?_
 have hz:=iD h (by omega) (by omega)
 exact ed (e,(L++[(Ev.mk 3 cE.zero)]),e3,e4) ⟨(ut g (ut (aE.mono (S':=(ob Bq++[])) aa aA) bB (aB il aA)) (aB (bC d lr) aA)),(aX.upd' B (ut (aE.mono (S':=(ob Bq++[])) ab aA) bB (aB il aA)) (bf (bv _ d (by decide)) aC)),e5,(by(try dsimp only);omega),(by(try dsimp only);simp only[d8];omega),hz⟩ (by omega)
 have dX:=of_decide_eq_false a9
 refine aq 3<|bl 84 ((decide (2<((e:Int)-(i:Int))))) (fun u=>?_) (fun u=>?_)
 have e6:=of_decide_eq_true u
 refine Pl 2<|L1<|Oi ((e:Int)-1)<|?_
 have E:=aX.upd' B a aC
 refine eF (aX.at_ E ((((e:Int)-1)).toNat) (by omega)) fun e7 e8 ea eb fZ=>L1<|iS b.length ((((e:Int)-1)).toNat) ((e:Int)-1) (by omega) ea (by omega)<|L1<|dC (p:=⟨e7,e8+((((e:Int)-1)).toNat),none⟩) (v:=vB (b.getD ((((e:Int)-1)).toNat) 0)) eb<|Pl 3<|bl 92 (((b.getD ((((e:Int)-1)).toNat) 0)==10)) (fun y=>?_) (fun y=>?_)
 have ec:=ak y
 refine Pl 2<|L1<|Oi ((e:Int)-2)<|?_
 have g0:=gX (by omega) f y
 refine eF (aX.at_ E ((((e:Int)-2)).toNat) (by omega)) fun ee ef eg eh g1=>L1<|iS b.length ((((e:Int)-2)).toNat) ((e:Int)-2) (by omega) eg (by omega)<|L1<|dC (p:=⟨ee,ef+((((e:Int)-2)).toNat),none⟩) (v:=vB (b.getD ((((e:Int)-2)).toNat) 0)) eh<|ap 3<|cb (((b.getD ((((e:Int)-2)).toNat) 0)==13)) (fun H=>?_) (fun H=>?_)
 have ei:=ak H
 refine aq 4<|jR (e9 (P:=Tryz.prog) 27 5 1 Tryz.underlying27 rfl rfl A b.length cp (lo:=(i:Int)) (up:=(e:Int)) (((i:Int)).toNat) (((e:Int)).toNat) (by omega) (by omega) (by omega) (by omega) (by omega)) fun ej hrun303 ek=>L0<|gy (.slice ej ((((e:Int)).toNat)-(((i:Int)).toNat)) (cp-(((i:Int)).toNat))) (de (kl:=.i64) (kh:=.i64) (lo:=(i:Int)) (hi:=(e:Int)) (A:=A) (n:=b.length) (c:=cp) rfl Tryz.underlying27 (by kernel_rfl) (by kernel_rfl) (by kernel_rfl) (hrun303 _ _ _))<|pr (dv dir ((b.take (((e:Int)).toNat)).drop (((i:Int)).toNat))) fun z N bD=>?_
 refine ax<|e2 (fw bD (ek _ _ _ _ _ E) (by rw[List.length_drop,List.length_take];omega)) fun ac g2 el bE=>?_
 obtain⟨em,eo,ep⟩:=el
 refine Pl 3<|aK #[vB 0,vW 0,vB 0,vB 0,vW 0,vW 0,vW 0,vW 0,vW 0,vW 0,vW 0,vW 0,vW 0,vW 0,nS,nS,nS,nS,vB 0,vB 0,vB 0,vB 0,vB 0,nS] fun g3 g4 eq er bF=>aD er (qt z.unit z.tid z.msg ac) fun es et bG=>ap 1<|go<|Pl 2<|L0<|cJ et<|Pl 1<|L0<|eX (m:=1) (e:=87) (nP ⟨N,z⟩ ac) fun g5 g6 eu ev bH=>?_
 have bI:=ud bF (aN bG bH) eq
 have ew:=gn (w0:=es) (x:=(Ev.mk N z)) eu ev ⟨ac,rfl,(aU.upd em bI aC),eo,ep⟩
 have bJ:=aN bE bI
 have bK:=aN a bJ
 have bL:=al d bK (fun x hx=>av) (d6.upd bK aC)
 refine L0<|fe (xs:=L) (ys:=([(Ev.mk N z)])) (.agg #[vI 0,vB 0,vW 0,vB 0,vB 0,vW 0,vW 0,vW 0,vW 0,vW 0,vW 0,vW 0,vW 0,vW 0,vW 0,nS,nS,nS,nS,vB 0,vB 0,vB 0,vB 0,vB 0,nS]) 25 168 bL ew.rd d6.ones (fun w' hv=>d6.upd hv (bf (bv _ bL (by decide)) aC)) (by(try simp only[d8,aQ]);omega) (le (le (le (le (le j.size a.size) bE.size) bF.size) bG.size) bH.size) fun ex ey g7 ez eA g8=>Pl 1<|nl<|bn<|tn<|go<|Pl 2<|nl<|bn<|?_
 have hzt:zE b i e=true:=by
   unfold zE
   have z0:=u
   have z1:=y
   have z2:=H
   revert z0 z1 z2
   cases (b.getD ((e:Int)-1).toNat 0==10)<;>cases (b.getD ((e:Int)-2).toNat 0==13)<;>cases (decide (2<(e:Int)-(i:Int)))<;>simp
 have hz:=lL h (by omega) (by omega) f (by omega) hzt bD
 have bM:=ut (aE.mono (S':=(ob Bq++[])) bJ aA) eA (aB il aA)
 exact ed (e,(L++[(Ev.mk N z)]),ex,ey) ⟨(ut g bM (aB (bC d lr) aA)),(aX.upd' E bM (bf (bv _ (al d a (fun x hx=>av) (d6.upd a aC)) (by decide)) aC)),ez,(by(try dsimp only);omega),(by(try dsimp only);simp only[d8];omega),hz⟩ (by omega)
 have ei:=au H
 refine az 5<|cb (((e:Int)==(b.length:Int))) (fun ad=>?_) (fun ad=>?_)
 have eB:=ak ad
 refine az 4<|rt<|br<|tr<|br<|tr<|br<|tr<|rr (.tuple #[.slice Bq L.length cq,vI ((e:Int)-(i:Int))])<|?_
 have hzf:zE b i e=false:=by
   unfold zE
   have z0:=u
   have z1:=y
   have z2:=H
   revert z0 z1 z2
   cases (b.getD ((e:Int)-1).toNat 0==10)<;>cases (b.getD ((e:Int)-2).toNat 0==13)<;>cases (decide (2<(e:Int)-(i:Int)))<;>simp
 have hz:dZ dir b=(L,e-i):=eJ (dW h (by omega) (by omega) f (by omega) hzf) (by omega)
 rw[hz]
 exact⟨_,(by rw[show((e-i:Nat) : Int)=(e:Int)-(i:Int) from by omega]),(al d a (fun x hx=>av) (d6.upd a aC)),g⟩
 have eB:=au ad
 refine go<|Pl 2<|L0<|eX (m:=1) (e:=87) #[vI 12,vB 0,vW 0,vB 0,vB 0,vW 0,vW 0,vW 0,vW 0,vW 0,vW 0,vW 0,vW 0,vW 0,vW 0,nS,nS,nS,nS,vB 0,vB 0,vB 0,vB 0,vB 0,nS] fun g9 ga eC eD ae=>?_
 have eE:=gn (m:=true) (w0:=o) (x:=(Ev.mk 12 cE.zero)) eC eD ⟨⟨none,0,none,0,none,0,none,0,none,0⟩,by kernel_rfl,eM,by decide,by decide⟩
 have bN:=aN a ae
 have bO:=al d bN (fun x hx=>av) (d6.upd bN aC)
 refine L0<|fe (xs:=L) (ys:=([(Ev.mk 12 cE.zero)])) (.agg #[vI 0,vB 0,vW 0,vB 0,vB 0,vW 0,vW 0,vW 0,vW 0,vW 0,vW 0,vW 0,vW 0,vW 0,vW 0,nS,nS,nS,nS,vB 0,vB 0,vB 0,vB 0,vB 0,nS]) 25 168 bO eE.rd d6.ones (fun w' hv=>d6.upd hv (bf (bv _ bO (by decide)) aC)) (by(try simp only[d8,aQ]);omega) (le (le j.size a.size) ae.size) fun eG eH gb eI eK gc=>Pl 1<|nl<|bn<|tn<|go<|Pl 2<|nl<|bn<|?_
 have hz:iO dir b e (L++[(Ev.mk 12 cE.zero)]):=by exfalso;omega
 have bP:=ut (aE.mono (S':=(ob Bq++[])) ae aA) eK (aB il aA)
 exact ed (e,(L++[(Ev.mk 12 cE.zero)]),eG,eH) ⟨(ut g bP (aB (bC d lr) aA)),(aX.upd' E bP (bf (bv _ (al d a (fun x hx=>av) (d6.upd a aC)) (by decide)) aC)),eI,(by(try dsimp only);omega),(by(try dsimp only);simp only[d8];omega),hz⟩ (by omega)
 have ec:=au y
 refine ap 8<|c0<|az 5<|cb (((e:Int)==(b.length:Int))) (fun af=>?_) (fun af=>?_)
 have eL:=ak af
 refine az 4<|rt<|br<|tr<|br<|tr<|br<|tr<|rr (.tuple #[.slice Bq L.length cq,vI ((e:Int)-(i:Int))])<|?_
 have hzf:zE b i e=false:=by
   unfold zE
   have z0:=u
   have z1:=y
   revert z0 z1
   cases (b.getD ((e:Int)-1).toNat 0==10)<;>cases (b.getD ((e:Int)-2).toNat 0==13)<;>cases (decide (2<(e:Int)-(i:Int)))<;>simp
 have hz:dZ dir b=(L,e-i):=eJ (dW h (by omega) (by omega) f (by omega) hzf) (by omega)
 rw[hz]
 exact⟨_,(by rw[show((e-i:Nat) : Int)=(e:Int)-(i:Int) from by omega]),(al d a (fun x hx=>av) (d6.upd a aC)),g⟩
 have eL:=au af
 refine go<|Pl 2<|L0<|eX (m:=1) (e:=87) #[vI 12,vB 0,vW 0,vB 0,vB 0,vW 0,vW 0,vW 0,vW 0,vW 0,vW 0,vW 0,vW 0,vW 0,vW 0,nS,nS,nS,nS,vB 0,vB 0,vB 0,vB 0,vB 0,nS] fun gd ge eN eO ag=>?_
 have eP:=gn (m:=true) (w0:=o) (x:=(Ev.mk 12 cE.zero)) eN eO ⟨⟨none,0,none,0,none,0,none,0,none,0⟩,by kernel_rfl,eM,by decide,by decide⟩
 have bQ:=aN a ag
 have bR:=al d bQ (fun x hx=>av) (d6.upd bQ aC)
 refine L0<|fe (xs:=L) (ys:=([(Ev.mk 12 cE.zero)])) (.agg #[vI 0,vB 0,vW 0,vB 0,vB 0,vW 0,vW 0,vW 0,vW 0,vW 0,vW 0,vW 0,vW 0,vW 0,vW 0,nS,nS,nS,nS,vB 0,vB 0,vB 0,vB 0,vB 0,nS]) 25 168 bR eP.rd d6.ones (fun w' hv=>d6.upd hv (bf (bv _ bR (by decide)) aC)) (by(try simp only[d8,aQ]);omega) (le (le j.size a.size) ag.size) fun eQ eR gf eS eT gg=>Pl 1<|nl<|bn<|tn<|go<|Pl 2<|nl<|bn<|?_
 have hz:iO dir b e (L++[(Ev.mk 12 cE.zero)]):=by exfalso;omega
 have bS:=ut (aE.mono (S':=(ob Bq++[])) ag aA) eT (aB il aA)
 exact ed (e,(L++[(Ev.mk 12 cE.zero)]),eQ,eR) ⟨(ut g bS (aB (bC d lr) aA)),(aX.upd' E bS (bf (bv _ (al d a (fun x hx=>av) (d6.upd a aC)) (by decide)) aC)),eS,(by(try dsimp only);omega),(by(try dsimp only);simp only[d8];omega),hz⟩ (by omega)
 have e6:=of_decide_eq_false u
 refine ap 16<|c0<|az 5<|cb (((e:Int)==(b.length:Int))) (fun ah=>?_) (fun ah=>?_)
 have eU:=ak ah
 refine az 4<|rt<|br<|tr<|br<|tr<|br<|tr<|rr (.tuple #[.slice Bq L.length cq,vI ((e:Int)-(i:Int))])<|?_
 have hzf:zE b i e=false:=by
   unfold zE
   have z0:=u
   revert z0
   cases (b.getD ((e:Int)-1).toNat 0==10)<;>cases (b.getD ((e:Int)-2).toNat 0==13)<;>cases (decide (2<(e:Int)-(i:Int)))<;>simp
 have hz:dZ dir b=(L,e-i):=eJ (dW h (by omega) (by omega) f (by omega) hzf) (by omega)
 rw[hz]
 exact⟨_,(by rw[show((e-i:Nat) : Int)=(e:Int)-(i:Int) from by omega]),(al d a (fun x hx=>av) (d6.upd a aC)),g⟩
 have eU:=au ah
 refine go<|Pl 2<|L0<|eX (m:=1) (e:=87) #[vI 12,vB 0,vW 0,vB 0,vB 0,vW 0,vW 0,vW 0,vW 0,vW 0,vW 0,vW 0,vW 0,vW 0,vW 0,nS,nS,nS,nS,vB 0,vB 0,vB 0,vB 0,vB 0,nS] fun gh gi eV eW ai=>?_
 have eY:=gn (m:=true) (w0:=o) (x:=(Ev.mk 12 cE.zero)) eV eW ⟨⟨none,0,none,0,none,0,none,0,none,0⟩,by kernel_rfl,eM,by decide,by decide⟩
 have aj:=aN a ai
 have bT:=al d aj (fun x hx=>av) (d6.upd aj aC)
 refine L0<|fe (xs:=L) (ys:=([(Ev.mk 12 cE.zero)])) (.agg #[vI 0,vB 0,vW 0,vB 0,vB 0,vW 0,vW 0,vW 0,vW 0,vW 0,vW 0,vW 0,vW 0,vW 0,vW 0,nS,nS,nS,nS,vB 0,vB 0,vB 0,vB 0,vB 0,nS]) 25 168 bT eY.rd d6.ones (fun w' hv=>d6.upd hv (bf (bv _ bT (by decide)) aC)) (by(try simp only[d8,aQ]);omega) (le (le j.size a.size) ai.size) fun eZ f0 gj f1 bU gk=>Pl 1<|nl<|bn<|tn<|go<|Pl 2<|nl<|bn<|?_
 have hz:iO dir b e (L++[(Ev.mk 12 cE.zero)]):=by exfalso;omega
 exact ed (e,(L++[(Ev.mk 12 cE.zero)]),eZ,f0) ⟨(ut g (ut (aE.mono (S':=(ob Bq++[])) ai aA) bU (aB il aA)) (aB (bC d lr) aA)),(aX.upd' B (ut (aE.mono (S':=(ob Bq++[])) aj aA) bU (aB il aA)) (bf (bv _ d (by decide)) aC)),f1,(by(try dsimp only);omega),(by(try dsimp only);simp only[d8];omega),hz⟩ (by omega)
 have c2:=of_decide_eq_false R
 refine xt<|tx<|tx<|bx<|tn<|az 3<|rt<|rr (.tuple #[.slice Bq L.length cq,vI 0])<|?_
 have hz:dZ dir b=(L,0):=rX Q (by omega)
 rw[hz]
 exact⟨_,rfl,d,j⟩
variable {v:Value}
theorem u4(h:aX true w v b)(hb:b.length≤1048576) : Calls Tryz.prog 23 #[.int .i64 dir,v] w (w4 (dZ dir b) w):=by
  obtain⟨A,cp,rfl,hc,_⟩:=h.shape
  exact tb h hb hc
open Go.RowKit
open Go.RowKit
open Go.RowKit
open Go.RowKit
open Go.RowKit
structure SS where
  dir:Int
  held:List Int
  off:Bool
def dN (w:World)(g:Nat)(S:SS) : Prop:=∃ A cp,w.heap[g]? = some (.cells #[.int .i64 S.dir,.slice A S.held.length cp,.bool S.off] 142 (0,0))∧aX true w (.slice A S.held.length cp) S.held∧S.held.length≤256∧S.held.length≤cp
def SS.feed (S:SS)(b:List Int) : SS × List Ev :=
  if S.off then (S,[]) else if decide (b.length≤256-S.held.length) then (⟨S.dir,S.held++b,false⟩,[]) else (⟨S.dir,[],true⟩,[Ev.bad 3])
variable {S:SS}{g:Nat}
theorem dN.lt(h:dN w g S) : g<w.heap.size:=by
  obtain⟨A,cp,h1,_⟩:=h
  exact ag h1
variable {w':World}
theorem dN.upd{X:List Nat}(h:dN w g S)(hu:aE X w w')(hg:g∉X)(hs:bS true [5] X w) : dN w' g S:=by
  obtain⟨A,cp,h1,h2,h3⟩:=h
  exact⟨A,cp,hu.blk hg h1,h2.upd' hu hs,h3⟩
theorem dN.old(h:dN w g S)(hu:aE [] w w') : dN w' g S:=h.upd hu (by simp) (bS.nil _ _ _)
theorem dN.cells(h:dN w g S) : ∃ cs fr,w.heap[g]? = some (.cells cs 142 fr):=by
  obtain⟨A,cp,h1,_⟩:=h
  exact⟨_,_,h1⟩
theorem dN.le(h:dN w g S) : S.held.length≤256:=by
  obtain⟨A,cp,_,_,h1,_⟩:=h
  exact h1
theorem dN.safe(h:dN w g S)(D:List TypeId)(hD:D.contains 142=false) : bS true D [g] w:=by
  obtain⟨A,cp,h1,_⟩:=h
  exact aT h1 hD
variable {L:List Ev}
theorem SS.feed_le{S2:SS}   (h:S.feed b=(S2,L)) : L.length≤1:=by
  have k:=congrArg Prod.snd h
  rw[show L=(S.feed b).2 from k.symm]
  unfold SS.feed
  split
  · exact Nat.zero_le _
  split
  · exact Nat.zero_le _
  · exact Nat.le_refl _
end Go.Proofs.YtdkhbcefkfgbdaaGreat
namespace Go.Proofs.YtdkhbcefkfgbdaaGreat
open Go.RowKit
variable {dir:Int}{w:World}
theorem pD(e0:(dir != 0)=true)(e1:(dir != 1)=true) : Calls Tryz.prog 21 #[vI dir] w (bW (.pointer none) w):=by
 exact en 12 Tryz.func21 rfl<|az 1<|sq<|aq 3<|sy 5 e0<|ap 3<|ct e1<|az 1<|bj<|rr (.pointer none)<|⟨rfl,(aE.refl [] _)⟩
variable {L L2:List Ev}{b:List Int}
theorem gk{S S2 S3:SA}{a:List Int}  (h:(S2,L)=S.feed a)(hX:S2.feed b=(S3,L2)) : (S3,L++L2)=S.feed (a++b):=by
  have gen:∀ (b:List Int) (T:SA) (K:List Ev),b.foldl (fun(p:SA × List Ev) c=>((p.1.byte c).1,p.2++(p.1.byte c).2)) (T,K)=((T.feed b).1,K++(T.feed b).2):=by
    intro b
    induction b with
    | nil=>intro T K;simp[SA.feed]
    | cons c t ih =>
      intro T K
      unfold SA.feed
      rw[List.foldl_cons,List.foldl_cons,ih,ih]
      simp
  unfold SA.feed at h ⊢
  rw[List.foldl_append,← h,gen,hX]
variable {d:Int}
theorem iW{S:SA}  (hr:∀ x,x∈b→0≤x∧x<256)(h:(S,L)=(SA.mk d []).feed b) : dZ d b=(L,S.held.length):=by
  unfold dZ
  rw[← h]
variable {A:Option Addr}{cpA:Nat}{ls:List (List Int)}{mA:Md}
theorem jr(hA:fP mA w (.slice A ls.length cpA) ls)(hbb:∀ x,x∈ls→x.length≤140737488355328) :
    Calls Tryz.prog 4 #[vI 0,.slice A ls.length cpA] w (bW (.bool true) w):=by
 have hzA:=aI.len hA
 refine en 71 Tryz.func4 rfl<|aq 1<|ng<|ax<|m1 (@lq _) fun b5 J=>Pl 1<|aL 1<|?_
 refine ax<|m1 (iy (fP.old hA J) hbb) fun t a0=>ap 1<|sq<|az 2<|?_
 have f:=aN J a0
 refine cb ((!(eT ls))) (fun K=>?_) (fun K=>?_)
 have a1:(eT ls)=false:=by simpa using K
 exact az 2<|bj<|rr (.bool true)<|⟨rfl,f⟩
 have a1:(eT ls)=true:=by simpa using K
 refine bz<|aq 1<|ax<|e3 (lu 0 kZ) fun c au a2 aw a3=>ap 1<|sq<|aq 6<|nl<|tn<|c0<|bz<|sq<|az 2<|c0<|bz<|sq<|go<|Pl 1<|db 1<|sq<|aq 1<|nl<|tn<|bk<|?_
 obtain⟨hf1,hf2⟩:=mi a1
 refine gw (fun x=>[(0,vI 0),(1,.slice A ls.length cpA),(5,.bool true),(7,vP c 0),(8,.slice x.2.2.1 x.2.1.length x.2.2.2.1),(9,.slice x.2.2.2.2.2.2.2.2.1 x.2.2.2.2.2.1.length x.2.2.2.2.2.2.2.2.2.1),(10,vI (x.1:Int))]) (fun(x:Nat × List Int × Option Addr × Nat × SA × List Ev × Option Addr × Nat × Option Addr × Nat × Nat) w'=>aE [] w w'∧au.heap.size≤w'.heap.size∧bu x.2.2.2.2.2.2.2.2.2.2 t.heap.size w' c x.2.2.2.2.2.2.1 x.2.2.2.2.2.2.2.1 x.2.2.2.2.1∧ef w.heap.size w' (.slice x.2.2.1 x.2.1.length x.2.2.2.1) x.2.1∧n8 x.2.2.1 x.2.2.2.2.2.2.2.2.2.2 w.heap.size w' (.slice x.2.2.2.2.2.2.2.2.1 x.2.2.2.2.2.1.length x.2.2.2.2.2.2.2.2.2.1) x.2.2.2.2.2.1∧(x.1≤ls.length)∧(x.2.1.length≤dT (ls.take x.1))∧((x.2.2.2.2.1,x.2.2.2.2.2.1)=SA.feed (SA.mk 0 []) x.2.1)∧(x.2.2.2.2.2.1.length≤dT (ls.take x.1))∧((∀ z,z∈ob x.2.2.1→z∉ob x.2.2.2.2.2.2.1))) (fun x=>ls.length-x.1) (0,[],none,0,(SA.mk 0 []),[],none,0,none,0,t.heap.size) ⟨(aN f a3),lr,aw,(aW.nil w.heap.size _ _ lO _),(aW.nil w.heap.size _ _ (gI none t.heap.size) _),(by(try dsimp only);omega),(by(try dsimp only);simp),rfl,(by(try dsimp only);exact Nat.zero_le _),(fun x hx=>by simp[ob] at hx)⟩ ?_
 rintro⟨k,b,Ab,cpb,S,L,Ah,ch,Bq,cq,n⟩ M ⟨i,a4,aC,aD,aF,aG,aH,aK,aM,aO⟩
 refine f5 [(0,vI 0),(1,.slice A ls.length cpA),(5,.bool true),(7,vP c 0),(8,.slice Ab b.length cpb),(9,.slice Bq L.length cq),(10,vI (k:Int))] ?_
 have a:bu n t.heap.size M c Ah ch S:=aC
 have u:ef w.heap.size M (.slice Ab b.length cpb) b:=aD
 have j:n8 Ab n w.heap.size M (.slice Bq L.length cq) L:=aF
 have b6:k≤ls.length:=aG
 have b7:b.length≤dT (ls.take k):=aH
 have N:(S,L)=SA.feed (SA.mk 0 []) b:=aK
 have b8:L.length≤dT (ls.take k):=aM
 have O:(∀ z,z∈ob Ab→z∉ob Ah):=aO
 refine sq<|az 4<|cb ((decide ((k:Int)<(ls.length:Int)))) (fun P=>?_) (fun P=>?_)
 have aP:=of_decide_eq_true P
 refine bz<|sq<|bk<|aq 3<|ia (fP.elt hA k (by omega)) fun a5 a6 Q T a7 a8 B ba bb=>L0<|hM ls.length k a7 (by omega)<|L0<|dC (p:=⟨a5,a6+k,none⟩) (v:=.slice Q ((ls.getD k []).length) T) (uc i a8)<|?_
 have hpart:=eG (ls:=ls) (k:=k) (by omega)
 refine L0<|fe (R:=lO) (xs:=b) (ys:=(ls.getD k [])) (vB 0) 1 1 u (aX.old B i) lI (fun _ _ _ _ h=>h) (by(try simp only[d8,aQ]);omega) i.size fun a9 aR bc C l U=>Pl 1<|aL 4<|L0<|hM ls.length k a7 (by omega)<|?_
 have V:=ut i l (aB (bC u lr) aA)
 refine L0<|dC (p:=⟨a5,a6+k,none⟩) (v:=.slice Q ((ls.getD k []).length) T) (uc V a8)<|?_
 have hpart:=eG (ls:=ls) (k:=k) (by omega)
 have ab:=aX.old B V
 have D:=bu.upd a l (b9 (dE (bu.cells a) u (by decide)) av) (fun x hx=>(b9 ((fo O) x hx) av))
 refine pr (SA.feed S (ls.getD k [])) fun ad d m=>?_
 have bd:=SA.feed_le D.2.2.1 (aX.range ab) m
 refine ax (args:=#[vP c 0,.slice Q ((ls.getD k []).length) T])<|(eK m D ab (mF (aI.low B) (Nat.le_trans f.size a2)) (gh (aI.low B) (bu.row D) f.size) (by have y:=eG (ls:=ls) (k:=k) (by omega);omega)).mono ?_
 rintro _ bf ⟨bg,aS,aT,ae,rfl,aU,o,aV,aY,r⟩
 refine⟨_,rfl,?_⟩
 have bh:=bu.le o
 have af:=aU
 obtain⟨bi,bm,rfl,bo,bp⟩:=aI.shape af.rd
 have ag:=ut (aE.mono (S':=(ob Ab++(c :: (ob Ah++[])))) l (aB il aA)) r (ac im (aB il aA))
 have s:=al j ag (fun x hx=>(b9 ((cv j u (by decide)) x hx) (aa (fun e=>(dE (bu.cells a) j (by decide)) (e▸hx)) (b9 ((cv j (bu.row a) (by decide)) x hx) av)))) (fun x cs q=>gI.upd ag (qN (qv (bu.cells a) (by decide) (qD (nO (Nat.le_refl _) (bu.low a)) ek))) q)
 have W:=al C r (fun x hx=>(aa (fun e=>(dE (bu.cells D) C (by decide)) (e▸hx)) (b9 ((eH U O (bu.row a) lr) x hx) av))) (fun _ _ h=>h)
 refine L0<|fe (R:=gI a9 ae) (xs:=L) (ys:=d) (.agg #[vI 0,vB 0,vW 0,vB 0,vB 0,vW 0,vW 0,vW 0,vW 0,vW 0,vW 0,vW 0,vW 0,vW 0,vW 0,nS,nS,nS,nS,vB 0,vB 0,vB 0,vB 0,vB 0,nS]) 25 168 (aW.map s fun x cs q=>gI.row (rh U (bu.nle a)) aY (bu.nle o) q) (aW.map af fun x cs q=>gI.of (oy C W) q).rd gI.ones (fun w' hv x cs q=>gI.upd hv (rO s (by decide) ek) q) (by(try simp only[d8,aQ]);omega) (le (le (le (le (le J.size a0.size) a3.size) a4) l.size) r.size) fun ah ai bq aZ X bs=>Pl 1<|aL 2<|?_
 have E:=al W X (fun x hx=>(b9 ((cv W s (by decide)) x hx) av)) (fun _ _ h=>h)
 refine ax<|tv (u4 (dir:=0) (E).rd (by(try simp only[List.length_append]);omega)) fun b0 b1 bt b2 bv bw F=>Pl 5<|aL 2<|?_
 have aj:=al aZ F (fun x hx=>av) (fun x cs q=>gI.upd F ek q)
 refine ax (args:=#[.slice ah ((L++d).length) ai,.slice b0 (((dZ 0 (b++(ls.getD k []))).1).length) b1])<|m1 (kJ (xs:=(L++d)) (ys:=(dZ 0 (b++(ls.getD k []))).1) (n8.own aj).rd (b2).rd) fun bA Y=>Pl 2<|?_
 have G:=aN F Y
 have ak:=aN X G
 have am:=ut V (ut (aE.mono (S':=(c :: (ob Ah++(ob Bq++[])))) r (ac im (aB il aA))) ak (aB il aA)) (ac (ni f.size a2) (aB (bC (bu.row a) f.size) (aB (bC j lr) aA)))
 refine bl 64 ((!(decide ((L++d)=(dZ 0 (b++(ls.getD k []))).1)))) (fun Z=>?_) (fun Z=>?_)
 have H:(decide ((L++d)=(dZ 0 (b++(ls.getD k []))).1))=false:=by simpa using Z
 have b3:=of_decide_eq_false H
 refine ap 5<|c1<|az 1<|rt<|br<|tr<|tr<|br<|tr<|rr (.bool false)<|?_
 have hs:false=true:=by exfalso;have hz:=iW (aX.range ((al E G (fun x hx=>av) (fun _ _ h=>h))).rd) (gk N m);have y:=H;rw[hz] at y;simp at y
 rw[hs]
 exact⟨rfl,am⟩
 have H:(decide ((L++d)=(dZ 0 (b++(ls.getD k []))).1))=true:=by simpa using Z
 have b3:=of_decide_eq_true H
 refine Pl 1<|?_
 have an:=bu.upd o ak (b9 (dE (bu.cells o) s (by decide)) av) (fun x hx=>(b9 ((cv (bu.row o) s (by decide)) x hx) av))
 refine L1<|Oc<|m1 (i8 an) fun bB g=>ap 3<|?_
 have ao:=aN am g
 refine cb (((ad.held.length:Int)!=(((dZ 0 (b++(ls.getD k []))).2:Nat) : Int))) (fun I=>?_) (fun I=>?_)
 have b4:=ay I
 refine az 1<|rt<|br<|tr<|tr<|br<|tr<|rr (.bool false)<|?_
 have hs:false=true:=by exfalso;have hz:=iW (aX.range ((al E (aN G g) (fun x hx=>av) (fun _ _ h=>h))).rd) (gk N m);have y:=I;rw[hz] at y;simp at y
 rw[hs]
 exact⟨rfl,ao⟩
 have b4:=aJ I
 refine sk<|bn<|tn<|go<|Pl 1<|be ((k:Int)+1)<|Pl 1<|nl<|?_
 have ar:=aN Y g
 exact ed ((k+1),(b++(ls.getD k [])),a9,aR,ad,(L++d),aS,aT,ah,ai,ae) ⟨ao,(le (le (le (le (le (le a4 l.size) r.size) X.size) F.size) Y.size) g.size),(bu.upd an g av (fun x hx=>av)),(al E (aN G g) (fun x hx=>av) (fun _ _ h=>h)),(al aj ar (fun x hx=>av) (fun x cs q=>gI.upd ar ek q)),(by(try dsimp only);omega),(by(try dsimp only);have y:=dV (ls:=ls) (k:=k) (by omega);(try simp only[List.length_append]);omega),(by(try dsimp only);exact gk N m),(by(try dsimp only);have y:=dV (ls:=ls) (k:=k) (by omega);(try simp only[List.length_append]);omega),(fo (eH aV (fo (eH U O (bu.row a) lr)) C lr))⟩ (by omega)
 have aP:=of_decide_eq_false P
 exact xt<|tx<|tx<|bx<|tn<|az 2<|rt<|rr (.bool true)<|⟨rfl,i⟩
theorem j9(hA:fP mA w (.slice A ls.length cpA) ls)(hbb:∀ x,x∈ls→x.length≤140737488355328) :
    Calls Tryz.prog 4 #[vI 1,.slice A ls.length cpA] w (bW (.bool true) w):=by
 have hzA:=aI.len hA
 refine en 71 Tryz.func4 rfl<|aq 1<|ng<|ax<|m1 (@lq _) fun b5 J=>Pl 1<|aL 1<|?_
 refine ax<|m1 (iy (fP.old hA J) hbb) fun t a0=>ap 1<|sq<|az 2<|?_
 have f:=aN J a0
 refine cb ((!(eT ls))) (fun K=>?_) (fun K=>?_)
 have a1:(eT ls)=false:=by simpa using K
 exact az 2<|bj<|rr (.bool true)<|⟨rfl,f⟩
 have a1:(eT ls)=true:=by simpa using K
 refine bz<|aq 1<|ax<|e3 (lu 1 qj) fun c au a2 aw a3=>ap 1<|sq<|aq 6<|nl<|tn<|c0<|bz<|sq<|az 2<|c0<|bz<|sq<|go<|Pl 1<|db 1<|sq<|aq 1<|nl<|tn<|bk<|?_
 obtain⟨hf1,hf2⟩:=mi a1
 refine gw (fun x=>[(0,vI 1),(1,.slice A ls.length cpA),(5,.bool true),(7,vP c 0),(8,.slice x.2.2.1 x.2.1.length x.2.2.2.1),(9,.slice x.2.2.2.2.2.2.2.2.1 x.2.2.2.2.2.1.length x.2.2.2.2.2.2.2.2.2.1),(10,vI (x.1:Int))]) (fun(x:Nat × List Int × Option Addr × Nat × SA × List Ev × Option Addr × Nat × Option Addr × Nat × Nat) w'=>aE [] w w'∧au.heap.size≤w'.heap.size∧bu x.2.2.2.2.2.2.2.2.2.2 t.heap.size w' c x.2.2.2.2.2.2.1 x.2.2.2.2.2.2.2.1 x.2.2.2.2.1∧ef w.heap.size w' (.slice x.2.2.1 x.2.1.length x.2.2.2.1) x.2.1∧n8 x.2.2.1 x.2.2.2.2.2.2.2.2.2.2 w.heap.size w' (.slice x.2.2.2.2.2.2.2.2.1 x.2.2.2.2.2.1.length x.2.2.2.2.2.2.2.2.2.1) x.2.2.2.2.2.1∧(x.1≤ls.length)∧(x.2.1.length≤dT (ls.take x.1))∧((x.2.2.2.2.1,x.2.2.2.2.2.1)=SA.feed (SA.mk 1 []) x.2.1)∧(x.2.2.2.2.2.1.length≤dT (ls.take x.1))∧((∀ z,z∈ob x.2.2.1→z∉ob x.2.2.2.2.2.2.1))) (fun x=>ls.length-x.1) (0,[],none,0,(SA.mk 1 []),[],none,0,none,0,t.heap.size) ⟨(aN f a3),lr,aw,(aW.nil w.heap.size _ _ lO _),(aW.nil w.heap.size _ _ (gI none t.heap.size) _),(by(try dsimp only);omega),(by(try dsimp only);simp),rfl,(by(try dsimp only);exact Nat.zero_le _),(fun x hx=>by simp[ob] at hx)⟩ ?_
 rintro⟨k,b,Ab,cpb,S,L,Ah,ch,Bq,cq,n⟩ M ⟨i,a4,aC,aD,aF,aG,aH,aK,aM,aO⟩
 refine f5 [(0,vI 1),(1,.slice A ls.length cpA),(5,.bool true),(7,vP c 0),(8,.slice Ab b.length cpb),(9,.slice Bq L.length cq),(10,vI (k:Int))] ?_
 have a:bu n t.heap.size M c Ah ch S:=aC
 have u:ef w.heap.size M (.slice Ab b.length cpb) b:=aD
 have j:n8 Ab n w.heap.size M (.slice Bq L.length cq) L:=aF
 have b6:k≤ls.length:=aG
 have b7:b.length≤dT (ls.take k):=aH
 have N:(S,L)=SA.feed (SA.mk 1 []) b:=aK
 have b8:L.length≤dT (ls.take k):=aM
 have O:(∀ z,z∈ob Ab→z∉ob Ah):=aO
 refine sq<|az 4<|cb ((decide ((k:Int)<(ls.length:Int)))) (fun P=>?_) (fun P=>?_)
 have aP:=of_decide_eq_true P
 refine bz<|sq<|bk<|aq 3<|ia (fP.elt hA k (by omega)) fun a5 a6 Q T a7 a8 B ba bb=>L0<|hM ls.length k a7 (by omega)<|L0<|dC (p:=⟨a5,a6+k,none⟩) (v:=.slice Q ((ls.getD k []).length) T) (uc i a8)<|?_
 have hpart:=eG (ls:=ls) (k:=k) (by omega)
 refine L0<|fe (R:=lO) (xs:=b) (ys:=(ls.getD k [])) (vB 0) 1 1 u (aX.old B i) lI (fun _ _ _ _ h=>h) (by(try simp only[d8,aQ]);omega) i.size fun a9 aR bc C l U=>Pl 1<|aL 4<|L0<|hM ls.length k a7 (by omega)<|?_
 have V:=ut i l (aB (bC u lr) aA)
 refine L0<|dC (p:=⟨a5,a6+k,none⟩) (v:=.slice Q ((ls.getD k []).length) T) (uc V a8)<|?_
 have hpart:=eG (ls:=ls) (k:=k) (by omega)
 have ab:=aX.old B V
 have D:=bu.upd a l (b9 (dE (bu.cells a) u (by decide)) av) (fun x hx=>(b9 ((fo O) x hx) av))
 refine pr (SA.feed S (ls.getD k [])) fun ad d m=>?_
 have bd:=SA.feed_le D.2.2.1 (aX.range ab) m
 refine ax (args:=#[vP c 0,.slice Q ((ls.getD k []).length) T])<|(eK m D ab (mF (aI.low B) (Nat.le_trans f.size a2)) (gh (aI.low B) (bu.row D) f.size) (by have y:=eG (ls:=ls) (k:=k) (by omega);omega)).mono ?_
 rintro _ bf ⟨bg,aS,aT,ae,rfl,aU,o,aV,aY,r⟩
 refine⟨_,rfl,?_⟩
 have bh:=bu.le o
 have af:=aU
 obtain⟨bi,bm,rfl,bo,bp⟩:=aI.shape af.rd
 have ag:=ut (aE.mono (S':=(ob Ab++(c :: (ob Ah++[])))) l (aB il aA)) r (ac im (aB il aA))
 have s:=al j ag (fun x hx=>(b9 ((cv j u (by decide)) x hx) (aa (fun e=>(dE (bu.cells a) j (by decide)) (e▸hx)) (b9 ((cv j (bu.row a) (by decide)) x hx) av)))) (fun x cs q=>gI.upd ag (qN (qv (bu.cells a) (by decide) (qD (nO (Nat.le_refl _) (bu.low a)) ek))) q)
 have W:=al C r (fun x hx=>(aa (fun e=>(dE (bu.cells D) C (by decide)) (e▸hx)) (b9 ((eH U O (bu.row a) lr) x hx) av))) (fun _ _ h=>h)
 refine L0<|fe (R:=gI a9 ae) (xs:=L) (ys:=d) (.agg #[vI 0,vB 0,vW 0,vB 0,vB 0,vW 0,vW 0,vW 0,vW 0,vW 0,vW 0,vW 0,vW 0,vW 0,vW 0,nS,nS,nS,nS,vB 0,vB 0,vB 0,vB 0,vB 0,nS]) 25 168 (aW.map s fun x cs q=>gI.row (rh U (bu.nle a)) aY (bu.nle o) q) (aW.map af fun x cs q=>gI.of (oy C W) q).rd gI.ones (fun w' hv x cs q=>gI.upd hv (rO s (by decide) ek) q) (by(try simp only[d8,aQ]);omega) (le (le (le (le (le J.size a0.size) a3.size) a4) l.size) r.size) fun ah ai bq aZ X bs=>Pl 1<|aL 2<|?_
 have E:=al W X (fun x hx=>(b9 ((cv W s (by decide)) x hx) av)) (fun _ _ h=>h)
 refine ax<|tv (u4 (dir:=1) (E).rd (by(try simp only[List.length_append]);omega)) fun b0 b1 bt b2 bv bw F=>Pl 5<|aL 2<|?_
 have aj:=al aZ F (fun x hx=>av) (fun x cs q=>gI.upd F ek q)
 refine ax (args:=#[.slice ah ((L++d).length) ai,.slice b0 (((dZ 1 (b++(ls.getD k []))).1).length) b1])<|m1 (kJ (xs:=(L++d)) (ys:=(dZ 1 (b++(ls.getD k []))).1) (n8.own aj).rd (b2).rd) fun bA Y=>Pl 2<|?_
 have G:=aN F Y
 have ak:=aN X G
 have am:=ut V (ut (aE.mono (S':=(c :: (ob Ah++(ob Bq++[])))) r (ac im (aB il aA))) ak (aB il aA)) (ac (ni f.size a2) (aB (bC (bu.row a) f.size) (aB (bC j lr) aA)))
 refine bl 64 ((!(decide ((L++d)=(dZ 1 (b++(ls.getD k []))).1)))) (fun Z=>?_) (fun Z=>?_)
 have H:(decide ((L++d)=(dZ 1 (b++(ls.getD k []))).1))=false:=by simpa using Z
 have b3:=of_decide_eq_false H
 refine ap 5<|c1<|az 1<|rt<|br<|tr<|tr<|br<|tr<|rr (.bool false)<|?_
 have hs:false=true:=by exfalso;have hz:=iW (aX.range ((al E G (fun x hx=>av) (fun _ _ h=>h))).rd) (gk N m);have y:=H;rw[hz] at y;simp at y
 rw[hs]
 exact⟨rfl,am⟩
 have H:(decide ((L++d)=(dZ 1 (b++(ls.getD k []))).1))=true:=by simpa using Z
 have b3:=of_decide_eq_true H
 refine Pl 1<|?_
 have an:=bu.upd o ak (b9 (dE (bu.cells o) s (by decide)) av) (fun x hx=>(b9 ((cv (bu.row o) s (by decide)) x hx) av))
 refine L1<|Oc<|m1 (i8 an) fun bB g=>ap 3<|?_
 have ao:=aN am g
 refine cb (((ad.held.length:Int)!=(((dZ 1 (b++(ls.getD k []))).2:Nat) : Int))) (fun I=>?_) (fun I=>?_)
 have b4:=ay I
 refine az 1<|rt<|br<|tr<|tr<|br<|tr<|rr (.bool false)<|?_
 have hs:false=true:=by exfalso;have hz:=iW (aX.range ((al E (aN G g) (fun x hx=>av) (fun _ _ h=>h))).rd) (gk N m);have y:=I;rw[hz] at y;simp at y
 rw[hs]
 exact⟨rfl,ao⟩
 have b4:=aJ I
 refine sk<|bn<|tn<|go<|Pl 1<|be ((k:Int)+1)<|Pl 1<|nl<|?_
 have ar:=aN Y g
 exact ed ((k+1),(b++(ls.getD k [])),a9,aR,ad,(L++d),aS,aT,ah,ai,ae) ⟨ao,(le (le (le (le (le (le a4 l.size) r.size) X.size) F.size) Y.size) g.size),(bu.upd an g av (fun x hx=>av)),(al E (aN G g) (fun x hx=>av) (fun _ _ h=>h)),(al aj ar (fun x hx=>av) (fun x cs q=>gI.upd ar ek q)),(by(try dsimp only);omega),(by(try dsimp only);have y:=dV (ls:=ls) (k:=k) (by omega);(try simp only[List.length_append]);omega),(by(try dsimp only);exact gk N m),(by(try dsimp only);have y:=dV (ls:=ls) (k:=k) (by omega);(try simp only[List.length_append]);omega),(fo (eH aV (fo (eH U O (bu.row a) lr)) C lr))⟩ (by omega)
 have aP:=of_decide_eq_false P
 exact xt<|tx<|tx<|bx<|tn<|az 2<|rt<|rr (.bool true)<|⟨rfl,i⟩
theorem jz(hd:¬ (dir=0∨dir=1))     (hA:fP mA w (.slice A ls.length cpA) ls)(hbb:∀ x,x∈ls→x.length≤140737488355328) :
    Calls Tryz.prog 4 #[vI dir,.slice A ls.length cpA] w (bW (.bool true) w):=by
 have hzA:=aI.len hA
 have e0:(dir != 0)=true:=by simp;omega
 have e1:(dir != 1)=true:=by simp;omega
 refine en 71 Tryz.func4 rfl<|aq 1<|ng<|ax<|m1 (@lq _) fun g b=>Pl 1<|aL 1<|?_
 refine ax<|m1 (iy (fP.old hA b) hbb) fun h d=>ap 1<|sq<|az 2<|?_
 have c:=aN b d
 refine cb ((!(eT ls))) (fun a=>?_) (fun a=>?_)
 have e:(eT ls)=false:=by simpa using a
 exact az 2<|bj<|rr (.bool true)<|⟨rfl,c⟩
 have e:(eT ls)=true:=by simpa using a
 refine bz<|aq 1<|ax<|m1 (pD e0 e1) fun i f=>ap 1<|sq<|aq 3<|sy 23 e0<|ap 3<|ct e1<|az 6<|bj<|rr (.bool true)<|?_
 exact⟨rfl,(aN c f)⟩
variable {v:Value}
theorem km(hA:fP mA w v ls)(hbb:∀ x,x∈ls→x.length≤140737488355328) : Calls Tryz.prog 4 #[.int .i64 dir,v] w (bW (.bool true) w):=by
  obtain⟨A0,cp0,rfl,_,_⟩:=hA.shape
  by_cases h0:dir=0
  · subst h0;exact jr hA hbb
  by_cases h1:dir=1
  · subst h1;exact j9 hA hbb
  exact jz (by omega) hA hbb
open Go.RowKit
section
variable {H:Type}{enc:TypeId × Value→H}{P:Program}{w:World}{base:Nat}{spare:Nat→Bool}{held:Bool}
theorem lQ(b off:Nat)(sp:Option Nat)(n:Nat)(h:sp=none) : (⟨b,off,sp⟩ : Addr).add n=⟨b,off+n,none⟩:=iB b off n sp h
theorem qe{b off:Nat}{sp:Option Nat}{v:Value}(h:w.cell? ⟨b,off,sp⟩=some v) : sp=none:=by
  cases sp with
  | none=>rfl
  | some s =>
    unfold World.cell? at h
    simp at h
    split at h<;>cases h
theorem mg{α:Type}{Pd:DataW H→Prop}{R:World→α→List Value→Prop}{t e:TypeId}{sz fuel:Nat}{cs:List Value}{x:DataW H × List MemPlace}(ht:P.underlying t=some (.slice e))(hsz:P.cellsOf e=sz)(hp:0<sz)
    (hel:∀ n cs' y,cs'.length=sz→DataW.trod enc P w base spare held n e cs'=some y→Pd y.1→∃ x,R w x cs') (hP:∀ elems spare,x.1 = .slice elems spare→∀ d,d∈elems→Pd d) (h:DataW.trod enc P w base spare held fuel t cs=some x) : ∃ v xs,cs=[v]∧aI false e sz R w v xs:=by
  rcases Go.Deep.open_slice ht h with⟨rfl,_⟩|⟨a,len,cap,m,n,D,Pl,rfl,_,hl,hm,hmm,hxe,hx⟩
  · exact⟨_,[],rfl,aI.nil ..⟩
  have hlm:len≤m:=by rw[hmm];split<;>omega
  have key:∀ i:Fin len,∃ y:α × List Value,w.cells? base (a.add (i*sz)) sz=some y.2∧y.2.length=sz∧R w y.1 y.2:=fun i=>by
    obtain⟨cs',h1,h2⟩:=hx i (by omega)
    rw[hsz] at h1
    obtain⟨_,hlen,_⟩:=World.cells?_some h1
    obtain⟨y,hy⟩:=hel n cs' _ hlen h2 (hP _ _ (by rw[hxe]) _ (List.mem_map.2 ⟨i.1,List.mem_range.2 i.2,rfl⟩))
    exact⟨(y,cs'),h1,hlen,hy⟩
  obtain⟨f,hf⟩:=Classical.axiomOfChoice key
  refine⟨_,List.ofFn fun i=>(f i).1,rfl,some a,cap,by simp,by simpa using hl,hm,(fun h=>by cases h),fun hpos=>?_⟩
  have hpos':0<len:=by simpa using hpos
  obtain⟨b,off,sp⟩:=a
  have hsp:sp=none:=by
    obtain⟨h1,h2,_⟩:=hf ⟨0,hpos'⟩
    obtain⟨_,_,h3⟩:=World.cells?_some h1
    have h4:=h3 0 hp
    rw[List.getElem?_eq_getElem (by omega)] at h4
    cases sp with
    | none=>rfl
    | some s =>
      simp[Addr.add] at h4
      exact qe h4
  subst hsp
  have hc:∀ i:Fin len,∀ k u,(f i).2[k]? = some u→w.cell? ⟨b,off+i*sz+k,none⟩=some u:=fun i k u hu=>by
    obtain⟨h1,h2,_⟩:=hf i
    obtain⟨_,_,h3⟩:=World.cells?_some h1
    have hk:k<sz:=by have:=(List.getElem?_eq_some_iff.1 hu).1;omega
    have h4:=h3 k hk
    rw[lQ _ _ _ _ rfl,lQ _ _ _ _ rfl] at h4
    rw[h4,hu]
  have h0:∃ u,w.cell? ⟨b,off+0*sz+0,none⟩=some u:=by
    obtain⟨_,h2,_⟩:=hf ⟨0,hpos'⟩
    exact⟨_,hc ⟨0,hpos'⟩ 0 _ (List.getElem?_eq_getElem (by omega))⟩
  obtain⟨u,hu⟩:=h0
  unfold World.cell? at hu
  split at hu
  · rename_i cells t' fr hb
    refine⟨b,off,cells,t',fr,rfl,hb,fun h=>(by cases h),fun j y hj=>?_⟩
    have hjl:j<len:=by have:=(List.getElem?_eq_some_iff.1 hj).1;simpa using this
    have hy:(f ⟨j,hjl⟩).1=y:=by
      rw[List.getElem?_ofFn] at hj
      simpa [hjl] using hj
    obtain⟨_,h2,h3⟩:=hf ⟨j,hjl⟩
    refine⟨(f ⟨j,hjl⟩).2,h2,by rw[← hy];exact h3,fun i u hi=>?_⟩
    have:=hc ⟨j,hjl⟩ i u hi
    rw[bR hb] at this
    exact this
  · cases hu
theorem t5{α:Type}{R:World→α→List Value→Prop}{t e:TypeId}{sz fuel:Nat}{cs:List Value}{x:DataW H × List MemPlace}(ht:P.underlying t=some (.slice e))(hsz:P.cellsOf e=sz)(hp:0<sz)
    (hel:∀ n cs' y,cs'.length=sz→DataW.trod enc P w base spare held n e cs'=some y→∃ x,R w x cs') (h:DataW.trod enc P w base spare held fuel t cs=some x) : ∃ v xs,cs=[v]∧aI false e sz R w v xs :=
  mg (Pd:=fun _=>True) ht hsz hp (fun n cs' y h1 h2 _=>hel n cs' y h1 h2) (fun _ _ _ _ _=>trivial) h
end
section
variable {H:Type}{enc:TypeId × Value→H}{w:World}{base:Nat}{spare:Nat→Bool}{held:Bool}{n:Nat}{y:DataW H × List MemPlace}
theorem w9{cs:List Value}(h:DataW.trod enc Tryz.prog w base spare held n 5 cs=some y) : ∃ x,lO w x cs:=by
  obtain⟨k,rfl,_,hw⟩:=DataW.trod_int Tryz.underlying5 h
  exact⟨k,rfl,qg hw⟩
theorem wd{cs:List Value}(h:DataW.trod enc Tryz.prog w base spare held n 27 cs=some y) : ∃ v xs,cs=[v]∧aX false w v xs:=t5 Tryz.underlying27 (by kernel_rfl) (by decide) (fun _ _ _ _ h=>w9 h) h
end
open Go.RowKit
section
variable {H:Type}{enc:TypeId × Value→H}{w:World}{base:Nat}{spare:Nat→Bool}{held:Bool}{n:Nat}{y:DataW H × List MemPlace}
end
end Go.Proofs.YtdkhbcefkfgbdaaGreat
namespace Go.Proofs.YtdkhbcefkfgbdaaGreat
open Go.WideShapes
def xx (w:World)(b:List Int)(cs:List Value) : Prop:=∃ v,cs=[v]∧aX false w v b∧b.length≤140737488355328
section
variable {H:Type}{enc:TypeId × Value→H}{w:World}{base:Nat}{spare:Nat→Bool}{held:Bool}{n:Nat}{y:DataW H × List MemPlace}
theorem v6{cs:List Value}(h:DataW.trod enc Tryz.prog w base spare held n 27 cs=some y)(hp:∀ e2 s2,y.1 = .slice e2 s2→e2.length≤140737488355328) : ∃ b,xx w b cs:=by
  obtain⟨v,xs,hc,hr⟩:=wd h
  refine⟨xs,v,hc,hr,?_⟩
  obtain⟨A,c,hv,_,_⟩:=hr.shape
  rcases DataW.trod_slice Tryz.underlying27 h with⟨h1,_⟩|⟨a,len,cap,elems,rest,m,_,h1,h2,_,_,_,h3,_⟩
  · rw[hc] at h1
    simp only[List.cons.injEq,and_true] at h1
    rw[h1] at hv
    injection hv with _ h4 _
    omega
  · rw[hc] at h1
    simp only[List.cons.injEq,and_true] at h1
    rw[h1] at hv
    injection hv with _ h4 _
    have:=hp _ _ (by rw[h2])
    rw[List.length_map] at this
    omega
theorem sD{cs:List Value}(h:DataW.trod enc Tryz.prog w base spare held n 22 cs=some y)(hp:∀ elems sp,y.1 = .slice elems sp→∀ d,d∈elems→∀ e2 s2,d = .slice e2 s2→e2.length≤140737488355328) :
    ∃ v xs,cs=[v]∧fP false w v xs∧∀ x,x∈xs→x.length≤140737488355328:=by
  obtain⟨v,xs,hc,hr⟩:=mg (R:=xx) (sz:=1) (Pd:=fun d=>∀ e2 s2,d = .slice e2 s2→e2.length≤140737488355328) Tryz.underlying22 (by kernel_rfl) (by decide) (fun _ _ _ _ h hp=>v6 h hp) hp h
  refine⟨v,xs,hc,aI.any hr (fun _ _ ⟨v,h1,h2,_⟩=>⟨v,h1,h2⟩),fun x hx=>?_⟩
  obtain⟨A,c,rfl,_,_⟩:=hr.shape
  obtain⟨j,hj⟩:=List.getElem?_of_mem hx
  have hl:=(List.getElem?_eq_some_iff.1 hj).1
  obtain⟨_,_,_,_,_,_,_,_,_,⟨_,_,_,h4⟩,_⟩:=aI.elt hr [] j hl
  rw[List.getD_eq_getElem?_getD,hj] at h4
  exact h4
end
theorem fV{H:Type}{P:Program}{e:TypeId}{d:DataW H}{k:Nat}(hk:k∈d.weights P e) : ∀ {l:List (DataW H)},d∈l→k∈DataW.weightsAll P e l
  | [],h=>by cases h
  | x :: r,h=>by
    simp only[DataW.weightsAll,List.mem_append]
    rcases List.mem_cons.1 h with rfl|h
    · exact .inl hk
    · exact .inr (fV hk h)
theorem ss{H:Type}{ts:List TypeId}{ds:List (DataW H)}(h:(DataW.weightsEach Tryz.prog ts ds).all (·≤reachBytes)=true){j:Nat}{d:DataW H}(ht:ts[j]? = some 22)(hd:ds[j]? = some d) :
    ∀ elems sp,d = .slice elems sp→∀ d2,d2∈elems→∀ e2 s2,d2 = .slice e2 s2→e2.length≤140737488355328:=by
  rintro elems sp rfl d2 hm e2 s2 rfl
  have hw:(e2.length+s2.length)*Tryz.prog.bytesOf 5∈(DataW.slice elems sp).weights Tryz.prog 22:=by
    simp only[DataW.weights,Tryz.underlying22,List.mem_cons,List.mem_append]
    refine .inr (.inl (fV ?_ hm))
    simp only[DataW.weights,Tryz.underlying27,List.mem_cons]
    exact .inl trivial
  have h2:=List.all_eq_true.1 h _ (DataW.weights_mem_each ht hd _ hw)
  have h3:(e2.length+s2.length)*Tryz.prog.bytesOf 5≤reachBytes:=by simpa using h2
  rw[show Tryz.prog.bytesOf 5=1 from by kernel_rfl] at h3
  have h4:reachBytes<2 ^ 47:=reachBytes_lt
  omega
end Go.Proofs.YtdkhbcefkfgbdaaGreat
