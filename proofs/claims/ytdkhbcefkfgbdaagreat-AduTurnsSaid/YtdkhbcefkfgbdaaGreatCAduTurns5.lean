/- Contracts of functions, part CAduTurns5. -/
import Derived.Test.YtdkhbcefkfgbdaaGreatCAduTurns1
import Derived.Test.YtdkhbcefkfgbdaaGreatCAduTurns2
import Derived.Test.YtdkhbcefkfgbdaaGreatCAduTurns3
import Derived.Test.YtdkhbcefkfgbdaaGreatCAduTurns4
set_option linter.unusedVariables false
set_option linter.unusedSimpArgs false
set_option maxRecDepth 100000
set_option maxHeartbeats 4000000
namespace Go.Proofs.YtdkhbcefkfgbdaaGreat
def N4 (C:ap) : Prop:=C.e≠4
variable {C:ap}{x:Int}
theorem N4.need{b:Bool}  (hx:x≠4)(h:N4 C) : N4 (C.need b x):=by
  unfold N4 ap.need at *
  split
  · exact hx
  · exact h
variable {n:Int}
theorem N4.bytesC(h:N4 C) : N4 (C.bytesC n):=by
  unfold ap.bytesC
  split
  · exact N4.need (by decide) h
  · exact h
theorem N4.wordsC(h:N4 C) : N4 (C.wordsC n):=by
  unfold ap.wordsC
  split<;>exact N4.bytesC h
theorem N4.recs{one:Int→ap→Int × ap × dl}(ho:∀ s C,N4 C→N4 (one s C).2.1) : ∀ (n:Nat)(s:Int)(C:ap)(L:List dl),N4 C→N4 (aX one n s C L).1
  | 0,_,_,_,h=>h
  | n+1,s,C,L,h=>by
    unfold aX
    split
    · split
      · exact ho s C h
      · exact N4.recs ho n _ _ _ (ho s C h)
    · exact h
theorem N4.objs:∀ (n:Nat)(C:ap)(L:List Obj),N4 C→N4 (eP n C L).1
  | 0,_,_,h=>h
  | n+1,C,L,h=>N4.objs n _ _ (N4.bytesC (N4.bytesC (N4.bytesC h)))
theorem tN(h:x≠4) : bB x≠4:=by
  unfold bB
  split
  · decide
  · exact h
variable {c dir:Int}{r:ap × aS}
theorem zM(hC:N4 C)(h:aR dir c C=some r) : N4 r.1:=by
  unfold aR at h
  repeat' split at h
  all_goals first | cases h | skip
  all_goals simp only[ek,dZ,dM,hG,cz,km,fP,ef,sX,iB]
  all_goals repeat' first | with_reducible exact hC | with_reducible apply N4.bytesC | with_reducible apply N4.wordsC | (with_reducible refine N4.need (by decide) ?_)
theorem An(hC:N4 C)(h:aY dir c C=some r) : N4 r.1:=by
  unfold aY at h
  repeat' split at h
  all_goals first | cases h | skip
  all_goals simp only[cn,cF,eo,dq,da,dn,dp,mn,js,j6,bI,lI,d8,gC,rz,Bt,uC]
  all_goals repeat' first | with_reducible exact hC | with_reducible apply N4.bytesC | with_reducible apply N4.wordsC | (with_reducible refine N4.need (by decide) ?_)
theorem As(hC:N4 C)(h:bo dir c C=some r) : N4 r.1:=by
  unfold bo eM cV at h
  repeat' split at h
  all_goals first | cases h | skip
  all_goals simp only[fq,l6,fp,gG,dS]
  all_goals repeat' first | with_reducible exact hC | with_reducible apply N4.bytesC | with_reducible apply N4.wordsC | (with_reducible refine N4.need (by decide) ?_)
theorem BZ(s:Int)(C:ap)(h:N4 C) : N4 (dj s C).2.1:=by
  simp only[dj,fb,dR,jd,jO,o4]
  repeat' first | with_reducible exact h | with_reducible apply N4.bytesC | with_reducible apply N4.wordsC | (with_reducible refine N4.need (by decide) ?_)
theorem yC(s:Int)(C:ap)(h:N4 C) : N4 (bQ s C).2.1:=by
  simp only[bQ,fu,iy,ff]
  repeat' first | with_reducible exact h | with_reducible apply N4.bytesC | with_reducible apply N4.wordsC | (with_reducible refine N4.need (by decide) ?_)
theorem Aq(s:Int)(C:ap)(h:N4 C) : N4 (dr s C).2.1:=by
  simp only[dr,jX,oD,dR,jd,jO,o4]
  repeat' first | with_reducible exact h | with_reducible apply N4.bytesC | with_reducible apply N4.wordsC | (with_reducible refine N4.need (by decide) ?_)
theorem ly{one:Int→ap→Int × ap × dl}(ho:∀ s C,N4 C→N4 (one s C).2.1)(may:Int→Bool)(c:Int)  (hC:N4 C) : N4 (dm one may c C).1:=by
  unfold dm l7
  refine N4.need (tN (N4.recs ho _ _ _ _ ?_)) (N4.bytesC (N4.need (by decide) (N4.bytesC hC)))
  show(0:Int)≠4
  decide
theorem yK(hC:N4 C)(h:bg dir c C=some r) : N4 r.1:=by
  unfold bg at h
  repeat' split at h
  all_goals first | cases h | skip
  · exact ly BZ _ _ hC
  · exact ly yC _ _ hC
  · exact ly Aq _ _ hC
theorem N4.endC(h:N4 C) : N4 C.endC:=by
  unfold ap.endC
  exact N4.need (by decide) h
variable {b:List Int}{form:Int→Int→ap→Option (ap × aS)}
theorem yM(hg:∀ {dir c:Int}{C:ap}{r:ap × aS},N4 C→form dir c C=some r→N4 r.1)   (hd:dir=0∨dir=1)  (hf:form dir c ⟨b,false,0⟩=some r) :
    (ak form dir c b).2≠4:=by
  unfold ak
  rw[if_pos hd,hf]
  have h0:N4 ⟨b,false,0⟩:=by show(0:Int)≠4;decide
  have g1:=hg h0 hf
  show(bC r.2 r.1).2≠4
  unfold bC
  split
  · exact(show ¬ (0:Int)=4 from by decide)
  · exact N4.endC g1
theorem nP(hd:dir=0∨dir=1)(hf:form dir c ⟨b,false,0⟩=none) : ak form dir c b=(aS.zero,4):=by
  unfold ak
  rw[if_pos hd,hf]
def gc (dir:Int)(b:List Int) : aS × Int :=
  if (ak aR dir (b.getD 0 0) (b.drop 1)).2==4 then
    if (ak aY dir (b.getD 0 0) (b.drop 1)).2==4 then
      if (ak bo dir (b.getD 0 0) (b.drop 1)).2==4 then
        if (ak bg dir (b.getD 0 0) (b.drop 1)).2==4 then ak bJ dir (b.getD 0 0) (b.drop 1)
        else ak bg dir (b.getD 0 0) (b.drop 1)
      else ak bo dir (b.getD 0 0) (b.drop 1)
    else ak aY dir (b.getD 0 0) (b.drop 1)
  else ak aR dir (b.getD 0 0) (b.drop 1)
theorem wF(hd:dir=0∨dir=1) : gc dir b=ir (ka (b.getD 0 0)) dir b:=by
  have no:∀ (form:Int→Int→ap→Option (ap × aS)),form dir (b.getD 0 0) ⟨b.drop 1,false,0⟩=none→((ak form dir (b.getD 0 0) (b.drop 1)).2==4)=true:=fun f h=>by rw[nP hd h];rfl
  have ye:∀ (form:Int→Int→ap→Option (ap × aS)),(∀ {dir c:Int} {C:ap} {r:ap × aS},N4 C→form dir c C=some r→N4 r.1)→(form dir (b.getD 0 0) ⟨b.drop 1,false,0⟩).isSome=true→¬ ((ak form dir (b.getD 0 0) (b.drop 1)).2==4)=true:=fun form hg h=>by
    obtain⟨r,hr⟩:=Option.isSome_iff_exists.1 h
    have k:=yM (form:=form) (c:=b.getD 0 0) (fun hC h=>hg hC h) hd hr
    rw[beq_iff_eq]
    exact k
  unfold gc
  rcases iA (b.getD 0 0) with⟨hk,hf⟩|⟨hk,hf⟩|⟨hk,hf⟩|⟨hk,hf⟩|⟨hk,hf⟩|⟨hk,hf⟩<;>rw[hf]
  · rw[if_neg (ye aR (fun hC h=>zM hC h) (by rcases hd with rfl | rfl<;>rcases hk with h | h | h | h<;>rw[h]<;>rfl))]
    rfl
  · rw[if_pos (no aR (by rcases hk with h | h | h | h | h | h | h<;>rw[h]<;>rfl)),if_neg (ye aY (fun hC h=>An hC h) (by rcases hd with rfl | rfl<;>rcases hk with h | h | h | h | h | h | h<;>rw[h]<;>rfl))]
    rfl
  · rw[if_pos (no aR (by rcases hk with h | h | h | h | h<;>rw[h]<;>rfl)),if_pos (no aY (by rcases hk with h | h | h | h | h<;>rw[h]<;>rfl)),if_neg (ye bo (fun hC h=>As hC h) (by rcases hd with rfl | rfl<;>rcases hk with h | h | h | h | h<;>rw[h]<;>rfl))]
    rfl
  · rw[if_pos (no aR (by rcases hk with h | h<;>rw[h]<;>rfl)),if_pos (no aY (by rcases hk with h | h<;>rw[h]<;>rfl)),if_pos (no bo (by rcases hk with h | h<;>rw[h]<;>rfl)),if_neg (ye bg (fun hC h=>yK hC h) (by rcases hd with rfl | rfl<;>rcases hk with h | h<;>rw[h]<;>rfl))]
    rfl
  · rw[if_pos (no aR (by rw[hk]<;>rfl)),if_pos (no aY (by rw[hk]<;>rfl)),if_pos (no bo (by rw[hk]<;>rfl)),if_pos (no bg (by rw[hk]<;>rfl))]
    rfl
  · have no0:∀ (form:Int→Int→ap→Option (ap × aS)),(∀ C,form dir (b.getD 0 0) C=none)→((ak form dir (b.getD 0 0) (b.drop 1)).2==4)=true:=fun f h=>no f (h _)
    have ne:∀ k:Int,¬ b.getD 0 0=k→(b.getD 0 0==k)=false:=fun k h=>by simpa using h
    obtain⟨z1,z2,z5,a,z3,z4,z6,d,e,g,i,z7,z8,j,l,m,n,o,p⟩:=hk
    rw[if_pos (no0 aR fun C=>by unfold aR;simp only[ne _ z1,ne _ z2,ne _ z5,ne _ a,Bool.or_false,Bool.false_eq_true,if_false]),if_pos (no0 aY fun C=>by unfold aY;simp only[ne _ z3,ne _ z4,ne _ z6,ne _ d,ne _ e,ne _ g,ne _ i,Bool.or_false,Bool.false_eq_true,if_false]),if_pos (no0 bo fun C=>by unfold bo;simp only[ne _ z7,ne _ z8,ne _ j,ne _ l,ne _ m,Bool.or_false,Bool.false_eq_true,if_false]),if_pos (no0 bg fun C=>by unfold bg;simp only[ne _ n,ne _ o,Bool.or_false,Bool.false_eq_true,if_false])]
    exact nP hd (by unfold bJ;rw[if_pos (show(b.getD 0 0 != 43)=true from by rw[bne_iff_ne];exact p)])
def ip (dir:Int)(b:List Int) : aS × Int :=
  if dir != 0&&dir != 1 then (aS.zero,1)
  else if (b.length:Int)==0 then (aS.zero,2)
  else if decide (253<(b.length:Int)) then (aS.zero,3)
  else if decide (128≤b.getD 0 0)&&dir==1 then fd b
  else gc dir b
theorem gh(dir:Int)(b:List Int) : ip dir b=ci dir b:=by
  unfold ip ci
  split
  · rfl
  · rename_i hh
    have hd:dir=0∨dir=1:=by simp only[Bool.and_eq_true,bne_iff_ne,ne_eq] at hh;omega
    rw[wF hd]
open Go.RowKit
variable {k:Nat}{xs:List Int}
theorem ws{a b:Nat}(h:2*k+1<xs.length)(ha:a=2*k)(hb:b=2*k+1)(hr:∀ x,x∈xs→0≤x∧x<256) : dB (xs.drop (2*k))=[(((256*xs.getD a 0)%65536)+xs.getD b 0)%65536]++dB (xs.drop (2*(k+1))):=by
  subst ha hb
  rw[List.drop_eq_getElem_cons (show 2*k<xs.length by omega),List.drop_eq_getElem_cons h]
  have h1:=hr _ (List.getElem_mem (show 2*k<xs.length by omega))
  have h2:=hr _ (List.getElem_mem h)
  have e1:xs.getD (2*k) 0=xs[2*k]:=by rw[List.getD_eq_getElem?_getD,List.getElem?_eq_getElem (by omega)];rfl
  have e2:xs.getD (2*k+1) 0=xs[2*k+1]:=by rw[List.getD_eq_getElem?_getD,List.getElem?_eq_getElem h];rfl
  rw[e1,e2]
  show(xs[2*k]*256+xs[2*k+1]) :: dB (xs.drop (2*k+1+1))=_
  rw[show 2*k+1+1=2*(k+1) by omega,show((256*xs[2*k])%65536+xs[2*k+1])%65536=xs[2*k]*256+xs[2*k+1] by omega]
  rfl
theorem xb{L:List Int}  (h:L++dB (xs.drop (2*k))=dB xs)(h1:¬ 2*k+1<xs.length)(h2:xs.length%2=0) : L=cw xs:=by
  have hd:xs.drop (2*k)=[]:=List.drop_eq_nil_of_le (by omega)
  rw[hd] at h
  unfold cw
  rw[if_pos h2,← h]
  simp[dB]
variable {A:Option Addr}{cp:Nat}{m:Md}{w:World}
theorem Da(h:aV m w (.slice A xs.length cp) xs)(hn:xs.length≤1048576) : Calls Tryz.prog 224 #[.slice A xs.length cp] w (yg xs w):=by
 have hr:=aV.range h
 refine en 33 Tryz.func224 rfl<|aq 1<|dk 1<|sq<|aq 2<|L0<|Oe (vI (Int.tmod (xs.length:Int) 2)) (vI ((xs.length:Int)%2)) (congrArg (Value.int .i64) (Int.tmod_eq_emod_of_nonneg (by omega)))<|ah 1<|cb ((((xs.length:Int)%2)==1)) (fun f=>?_) (fun f=>?_)
 have v:=ag f
 refine aB 1<|b6<|rr nS<|?_
 have hs:cw xs=[]:=by unfold cw;rw[if_neg (by have:=ag f;omega)]
 exact⟨_,rfl,by rw[hs];exact aZ.nil ..,(aI.refl [] _)⟩
 have v:=ai f
 refine bu<|sq<|aB 1<|bk<|je (fun x=>[(0,.slice A xs.length cp),(2,nS),(3,.slice x.2.2.1 x.2.1.length x.2.2.2),(4,vI ((2*x.1:Nat) : Int))]) (fun(x:Nat × List Int × Option Addr × Nat) w'=>aI [] w w'∧m8 w.heap.size w' (.slice x.2.2.1 x.2.1.length x.2.2.2) x.2.1∧(2*x.1≤xs.length)∧(x.2.1++dB (xs.drop (2*x.1))=dB xs)∧(x.2.1.length=x.1)) (fun x=>xs.length-2*x.1) (0,[],none,0) ⟨aI.refl _ _,(aZ.nil w.heap.size _ _ xR _),(by(try dsimp only);omega),rfl,rfl⟩ ?_
 rintro⟨k,L,B,cq⟩ y ⟨g,z,C,D,E⟩
 refine gi [(0,.slice A xs.length cp),(2,nS),(3,.slice B L.length cq),(4,vI ((2*k:Nat) : Int))] ?_
 have i:m8 w.heap.size y (.slice B L.length cq) L:=z
 have T:2*k≤xs.length:=C
 have U:L++dB (xs.drop (2*k))=dB xs:=D
 have V:L.length=k:=E
 have hL:L++dB (xs.drop (2*k))=dB xs:=by assumption
 refine sq<|aq 1<|bp (((2*k:Nat) : Int)+1)<|ah 3<|cb ((decide ((((2*k:Nat) : Int)+1)<(xs.length:Int)))) (fun j=>?_) (fun j=>?_)
 have F:=of_decide_eq_true j
 refine bu<|sq<|bk<|?_
 have o:=aV.old h g
 refine fo (aV.at_ o (2*k) (by omega)) fun G H p q W=>fo (aV.at_ o (((((2*k:Nat) : Int)+1)).toNat) (by omega)) fun I J r s X=>Rg 17 (fun w'=>w'.cell? ⟨G,H+2*k,none⟩=some (vB (xs.getD (2*k) 0))∧w'.cell? ⟨I,J+((((2*k:Nat) : Int)+1)).toNat,none⟩=some (vB (xs.getD (((((2*k:Nat) : Int)+1)).toNat) 0))) fun Y d=>bv ⟨(uc d q),(uc d s)⟩ fun c=>Rt 0 c<|Rt 1 c<|Rt 2 c<|m0 3 c xs.length (2*k) ((2*k:Nat) : Int) rfl p (by omega)<|Rl 4 c (fun _ hs=>hs.1)<|Rr 5 c (vW (xs.getD (2*k) 0)) (fun _ _=>bO (vW (IntKind.u16.wrap (xs.getD (2*k) 0))) (by kernel_rfl) (congrArg (Value.int .u16) (jl (by omega))))<|Rt 6 c<|Rt 7 c<|Rt 8 c<|Rr 9 c (vI (((2*k:Nat) : Int)+1)) (fun _ _=>bO (vI (IntKind.i64.wrap (((2*k:Nat) : Int)+1))) (by kernel_rfl) (congrArg (Value.int .i64) (IntWalk.i64_in _ (by omega))))<|m0 10 c xs.length (((((2*k:Nat) : Int)+1)).toNat) (((2*k:Nat) : Int)+1) (by omega) r (by omega)<|Rl 11 c (fun _ hs=>hs.2)<|Rr 12 c (vW (xs.getD (((((2*k:Nat) : Int)+1)).toNat) 0)) (fun _ _=>bO (vW (IntKind.u16.wrap (xs.getD (((((2*k:Nat) : Int)+1)).toNat) 0))) (by kernel_rfl) (congrArg (Value.int .u16) (jl (by omega))))<|Rt 13 c<|R0 14 rfl<|cX (m:=1) (e:=37) #[vW ((((256*(xs.getD (2*k) 0))%65536)+(xs.getD (((((2*k:Nat) : Int)+1)).toNat) 0))%65536)] fun Z a0 K M l=>?_
 have N:=eH K (xs:=[((((256*(xs.getD (2*k) 0))%65536)+(xs.getD (((((2*k:Nat) : Int)+1)).toNat) 0))%65536)]) (by as_aux_lemma=>kernel_rfl) (al (by omega) aP) (by(try simp only[List.length_cons,List.length_nil]);omega) M
 have n:=aJ d l
 refine bv ⟨(uc n q),(uc n s)⟩ fun a1=>?_
 refine R0 15 rfl<|bK qg (xs:=L) (ys:=([((((256*(xs.getD (2*k) 0))%65536)+(xs.getD (((((2*k:Nat) : Int)+1)).toNat) 0))%65536)])) (vW 0) 2 (au i n (fun x hx=>aE) (fun _ _ h=>h)) (N).rd (by(try simp only[bM,ax]);omega) (le (le g.size d.size) l.size) fun O P a2 Q R=>?_
 have t:=ut (aJ (aJ g d) l) R (am (aU i lr) aD)
 have u:=aV.old h t
 exact bv ⟨(cB u p (2*k) (by omega)),(cB u r (((((2*k:Nat) : Int)+1)).toNat) (by omega))⟩ fun S=>Rt 16 S<|re<|bn<|tn<|go<|Pl 1<|bp (((2*k:Nat) : Int)+2)<|Pl 1<|nl<|gK ((k+1),(L++[((((256*(xs.getD (2*k) 0))%65536)+(xs.getD (((((2*k:Nat) : Int)+1)).toNat) 0))%65536)]),O,P) ⟨t,Q,(by(try dsimp only);omega),(by(try dsimp only);rw[← hL,ws (k:=k) (a:=2*k) (b:=(((2*k:Nat) : Int)+1).toNat) (by omega) rfl (by omega) hr,List.append_assoc]),(by(try dsimp only);simp only[bM];omega)⟩ (by omega)
 have F:=of_decide_eq_false j
 refine xt<|tx<|tx<|bx<|tn<|aB 2<|rt<|rr (.slice B L.length cq)<|?_
 have hs:L=cw xs:=xb hL (by omega) (by omega)
 exact⟨_,rfl,by rw[← hs];exact i,g⟩
variable {v:Value}
theorem C8(h:aV m w v xs)(hn:xs.length≤1048576) : Calls Tryz.prog 224 #[v] w (yg xs w):=by
  obtain⟨A,cp,rfl,_,_⟩:=h.shape
  exact Da h hn
variable {a:Int}
theorem uB(ha:0≤a∧a<65536)(hn : -1048576≤n∧n≤1048576) : Calls Tryz.prog 222 #[vW a,vI n] w (bS (.bool (dY a n)) w):=by
 refine en 16 Tryz.func222 rfl<|aB 1<|sq<|aq 3<|cu 3 [7] 10 (((decide (n<1))||(decide (65536<n)))) (fun K d=>?_) ?_
 refine bl 7 ((decide (n<1))) (fun b=>?_) (fun b=>?_)
 have e:=of_decide_eq_true b
 exact Pl 3<|ce d true (by rw[b];rfl)
 have e:=of_decide_eq_false b
 exact Pl 3<|ce d (decide (65536<n)) (by rw[b];rfl)
 refine nt<|cb (((decide (n<1))||(decide (65536<n)))) (fun c=>?_) (fun c=>?_)
 refine aB 1<|b6<|rr (.bool false)<|?_
 have hq:=c
 have hs:dY a n=false:=by unfold dY;simp only[Bool.or_eq_true,decide_eq_true_eq] at hq;simp only[Bool.and_eq_false_iff,decide_eq_false_iff_not];omega
 rw[hs]
 exact⟨rfl,(aI.refl [] _)⟩
 have f:=(bL c).1
 have g:=(bL c).2
 have h:=of_decide_eq_false f
 have i:=of_decide_eq_false g
 refine bu<|aq 1<|bp a<|Pl 1<|bp (a+n)<|ah 2<|rt<|rr (.bool (decide ((a+n)≤65536)))<|?_
 have hs:dY a n=(decide ((a+n)≤65536)):=by unfold dY;rw[Bool.eq_iff_iff];simp only[Bool.and_eq_true,decide_eq_true_eq];omega
 rw[hs]
 exact⟨rfl,(aI.refl [] _)⟩
open Go.RowKit
def F3 (A:Option Addr)(cp:Nat)(full:List Int)(k:Nat)(C:ap) : Array Value:=#[.slice A full.length cp,.int .i64 ((k:Nat) : Int),.bool C.sh,.int .i64 C.e]
structure RC (w0:World) (m:Md) (A:Option Addr) (cp:Nat) (full:List Int) (w:World) (g:Nat) (C:ap) : Prop where
  src:aV m w0 (.slice A full.length cp) full
  u:aI [] w0 w
  new:w0.heap.size≤g
  cell:∃ k:Nat,w.heap[g]? = some (.cells (F3 A cp full k C) 194 (0,0))∧k≤full.length∧C.l=full.drop k
  len:full.length≤1048576
variable {full:List Int}{g:Nat}{w0:World}
theorem RC.upd{w':World}   {S:List Nat}(h:RC w0 m A cp full w g C)(hu:aI S w w')(hg:g∉S)(U:aI [] w0 w') : RC w0 m A cp full w' g C:=by
  obtain⟨h1,h2,h3,⟨k,h4,h5,h6⟩,h7⟩:=h
  exact⟨h1,U,h3,⟨k,hu.blk hg h4,h5,h6⟩,h7⟩
theorem RC.rd(h:RC w0 m A cp full w g C) : aV m w (.slice A full.length cp) full:=aV.old h.src h.u
theorem RC.rng(h:RC w0 m A cp full w g C) : ∀ x,x∈C.l→0≤x∧x<256:=fun x hx=>by
  obtain⟨k,_,_,h2⟩:=h.cell
  rw[h2] at hx
  exact aV.range h.src x (List.mem_of_mem_drop hx)
variable {ok:Bool}
theorem BD(C:ap)   (h:(ok || (C.e != 0))=true) : C.need ok x=C:=by
  unfold ap.need
  rw[if_neg]
  rintro⟨h1,rfl⟩
  rw[h1] at h
  cases h
theorem Bw(C:ap)   (h:(ok || (C.e != 0))=false) : C.need ok x = { C with e:=x }:=by
  simp only[Bool.or_eq_false_iff,bne_eq_false_iff_eq] at h
  unfold ap.need
  rw[if_pos ⟨h.2,h.1⟩]
def Ck (w0:World)(m:Md)(A:Option Addr)(cp:Nat)(full:List Int)(g:Nat)(C:ap)(w:World)(e:Ending)(w':World) : Prop:=e = .returned (.tuple #[])∧RC w0 m A cp full w' g C∧aI [g] w w'
theorem bf(ok:Bool)(x:Int)(hC:RC w0 m A cp full w g C) :
    Calls Tryz.prog 168 #[vP g 0,.bool ok,vI x] w (Ck w0 m A cp full g (C.need ok x) w):=by
 obtain⟨hsrc,hU,hnew,⟨k,hB,hk,hl⟩,hlen⟩:=hC
 refine en 18 Tryz.func168 rfl<|sq<|aq 2<|cu 6 [7] 13 ((ok || (C.e != 0))) (fun K c=>?_) ?_
 refine bl 7 (ok) (fun b=>?_) (fun b=>?_)
 exact Pl 6<|ce c true (by rw[b];rfl)
 exact Pl 3<|L1<|dQ hB 3<|Pl 2<|ce c (C.e != 0) (by rw[b];rfl)
 refine nt<|cb ((ok || (C.e != 0))) (fun a=>?_) (fun a=>?_)
 refine b6<|rr (.tuple #[])<|?_
 rw[BD C a]
 exact⟨rfl,⟨hsrc,hU.trans' (aI.mono (S':=[g]) (aI.refl [] _) aD) (fun x hx=>.inr (by simp at hx;subst hx;exact hnew)),hnew,⟨k,hB,hk,hl⟩,hlen⟩,(aI.mono (S':=[g]) (aI.refl [] _) aD)⟩
 have i:=(bL a).1
 have f:=(bL a).2
 have j:=aF f
 refine bu<|go<|Pl 4<|L0<|bY hB 3 #[.slice A full.length cp,vI (k:Int),.bool C.sh,vI x] fun l h d=>nl<|rm (.tuple #[])<|?_
 rw[Bw C a]
 exact⟨rfl,⟨hsrc,hU.trans' d (fun x hx=>.inr (by simp at hx;subst hx;exact hnew)),hnew,⟨k,h,hk,hl⟩,hlen⟩,d⟩
theorem kA(hk:k≤full.length)(hl:C.l=full.drop k) : C.fails n=((C.sh || decide (n<0))||decide ((((full.length:Nat) : Int)-((k:Nat) : Int))<n)):=by
  unfold ap.fails
  rw[hl,List.length_drop,show((full.length-k:Nat) : Int)=((full.length:Nat) : Int)-((k:Nat) : Int) by omega]
def BS (w0:World)(m:Md)(A:Option Addr)(cp:Nat)(full:List Int)(g:Nat)(C:ap)(n:Int)(w:World)(e:Ending)(w':World) : Prop:=∃ A2 n2 c2,e = .returned (.slice A2 n2 c2)∧(∀ m' w'',aV m' w'' (.slice A full.length cp) full→aV m' w'' (.slice A2 n2 c2) (C.bytesR n))∧RC w0 m A cp full w' g (C.bytesC n)∧aI [g] w w'
theorem AU{l:List Int}{a b:Nat}(hl:l=full.drop k)(h:b=k+a) : l.drop a=full.drop b:=by
  rw[hl,List.drop_drop,h]
theorem tp(hk:k≤full.length)(hl:C.l=full.drop k)(hf:C.fails n=false)(a b:Nat)(ha:(a:Int)=k)(hb:(b:Int)=(k:Int)+n) : (full.take b).drop a=C.bytesR n:=by
  obtain rfl:a=k:=by omega
  unfold ap.bytesR
  rw[hf,hl,List.drop_take]
  show _=(full.drop a).take n.toNat
  rw[show b-a=n.toNat by omega]
theorem t8(hn : -1048576≤n∧n≤2097152)(hC:RC w0 m A cp full w g C) :
    Calls Tryz.prog 169 #[vP g 0,vI n] w (BS w0 m A cp full g C n w):=by
 obtain⟨hsrc,hU,hnew,⟨k,hB,hk,hl⟩,hlen⟩:=hC
 have hcp:full.length≤cp:=by obtain⟨_,_,hv,h1,_⟩:=aT.shape hsrc;injection hv with _ _ h3;omega
 refine en 64 Tryz.func169 rfl<|aB 1<|sq<|sq<|Rg 22 (fun w'=>w'.cell? ⟨g,2,none⟩=some (.bool C.sh)∧w'.cell? ⟨g,0,none⟩=some (.slice A full.length cp)∧w'.cell? ⟨g,1,none⟩=some (vI (k:Int))) fun a4 i=>?_
 have d:=ub i hB
 refine bv ⟨(ae d rfl),(ae d rfl),(ae d rfl)⟩ fun a=>Rt 0 a<|Rt 1 a<|Rt 2 a<|Rl 3 a (fun _ hs=>hs.1)<|Rt 4 a<|wc 9 (C.sh) (fun j=>?_) (fun j=>?_)
 refine Ro 5 a<|Ro 6 a<|Rt 7 a<|Rt 8 a<|Ro 9 a<|Ro 10 a<|Ro 11 a<|Ro 12 a<|Ro 13 a<|Ro 14 a<|Ro 15 a<|Ro 16 a<|Ro 17 a<|Ro 18 a<|Ro 19 a<|Ro 20 a<|Rt 21 a<|re<|tn<|c1<|aq 3<|L0<|bY d 2 #[.slice A full.length cp,vI (k:Int),.bool true,vI C.e] fun a5 q D=>aL 4<|aC q 0<|Pl 3<|L0<|bY q 1 #[.slice A full.length cp,vI (full.length:Int),.bool true,vI C.e] fun E F G=>aL 1<|?_
 have r:=u1 (u1 (aI.mono (S':=[g]) i aD) D im) G im
 have H:RC w0 m A cp full E g { C with l:=[],sh:=true }:=⟨hsrc,hU.trans' r (fun x hx=>.inr (by simp at hx;subst hx;exact hnew)),hnew,⟨full.length,F,Nat.le_refl _,List.drop_length.symm⟩,hlen⟩
 refine ay<|m2 (bf false 2 H) fun a6 I J=>dk 1<|b6<|rr nS<|?_
 have hf:C.fails n=true:=by rw[kA (n:=n) hk hl,j];rfl
 have e1:C.bytesR n=[]:=by unfold ap.bytesR;rw[hf];rfl
 have e2:C.bytesC n=ap.need { C with l:=[],sh:=true } false 2:=by unfold ap.bytesC;rw[hf];rfl
 exact⟨none,0,0,rfl,fun _ _ _=>by rw[e1];exact aT.nil ..,by rw[e2];exact I,(u1 r J im)⟩
 refine Rt 5 a<|Rt 6 a<|Rt 7 a<|Rt 8 a<|wc 13 ((decide (n<0))) (fun f=>?_) (fun f=>?_)
 have K:=of_decide_eq_true f
 refine Ro 9 a<|Ro 10 a<|Ro 11 a<|Ro 12 a<|Ro 13 a<|Ro 14 a<|Ro 15 a<|Ro 16 a<|Ro 17 a<|Ro 18 a<|Ro 19 a<|Ro 20 a<|Rt 21 a<|re<|tn<|c1<|aq 3<|L0<|bY d 2 #[.slice A full.length cp,vI (k:Int),.bool true,vI C.e] fun a7 s L=>aL 4<|aC s 0<|Pl 3<|L0<|bY s 1 #[.slice A full.length cp,vI (full.length:Int),.bool true,vI C.e] fun M N O=>?_
 refine aL 1<|?_
 have t:=u1 (u1 (aI.mono (S':=[g]) i aD) L im) O im
 have Q:RC w0 m A cp full M g { C with l:=[],sh:=true }:=⟨hsrc,hU.trans' t (fun x hx=>.inr (by simp at hx;subst hx;exact hnew)),hnew,⟨full.length,N,Nat.le_refl _,List.drop_length.symm⟩,hlen⟩
 refine ay<|m2 (bf false 2 Q) fun a8 R S=>dk 1<|b6<|rr nS<|?_
 have hf:C.fails n=true:=by rw[kA (n:=n) hk hl,j,f];rfl
 have e1:C.bytesR n=[]:=by unfold ap.bytesR;rw[hf];rfl
 have e2:C.bytesC n=ap.need { C with l:=[],sh:=true } false 2:=by unfold ap.bytesC;rw[hf];rfl
 exact⟨none,0,0,rfl,fun _ _ _=>by rw[e1];exact aT.nil ..,by rw[e2];exact R,(u1 t S im)⟩
 have K:=of_decide_eq_false f
 refine Rt 9 a<|Rt 10 a<|Rt 11 a<|Rt 12 a<|Rl 13 a (fun _ hs=>hs.2.1)<|Rt 14 a<|Rt 15 a<|Rt 16 a<|Rt 17 a<|Rl 18 a (fun _ hs=>hs.2.2)<|Rr 19 a (vI ((full.length:Int)-(k:Int))) (fun _ _=>bO (vI (IntKind.i64.wrap ((full.length:Int)-(k:Int)))) (by kernel_rfl) (congrArg (Value.int .i64) (IntWalk.i64_in _ (by omega))))<|Rt 20 a<|Rt 21 a<|re<|tn<|cb ((decide (((full.length:Int)-(k:Int))<n))) (fun o=>?_) (fun o=>?_)
 have T:=of_decide_eq_true o
 refine aq 3<|L0<|bY d 2 #[.slice A full.length cp,vI (k:Int),.bool true,vI C.e] fun a9 u U=>aL 4<|aC u 0<|Pl 3<|L0<|bY u 1 #[.slice A full.length cp,vI (full.length:Int),.bool true,vI C.e] fun V W X=>nt<|aq 1<|?_
 have v:=u1 (u1 (aI.mono (S':=[g]) i aD) U im) X im
 have Y:RC w0 m A cp full V g { C with l:=[],sh:=true }:=⟨hsrc,hU.trans' v (fun x hx=>.inr (by simp at hx;subst hx;exact hnew)),hnew,⟨full.length,W,Nat.le_refl _,List.drop_length.symm⟩,hlen⟩
 refine ay<|m2 (bf false 2 Y) fun aa Z a0=>dk 1<|b6<|rr nS<|?_
 have hf:C.fails n=true:=by rw[kA (n:=n) hk hl,j,f,o];rfl
 have e1:C.bytesR n=[]:=by unfold ap.bytesR;rw[hf];rfl
 have e2:C.bytesC n=ap.need { C with l:=[],sh:=true } false 2:=by unfold ap.bytesC;rw[hf];rfl
 exact⟨none,0,0,rfl,fun _ _ _=>by rw[e1];exact aT.nil ..,by rw[e2];exact Z,(u1 v a0 im)⟩
 have T:=of_decide_eq_false o
 refine bu<|aq 4<|aC d 1<|Pl 1<|bp ((k:Int)+n)<|Pl 2<|L0<|bY d 1 #[.slice A full.length cp,vI ((k:Int)+n),.bool C.sh,vI C.e] fun ab a1 a2=>nt<|sq<|Rg 16 (fun w'=>w'.cell? ⟨g,0,none⟩=some (.slice A full.length cp)∧w'.cell? ⟨g,1,none⟩=some (vI ((k:Int)+n))) fun ac y=>?_
 have p:=ub y a1
 refine bv ⟨(ae p rfl),(ae p rfl)⟩ fun b=>Rt 0 b<|Rt 1 b<|Rt 2 b<|Rl 3 b (fun _ hs=>hs.1)<|Rt 4 b<|Rt 5 b<|Rt 6 b<|Rl 7 b (fun _ hs=>hs.2)<|Rt 8 b<|Rr 9 b (vI (((k:Int)+n)-n)) (fun _ _=>bO (vI (IntKind.i64.wrap (((k:Int)+n)-n))) (by kernel_rfl) (congrArg (Value.int .i64) (IntWalk.i64_in _ (by omega))))<|Rt 10 b<|Rt 11 b<|Rt 12 b<|Rl 13 b (fun _ hs=>hs.2)<|ny (gl (P:=Tryz.prog) 27 5 1 Tryz.underlying27 rfl rfl A full.length cp (lo:=(((k:Int)+n)-n)) (up:=((k:Int)+n)) (((((k:Int)+n)-n)).toNat) ((((k:Int)+n)).toNat) (by omega) (by omega) (by omega) (by omega) (by omega)) fun z hrun69 a3=>Rr 14 b (.slice z (((((k:Int)+n)).toNat)-(((((k:Int)+n)-n)).toNat)) (cp-(((((k:Int)+n)-n)).toNat))) (fun _ _=>eW (kl:=.i64) (kh:=.i64) (lo:=(((k:Int)+n)-n)) (hi:=((k:Int)+n)) (A:=A) (n:=full.length) (c:=cp) rfl Tryz.underlying27 (by kernel_rfl) (by kernel_rfl) (by kernel_rfl) (hrun69 _ _ _))<|Rt 15 b<|re<|tn<|rt<|rr (.slice z (((((k:Int)+n)).toNat)-(((((k:Int)+n)-n)).toNat)) (cp-(((((k:Int)+n)-n)).toNat)))<|?_
 have hf:C.fails n=false:=by rw[kA (n:=n) hk hl,j,f,o];rfl
 have B:=aJ (u1 (aI.mono (S':=[g]) i aD) a2 im) y
 have e2:C.bytesC n = { C with l:=C.l.drop n.toNat }:=by unfold ap.bytesC;rw[hf];rfl
 exact⟨_,_,_,rfl,fun m' w'' h=>by have:=a3 m' _ _ w'' full h;rw[tp hk hl hf _ _ (by omega) (by omega)] at this;exact this,by rw[e2];exact⟨hsrc,hU.trans' B (fun x hx=>.inr (by simp at hx;subst hx;exact hnew)),hnew,⟨((k:Int)+n).toNat,(by unfold F3;rw[show(((((k:Int)+n).toNat:Nat) : Int))=(k:Int)+n by omega];exact p),by omega,AU hl (by omega)⟩,hlen⟩,B⟩
def BO (w0:World)(m:Md)(A:Option Addr)(cp:Nat)(full:List Int)(g:Nat)(C:ap)(n:Int)(w:World)(e:Ending)(w':World) : Prop:=∃ A2 c2,e = .returned (.slice A2 (C.bytesR n).length c2)∧(∀ m' w'',aV m' w'' (.slice A full.length cp) full→aV m' w'' (.slice A2 (C.bytesR n).length c2) (C.bytesR n))∧RC w0 m A cp full w' g (C.bytesC n)∧aI [g] w w'
theorem gA(hn : -1048576≤n∧n≤2097152)(hC:RC w0 m A cp full w g C) : Calls Tryz.prog 169 #[.pointer (some ⟨g,0,none⟩),.int .i64 n] w (BO w0 m A cp full g C n w):=by
  refine(t8 hn hC).mono ?_
  rintro e w' ⟨A2,n2,c2,rfl,h1,h2,h3⟩
  obtain⟨_,_,hv,_⟩:=aT.shape (h1 m w0 hC.src)
  injection hv with _ e2 _
  subst e2
  exact⟨A2,c2,rfl,h1,h2,h3⟩
theorem BJ(hk:k≤full.length)(hl:C.l=full.drop k) : ((full.length:Nat) : Int)-((k:Nat) : Int)=((C.l.length:Nat) : Int):=by
  rw[hl,List.length_drop]
  omega
theorem jT(hC:RC w0 m A cp full w g C) :
    Calls Tryz.prog 177 #[vP g 0] w (bS (vI (C.l.length:Int)) w):=by
 obtain⟨hsrc,hU,hnew,⟨k,hB,hk,hl⟩,hlen⟩:=hC
 have hcp:full.length≤1048576:=hlen
 refine en 13 Tryz.func177 rfl<|aB 1<|sq<|Rg 11 (fun w'=>w'.cell? ⟨g,0,none⟩=some (.slice A full.length cp)∧w'.cell? ⟨g,1,none⟩=some (vI (k:Int))) fun d b=>?_
 have c:=ub b hB
 refine bv ⟨(ae c rfl),(ae c rfl)⟩ fun a=>Rt 0 a<|Rt 1 a<|Rt 2 a<|Rl 3 a (fun _ hs=>hs.1)<|Rt 4 a<|Rt 5 a<|Rt 6 a<|Rt 7 a<|Rl 8 a (fun _ hs=>hs.2)<|Rr 9 a (vI ((full.length:Int)-(k:Int))) (fun _ _=>bO (vI (IntKind.i64.wrap ((full.length:Int)-(k:Int)))) (by kernel_rfl) (congrArg (Value.int .i64) (IntWalk.i64_in _ (by omega))))<|Rt 10 a<|re<|tn<|rt<|rr (vI ((full.length:Int)-(k:Int)))<|?_
 rw[BJ hk hl]
 exact⟨rfl,b⟩
theorem oa(hC:RC w0 m A cp full w g C) :
    Calls Tryz.prog 173 #[vP g 0] w (Ck w0 m A cp full g C.endC w):=by
 refine en 7 Tryz.func173 rfl<|go<|Pl 2<|ay<|m1 (jT hC) fun e a=>?_
 have b:=RC.upd hC a aE (aI.step (RC.u hC) a)
 refine Pl 1<|ay<|m2 (bf (((C.l.length:Int)==0)) 3 b) fun f c d=>nl<|rm (.tuple #[])<|?_
 exact⟨rfl,c,(u1 (aI.mono (S':=[g]) a aD) d im)⟩
theorem RC.clen(h:RC w0 m A cp full w g C) : C.l.length≤1048576:=by
  obtain⟨k,_,_,h2⟩:=h.cell
  have:=h.len
  rw[h2,List.length_drop]
  omega
theorem vU(h:((((C.bytesR 1).length:Nat) : Int)==0)=true) : C.byteV=0:=by
  have hz:C.bytesR 1=[]:=List.eq_nil_of_length_eq_zero (by have:=ag h;omega)
  unfold ap.byteV
  rw[hz]
  rfl
def tb (w0:World)(m:Md)(A:Option Addr)(cp:Nat)(full:List Int)(g:Nat)(q:IntKind)(M x:Int)(C:ap)(w:World)(e:Ending)(w':World) : Prop:=e = .returned (.int q x)∧RC w0 m A cp full w' g C∧aI [g] w w'∧0≤x∧x<M
theorem eK(hC:RC w0 m A cp full w g C) :
    Calls Tryz.prog 167 #[vP g 0] w (tb w0 m A cp full g .u8 256 C.byteV (C.bytesC 1) w):=by
 refine en 12 Tryz.func167 rfl<|aq 1<|aL 1<|ay<|sW (gA (n:=1) (by omega) hC) fun k l o d b c=>?_
 have q:=Nat.le_trans (ap.bytesR_le C 1) (RC.clen hC)
 refine ah 1<|sq<|aB 3<|cb ((((C.bytesR 1).length:Int)==0)) (fun a=>?_) (fun a=>?_)
 have e:=ag a
 exact aB 1<|b6<|rr (vB 0)<|⟨by rw[vU a],b,c,pj (RC.rng hC)⟩
 have e:=ai a
 exact bu<|aq 1<|fo (aV.at_ (d _ _ (RC.rd b)) 0 (by omega)) fun f h i j r=>L0<|lc ((C.bytesR 1).length) 0 i (by omega)<|L0<|fR (p:=⟨f,h+0,none⟩) (v:=vB ((C.bytesR 1).getD 0 0)) j<|ah 1<|rt<|rr (vB ((C.bytesR 1).getD 0 0))<|⟨rfl,b,c,pj (RC.rng hC)⟩
theorem xr(hk:k≤full.length)(hl:C.l=full.drop k)(h:(decide (n<0)||decide (((full.length:Nat) : Int)<n))=true) : C.wordsR n=cw (C.bytesR (-1))∧C.wordsC n=C.bytesC (-1):=by
  have hb:C.wbad n=true:=by
    unfold ap.wbad
    simp only[Bool.or_eq_true,decide_eq_true_eq] at h ⊢
    rw[hl,List.length_drop]
    omega
  have hf:C.fails (-1)=true:=by
    unfold ap.fails
    simp
  constructor
  · unfold ap.wordsR ap.bytesR
    rw[hb,hf]
    rfl
  · unfold ap.wordsC
    rw[hb]
    rfl
theorem yG(hk:k≤full.length)(hl:C.l=full.drop k)(h:(decide (n<0)||decide (((full.length:Nat) : Int)<n))=false) : C.wordsR n=cw (C.bytesR (n+n))∧C.wordsC n=C.bytesC (n+n):=by
  simp only[Bool.or_eq_false_iff,decide_eq_false_iff_not] at h
  by_cases hw:((C.l.length:Int)<n)
  · have hb:C.wbad n=true:=by
      unfold ap.wbad
      simp only[Bool.or_eq_true,decide_eq_true_eq]
      omega
    have hf:C.fails (-1)=true:=by
      unfold ap.fails
      simp
    have hf2:C.fails (n+n)=true:=by
      unfold ap.fails
      simp only[Bool.or_eq_true,decide_eq_true_eq]
      omega
    constructor
    · unfold ap.wordsR ap.bytesR
      rw[hb,hf2]
      rfl
    · unfold ap.wordsC
      rw[hb]
      unfold ap.bytesC
      rw[hf2,hf]
      rfl
  · have hb:C.wbad n=false:=by
      unfold ap.wbad
      simp only[Bool.or_eq_false_iff,decide_eq_false_iff_not]
      omega
    constructor
    · unfold ap.wordsR
      rw[hb,show 2*n=n+n by omega]
      rfl
    · unfold ap.wordsC
      rw[hb,show 2*n=n+n by omega]
      rfl
def Bv (w0:World)(m:Md)(A:Option Addr)(cp:Nat)(full:List Int)(g:Nat)(C:ap)(n:Int)(w:World)(e:Ending)(w':World) : Prop:=∃ v,e = .returned v∧m8 w.heap.size w' v (C.wordsR n)∧RC w0 m A cp full w' g (C.wordsC n)∧aI [g] w w'
theorem i4(hn : -1048576≤n∧n≤1048576)(hC:RC w0 m A cp full w g C) :
    Calls Tryz.prog 174 #[vP g 0,vI n] w (Bv w0 m A cp full g C n w):=by
 have hC0:=hC
 obtain⟨hsrc,hU,hnew,⟨k,hB,hk,hl⟩,hlen⟩:=hC0
 refine en 25 Tryz.func174 rfl<|aB 1<|sq<|aq 3<|cu 8 [7] 15 (((decide (n<0))||(decide ((full.length:Int)<n)))) (fun K h=>?_) ?_
 refine bl 7 ((decide (n<0))) (fun a=>?_) (fun a=>?_)
 have l:=of_decide_eq_true a
 exact Pl 8<|ce h true (by rw[a];rfl)
 have l:=of_decide_eq_false a
 exact Pl 4<|L1<|dQ hB 0<|Pl 3<|ce h (decide ((full.length:Int)<n)) (by rw[a];rfl)
 refine nt<|cb (((decide (n<0))||(decide ((full.length:Int)<n)))) (fun b=>?_) (fun b=>?_)
 refine aq 1<|?_
 have o:=RC.upd hC (aI.refl [] _) aE (aI.step hC.u (aI.refl [] _))
 refine ay<|sW (gA (n:=-1) (by omega) o) fun E F G p c i=>?_
 have H:=Nat.le_trans (ap.bytesR_le C (-1)) (RC.clen hC)
 refine ay<|dU (C8 (p _ _ (RC.rd c)) (by omega)) fun q r I s J L d=>ah 1<|b6<|rr (.slice q ((cw (C.bytesR (-1))).length) r)<|?_
 have hw:=xr hk hl b
 exact⟨_,rfl,by rw[hw.1];exact(aZ.weaken s i.size),by rw[hw.2];exact(RC.upd c d aE (aI.step (RC.u c) d)),(aJ i d)⟩
 have t:=(bL b).1
 have v:=(bL b).2
 have M:=of_decide_eq_false t
 have N:=of_decide_eq_false v
 refine bu<|aq 3<|bp (n+n)<|?_
 have x:=RC.upd hC (aI.refl [] _) aE (aI.step hC.u (aI.refl [] _))
 refine ay<|sW (gA (n:=(n+n)) (by omega) x) fun O P Q y e j=>?_
 have R:=Nat.le_trans (ap.bytesR_le C (n+n)) (RC.clen hC)
 refine ay<|dU (C8 (y _ _ (RC.rd e)) (by omega)) fun z B S D T U f=>ah 1<|rt<|rr (.slice z ((cw (C.bytesR (n+n))).length) B)<|?_
 have hw:=yG hk hl b
 exact⟨_,rfl,by rw[hw.1];exact(aZ.weaken D j.size),by rw[hw.2];exact(RC.upd e f aE (aI.step (RC.u e) f)),(aJ j f)⟩
theorem wB(h:((((C.wordsR 1).length:Nat) : Int)==0)=true) : C.wordV=0:=by
  have hz:C.wordsR 1=[]:=List.eq_nil_of_length_eq_zero (by have:=ag h;omega)
  unfold ap.wordV
  rw[hz]
  rfl
theorem d7(hC:RC w0 m A cp full w g C) :
    Calls Tryz.prog 170 #[vP g 0] w (tb w0 m A cp full g .u16 65536 C.wordV (C.wordsC 1) w):=by
 refine en 12 Tryz.func170 rfl<|aq 1<|aL 1<|ay<|qk (i4 (n:=1) (by omega) hC) fun k l o d q r b c=>ah 1<|sq<|aB 3<|cb ((((C.wordsR 1).length:Int)==0)) (fun a=>?_) (fun a=>?_)
 have e:=ag a
 exact aB 1<|b6<|rr (vW 0)<|⟨by rw[wB a],b,c,bN (RC.rng hC)⟩
 have e:=ai a
 exact bu<|aq 1<|fo (eF.at_ (d).rd 0 (by omega)) fun f h i j s=>L0<|lc ((C.wordsR 1).length) 0 i (by omega)<|L0<|fR (p:=⟨f,h+0,none⟩) (v:=vW ((C.wordsR 1).getD 0 0)) j<|ah 1<|rt<|rr (vW ((C.wordsR 1).getD 0 0))<|⟨rfl,b,c,bN (RC.rng hC)⟩
theorem gM{G:Prop}(h:RC w0 m A cp full w g C)(k:∀ x,C=x→RC w0 m A cp full w g x→G) : G:=k C rfl h
open Go.RowKit
theorem vL(hx:0≤x∧x<65536) : fa x=((decide (x≤4)||(decide (10≤x)&&decide (x≤18)))||x==20):=by
  unfold fa
  rw[Bool.eq_iff_iff]
  simp only[decide_eq_true_eq,List.mem_cons,List.not_mem_nil,or_false,Bool.or_eq_true,Bool.and_eq_true,beq_iff_eq]
  omega
theorem o5(hx:0≤x∧x<256) : cU x=((((decide (1≤x)&&decide (x≤6))||x==8)||x==10)||x==11):=by
  unfold cU
  rw[Bool.eq_iff_iff]
  simp only[decide_eq_true_eq,List.mem_cons,List.not_mem_nil,or_false,Bool.or_eq_true,Bool.and_eq_true,beq_iff_eq]
  omega
theorem DL(hx:0≤x∧x<65536) : Calls Tryz.prog 176 #[vW x] w (bS (.bool (fa x)) w):=by
 refine en 17 Tryz.func176 rfl<|aq 1<|aL 3<|cu 7 [5] 12 (((decide (x≤4))||((decide (10≤x))&&(decide (x≤18))))) (fun K d=>?_) ?_
 refine bl 5 ((decide (x≤4))) (fun a=>?_) (fun a=>?_)
 have g:=of_decide_eq_true a
 exact Pl 7<|ce d true (by rw[a];rfl)
 have g:=of_decide_eq_false a
 refine Pl 3<|cu 3 [8] 11 (((decide (10≤x))&&(decide (x≤18)))) (fun K e=>?_) ?_
 refine bl 8 ((decide (10≤x))) (fun b=>?_) (fun b=>?_)
 have h:=of_decide_eq_true b
 exact Pl 3<|ce e (decide (x≤18)) (by rw[b];rfl)
 have h:=of_decide_eq_false b
 exact Pl 3<|ce e false (by rw[b];rfl)
 exact Pl 1<|ce d ((decide (10≤x))&&(decide (x≤18))) (by rw[a];rfl)
 refine Pl 1<|cu 3 [13] 16 ((((decide (x≤4))||((decide (10≤x))&&(decide (x≤18))))||(x==20))) (fun K f=>?_) ?_
 refine bl 13 (((decide (x≤4))||((decide (10≤x))&&(decide (x≤18))))) (fun c=>?_) (fun c=>?_)
 exact Pl 3<|ce f true (by rw[c];rfl)
 exact Pl 3<|ce f (x==20) (by rw[c];rfl)
 refine ah 1<|rt<|rr (.bool (((decide (x≤4))||((decide (10≤x))&&(decide (x≤18))))||(x==20)))<|?_
 rw[vL hx]
 have hs:((decide (x≤4)||(decide (10≤x)&&decide (x≤18)))||x==20)=(((decide (x≤4))||((decide (10≤x))&&(decide (x≤18))))||(x==20)):=by(try simp only[Bool.true_or,Bool.false_or,Bool.true_and,Bool.false_and,Bool.or_true,Bool.or_false]);all_goals rfl
 rw[hs]
 exact⟨rfl,(aI.refl [] _)⟩
theorem zx(hx:0≤x∧x<256) : Calls Tryz.prog 165 #[vB x] w (bS (.bool (cU x)) w):=by
 refine en 21 Tryz.func165 rfl<|aq 1<|aL 3<|cu 3 [5] 8 (((decide (1≤x))&&(decide (x≤6)))) (fun K e=>?_) ?_
 refine bl 5 ((decide (1≤x))) (fun a=>?_) (fun a=>?_)
 have i:=of_decide_eq_true a
 exact Pl 3<|ce e (decide (x≤6)) (by rw[a];rfl)
 have i:=of_decide_eq_false a
 exact Pl 3<|ce e false (by rw[a];rfl)
 refine Pl 1<|cu 3 [9] 12 ((((decide (1≤x))&&(decide (x≤6)))||(x==8))) (fun K f=>?_) ?_
 refine bl 9 (((decide (1≤x))&&(decide (x≤6)))) (fun b=>?_) (fun b=>?_)
 exact Pl 3<|ce f true (by rw[b];rfl)
 exact Pl 3<|ce f (x==8) (by rw[b];rfl)
 refine Pl 1<|cu 3 [13] 16 (((((decide (1≤x))&&(decide (x≤6)))||(x==8))||(x==10))) (fun K g=>?_) ?_
 refine bl 13 ((((decide (1≤x))&&(decide (x≤6)))||(x==8))) (fun c=>?_) (fun c=>?_)
 exact Pl 3<|ce g true (by rw[c];rfl)
 exact Pl 3<|ce g (x==10) (by rw[c];rfl)
 refine Pl 1<|cu 3 [17] 20 ((((((decide (1≤x))&&(decide (x≤6)))||(x==8))||(x==10))||(x==11))) (fun K h=>?_) ?_
 refine bl 17 (((((decide (1≤x))&&(decide (x≤6)))||(x==8))||(x==10))) (fun d=>?_) (fun d=>?_)
 exact Pl 3<|ce h true (by rw[d];rfl)
 exact Pl 3<|ce h (x==11) (by rw[d];rfl)
 refine ah 1<|rt<|rr (.bool (((((decide (1≤x))&&(decide (x≤6)))||(x==8))||(x==10))||(x==11)))<|?_
 rw[o5 hx]
 have hs:((((decide (1≤x)&&decide (x≤6))||x==8)||x==10)||x==11)=(((((decide (1≤x))&&(decide (x≤6)))||(x==8))||(x==10))||(x==11)):=by(try simp only[Bool.true_or,Bool.false_or,Bool.true_and,Bool.false_and,Bool.or_true,Bool.or_false]);all_goals rfl
 rw[hs]
 exact⟨rfl,(aI.refl [] _)⟩
theorem jD{sub v:Int}:hY dir sub v=if sub==1 then (v==0 || v==65280) else if sub==3 then v%256==0 else if dir==1&&(sub==2 || (decide (11≤sub)&&decide (sub≤18))) then true else v==0:=by
  unfold hY
  by_cases h1:sub=1
  · subst h1
    rfl
  by_cases h3:sub=3
  · subst h3
    rfl
  have e1:(sub==1)=false:=by simpa using h1
  have e3:(sub==3)=false:=by simpa using h3
  rw[e1,e3,Bool.and_comm]
  rfl
theorem Dz{sub v:Int}  (hv:0≤v∧v<65536) : Calls Tryz.prog 178 #[vI dir,vW sub,vW v] w (bS (.bool (hY dir sub v)) w):=by
 refine en 39 Tryz.func178 rfl<|aB 1<|sq<|bk<|aB 3<|cb ((sub==1)) (fun a=>?_) (fun a=>?_)
 have l:=ag a
 refine aq 3<|cu 3 [12] 15 (((v==0)||(v==65280))) (fun K h=>?_) ?_
 refine bl 12 ((v==0)) (fun c=>?_) (fun c=>?_)
 have m:=ag c
 exact Pl 3<|ce h true (by rw[c];rfl)
 have m:=ai c
 exact Pl 3<|ce h (v==65280) (by rw[c];rfl)
 refine ah 1<|rt<|br<|tr<|rr (.bool ((v==0)||(v==65280)))<|?_
 have hs:hY dir sub v=((v==0)||(v==65280)):=by
   rw[jD]
   (try simp only[a,bi,reduceIte])
   all_goals rfl
 rw[hs]
 exact⟨rfl,(aI.refl [] _)⟩
 have l:=ai a
 refine aB 3<|cb ((sub==3)) (fun b=>?_) (fun b=>?_)
 have n:=ag b
 refine aq 1<|L0<|Oe (vW (Int.tmod v 256)) (vW (v%256)) (congrArg (Value.int .u16) (Int.tmod_eq_emod_of_nonneg (by omega)))<|ah 2<|rt<|br<|tr<|rr (.bool ((v%256)==0))<|?_
 have hs:hY dir sub v=((v%256)==0):=by
   rw[jD]
   (try simp only[a,b,bi,reduceIte])
   all_goals rfl
 rw[hs]
 exact⟨rfl,(aI.refl [] _)⟩
 have n:=ai b
 refine aq 3<|cu 11 [25] 36 (((dir==1)&&((sub==2)||((decide (11≤sub))&&(decide (sub≤18)))))) (fun K i=>?_) ?_
 refine bl 25 ((dir==1)) (fun d=>?_) (fun d=>?_)
 have o:=ag d
 refine Pl 3<|cu 7 [28] 35 (((sub==2)||((decide (11≤sub))&&(decide (sub≤18))))) (fun K j=>?_) ?_
 refine bl 28 ((sub==2)) (fun e=>?_) (fun e=>?_)
 have p:=ag e
 exact Pl 7<|ce j true (by rw[e];rfl)
 have p:=ai e
 refine Pl 3<|cu 3 [31] 34 (((decide (11≤sub))&&(decide (sub≤18)))) (fun K k=>?_) ?_
 refine bl 31 ((decide (11≤sub))) (fun f=>?_) (fun f=>?_)
 have q:=of_decide_eq_true f
 exact Pl 3<|ce k (decide (sub≤18)) (by rw[f];rfl)
 have q:=of_decide_eq_false f
 exact Pl 3<|ce k false (by rw[f];rfl)
 exact Pl 1<|ce j ((decide (11≤sub))&&(decide (sub≤18))) (by rw[e];rfl)
 exact Pl 1<|ce i ((sub==2)||((decide (11≤sub))&&(decide (sub≤18)))) (by rw[d];rfl)
 have o:=ai d
 exact Pl 11<|ce i false (by rw[d];rfl)
 refine ah 1<|cb (((dir==1)&&((sub==2)||((decide (11≤sub))&&(decide (sub≤18)))))) (fun g=>?_) (fun g=>?_)
 have r:=(b7 g).1
 have s:=(b7 g).2
 refine aB 1<|rt<|br<|tr<|rr (.bool true)<|?_
 have hs:hY dir sub v=true:=by
   rw[jD]
   (try simp only[a,b,g,r,s,bi,reduceIte])
   all_goals rfl
 rw[hs]
 exact⟨rfl,(aI.refl [] _)⟩
 refine sk<|bn<|tn<|aB 3<|rt<|rr (.bool (v==0))<|?_
 have hs:hY dir sub v=(v==0):=by
   rw[jD]
   (try simp only[a,b,g,bi,reduceIte])
   all_goals rfl
 rw[hs]
 exact⟨rfl,(aI.refl [] _)⟩
open Go.RowKit
theorem RC.lt(h:RC w0 m A cp full w g C) : g<w.heap.size:=by
  obtain⟨k,h1,_⟩:=h.cell
  exact az h1
theorem RC.fld(h:RC w0 m A cp full w g C) : w.cell? ⟨g,3,none⟩=some (.int .i64 C.e):=by
  obtain⟨k,h1,_⟩:=h.cell
  rw[bD h1]
  rfl
theorem RC.safe(h:RC w0 m A cp full w g C)(D:List TypeId)(hD:194∉D) : dv true D [g] w:=by
  obtain⟨k,h1,_⟩:=h.cell
  exact dv.one h1 hD
theorem ya(h:(((c==3)||(c==4))||(c==23))=true) : aY 1 c C=some (cF c C):=by
  unfold aY
  by_cases h1:(c==3 || c==4)=true
  · rw[if_pos h1]
    rfl
  · rw[if_neg h1]
    have h2:c=23:=by
      simp only[Bool.or_eq_true,beq_iff_eq] at h h1
      omega
    subst h2
    rfl
theorem uF{m:Int}:((n%2==0&&decide (0<n))&&decide (n≤m))=jo n m:=by
  unfold jo
  rw[Bool.eq_iff_iff]
  simp only[Bool.and_eq_true,decide_eq_true_eq,beq_iff_eq]
  omega
theorem uY{k:Int}:(a==2*k+2)=(2+2*k==a):=by
  rw[Bool.eq_iff_iff]
  simp only[beq_iff_eq]
  omega
theorem fy:decide (0<x)=decide (1≤x):=by
  rw[Bool.eq_iff_iff]
  simp only[decide_eq_true_eq]
  omega
theorem nL{most:Int}(ha:0≤a∧a<65536)(hC:RC w0 m A cp full w g C) :
    Calls Tryz.prog 175 #[vP g 0,vW a,vI most] w (tb w0 m A cp full g .i64 65536 C.wordV (bI C a most) w):=by
 have hrng:=bN (RC.rng hC)
 refine en 26 Tryz.func175 rfl<|aq 1<|aL 1<|ay<|m3 (d7 hC) fun r f h s=>bp C.wordV<|ah 1<|aq 4<|cu 4 [14] 18 (((decide (0<C.wordV))&&(decide (C.wordV≤most)))) (fun K d=>?_) ?_
 refine bl 14 ((decide (0<C.wordV))) (fun b=>?_) (fun b=>?_)
 have i:=of_decide_eq_true b
 exact Pl 4<|ce d (decide (C.wordV≤most)) (by rw[b];rfl)
 have i:=of_decide_eq_false b
 exact Pl 4<|ce d false (by rw[b];rfl)
 refine ay<|m2 (bf (((decide (0<C.wordV))&&(decide (C.wordV≤most)))) 5 f) fun j k l=>?_
 refine gM k fun x19 o e=>?_
 refine aL 3<|ay<|m1 (uB (a:=a) (n:=C.wordV) (w:=j) (by omega) (by omega)) fun t c=>?_
 refine ay<|m2 (bf ((dY a C.wordV)) 7 (RC.upd e c aE (aI.step (RC.u e) c))) fun v p q=>dk 2<|rt<|rr (vI C.wordV)<|?_
 subst o
 have e1:bI C a most=((C.wordsC 1).need (decide (0<C.wordV)&&decide (C.wordV≤most)) 5).need (dY a C.wordV) 7:=by unfold bI;rw[← fy]
 rw[e1]
 exact⟨rfl,p,(u1 h (u1 l (uz c q) im) im),hrng⟩
theorem aT.upd0{α:Type}  {e:TypeId}{sz:Nat}{R R':World→α→List Value→Prop}   {xs:List α}(h:aT m e sz R w v xs)(hR:∀ x cs,R w x cs→R' w x cs) : aT m e sz R' w v xs:=by
  obtain⟨A,c,rfl,h1,h2,h0,h3⟩:=h
  refine⟨A,c,rfl,h1,h2,h0,fun hp=>?_⟩
  obtain⟨b,off,cells,t,fr,rfl,hb,ht,hx⟩:=h3 hp
  exact⟨b,off,cells,t,fr,rfl,hb,ht,fun j x hj=>by obtain⟨cs,hl,hr,hc⟩:=hx j x hj;exact⟨cs,hl,hR _ _ hr,hc⟩⟩
def rF (v0:Value)(b:List Int)(w:World)(o:Obj)(cs:List Value) : Prop:=∃ A n c,cs=[.int .u8 o.id,.slice A n c]∧(∀ m' w',aV m' w' v0 b→aV m' w' (.slice A n c) o.value)∧B8 o.id
variable {v0:Value}
theorem rF.ones(x:Obj)(cs:List Value)(h:rF v0 b w x cs) : ∀ v,v∈cs→v.oneCell'=true:=by
  obtain⟨A,n,c,rfl,h2,_⟩:=h
  intro u hu
  simp at hu
  rcases hu with rfl|rfl<;>rfl
def bG (v0:Value)(b:List Int)(w:World)(cs:List Value)(M:aS) : Prop :=
  ∃ vw vb vd vr vo,cs=ez M vw vb vd vr vo∧eF true w vw M.words∧jc true w vb M.bits∧(∀ m' w',aV m' w' v0 b→aV m' w' vd M.data)∧oA true w vr M.recs∧aT true 100 2 (rF v0 b) w vo M.objects∧g8 M
variable {M:aS}{cs:List Value}
theorem bG.rd(h:bG v0 b w cs M)(hb:aV m w v0 b) : aH false w cs M:=by
  obtain⟨vw,vb,vd,vr,vo,h0,h1,h2,h3,h4,h5,h6⟩:=h
  exact⟨vw,vb,vd,vr,vo,h0,aT.any h1 fun _ _ q=>q,aT.any h2 fun _ _ q=>q,aT.any (h3 _ _ hb) fun _ _ q=>q,aT.any h4 fun r cs ⟨v,a,b,c⟩=>⟨v,a,aT.any b fun _ _ q=>q,c⟩,aT.any h5 fun r cs ⟨A,n,k,a,b,c⟩=>⟨_,a,aT.any (b _ _ hb) fun _ _ q=>q,c⟩,h6⟩
theorem bG.rdt(h:bG v0 b w cs M)(hb:aV true w v0 b) : aH true w cs M:=by
  obtain⟨vw,vb,vd,vr,vo,h0,h1,h2,h3,h4,h5,h6⟩:=h
  exact⟨vw,vb,vd,vr,vo,h0,h1,h2,h3 _ _ hb,h4,aT.upd0 h5 fun r cs ⟨A,n,k,a,b,c⟩=>⟨_,a,b _ _ hb,c⟩,h6⟩
theorem bG.sub{v1:Value}{b1:List Int}    (h:bG v1 b1 w cs M)(hv:∀ m' w',aV m' w' v0 b→aV m' w' v1 b1) : bG v0 b w cs M:=by
  obtain⟨vw,vb,vd,vr,vo,h0,h1,h2,h3,h4,h5,h6⟩:=h
  exact⟨vw,vb,vd,vr,vo,h0,h1,h2,fun m' w' q=>h3 _ _ (hv _ _ q),h4,aT.upd0 h5 fun r cs ⟨A,n,k,a,b,c⟩=>⟨A,n,k,a,fun m' w' q=>b _ _ (hv _ _ q),c⟩,h6⟩
theorem bG.upd{w':World}   {S:List Nat}(h:bG v0 b w cs M)(hu:aI S w w')(hs:dv true pE S w) : bG v0 b w' cs M:=by
  obtain⟨vw,vb,vd,vr,vo,h0,h1,h2,h3,h4,h5,h6⟩:=h
  exact⟨vw,vb,vd,vr,vo,h0,eF.upd' h1 hu (hs.sub (by decide)),jc.upd' h2 hu (hs.sub (by decide)),h3,oA.upd' h4 hu hs,aT.upd h5 hu (hs.sub (by decide)) (fun _ _ q=>q),h6⟩
theorem bG.zero(v0:Value)(b:List Int)(w:World) : bG v0 b w oF.toList aS.zero:=by
  obtain⟨vw,vb,vd,vr,vo,h0,h1,h2,h3,h4,h5,h6⟩:=aH.zero true w
  exact⟨_,_,_,_,_,rfl,aT.nil ..,aT.nil ..,(fun _ _ _=>aT.nil ..),aT.nil ..,aT.nil ..,h6⟩
theorem bG.size{cs:Array Value}  (h:bG v0 b w cs.toList M) : cs.size=22:=by
  obtain⟨vw,vb,vd,vr,vo,h0,_⟩:=h
  rw[← Array.length_toList,h0]
  rfl
theorem bG.one{w2:World}  {cs:Array Value}  (h:bG v0 b w cs.toList M)(hb:aV m w2 v0 b) : cs.all (·.oneCell')=true:=by
  obtain⟨vw,vb,vd,vr,vo,h0,h1,h2,h3,h4,h5,h6⟩:=h
  rw[← Array.all_toList,h0]
  obtain⟨_,_,rfl,_⟩:=h1
  obtain⟨_,_,rfl,_⟩:=h2
  obtain⟨_,_,rfl,_⟩:=h3 _ _ hb
  obtain⟨_,_,rfl,_⟩:=h4
  obtain⟨_,_,rfl,_⟩:=h5
  rfl
def cN (v0:Value)(b:List Int)(res:aS × Int)(w:World)(e:Ending)(w':World) : Prop:=∃ cs,e = .returned (.tuple #[.agg cs,.int .i64 res.2])∧bG v0 b w' cs.toList res.1∧aI [] w w'
variable {W:World}
theorem dX{c:ap}  {cs:Array Value}(h0:c.endC.e=0)(h:bG v0 b W cs.toList M)(hu:aI [] w W) : cN v0 b (bC M c) w (.returned (.tuple #[.agg cs,.int .i64 0])) W:=by
  unfold bC
  rw[if_pos h0]
  exact⟨cs,rfl,h,hu⟩
theorem dD{c:ap}  (h0:¬ c.endC.e=0)(hu:aI [] w W) : cN v0 b (bC M c) w (.returned (.tuple #[.agg oF,.int .i64 c.endC.e])) W:=by
  unfold bC
  rw[if_neg h0]
  exact⟨oF,rfl,bG.zero ..,hu⟩
theorem bE(hu:aI [] w W) : cN v0 b (aS.zero,x) w (.returned (.tuple #[.agg oF,.int .i64 x])) W:=⟨oF,rfl,bG.zero ..,hu⟩
theorem oI(hcode:B8 c)(hsl:aV m w (.slice A b.length cp) b)(hb:b.length≤1048576) :
    Calls Tryz.prog 110 #[vI 0,vB c,.slice A b.length cp] w (cN (.slice A b.length cp) b (ak aY 0 c b) w):=by
 obtain⟨hcode1,hcode2⟩:=hcode
 have hln:(b.length:Int)≤1048576:=by omega
 refine en 221 Tryz.func110 rfl<|sg<|aK mZ fun ax dH V J d=>ah 1<|sq<|aB 6<|c0<|bu<|aq 2<|L0<|cY #[.slice A b.length cp,vI 0,.bool false,vI 0] fun q dI g r i=>Pl 1<|aL 2<|aK mZ fun L dJ f W co=>aG W (mC c) fun aH E X=>?_
 refine nt<|?_
 have aN:=ud co X f
 have N:=aJ i aN
 have l:=aJ d N
 have F:RC w _ A cp b aH q (ap.mk b false 0):=⟨hsl,l,(Nat.le_trans d.size g),⟨0,(ub aN r),Nat.zero_le _,rfl⟩,by omega⟩
 refine A7 (fun x=>[(6,vP ax 0),(8,vP q 0),(9,vP L 0)]) (fun(x:ap × Array Value × aS) w'=>aI [q,L] aH w'∧RC w m A cp b w' q x.1∧w'.heap[L]? = some (.cells x.2.1 45 (0,0))∧bG (.slice A b.length cp) b w' x.2.1.toList x.2.2∧(ak aY 0 c b=bC x.2.2 x.1)) ?_ ?_
 rintro⟨C,cs,M⟩ Y ⟨aP,cq,cr,ct,cv⟩
 refine gi [(6,vP ax 0),(8,vP q 0),(9,vP L 0)] ?_
 have aR:RC w m A cp b Y q C:=cq
 have cw:Y.heap[L]? = some (.cells cs 45 (0,0)):=cr
 have R:bG (.slice A b.length cp) b Y cs.toList M:=ct
 have Z:=bG.size R
 have aU:ak aY 0 c b=bC M C:=cv
 refine aq 1<|ay<|m2 (oa aR) fun dK a0 a1=>nt<|sq<|aq 3<|L0<|fR (p:=⟨q,3,none⟩) (v:=vI C.endC.e) (RC.fld a0)<|ah 1<|?_
 have a2:=u1 aP a1 im
 have aW:=ut l a2 (ac (ni d.size g) (ac (ni (le d.size i.size) f) aD))
 refine cb ((C.endC.e != 0)) (fun a3=>?_) (fun a3=>?_)
 have a4:=aA a3
 refine sq<|Rg 7 (fun w'=>w'.cell? ⟨q,3,none⟩=some (vI C.endC.e)) fun dL S=>?_
 have aX:=RC.upd a0 S aE (aI.step (RC.u a0) S)
 refine bv (RC.fld aX) fun O=>Rt 0 O<|Rt 1 O<|Rt 2 O<|Rt 3 O<|Rl 4 O (fun _ hs=>hs)<|?_
 refine R0 5 rfl<|mb (ub (ut N (aJ a2 S) (ac (nr g) (ac (ni i.size f) aD))) J) mZ fun dM cx aZ=>?_
 have b0:=ud aW (uz S aZ) V
 refine bv (RC.fld (RC.upd aX aZ (aa (Ne.symm (nb (az J) lr g)) aE) b0)) fun cy=>Rt 6 cy<|re<|tn<|b6<|ck cx (vI C.endC.e)<|?_
 rw[aU]
 exact dD a4 b0
 have a4:=aF a3
 refine bu<|sg<|?_
 refine L0<|cm (hz:=(by rw[Z];exact aQ)) (bj a1 (Ne.symm (nb (az r) lr f)) cw)<|?_
 refine aG (hz:=(by rw[Z];exact aQ)) (hv:=(bG.size R)) (h1:=(bG.one R hsl)) (ub (ut N a2 (ac (nr g) (ac (ni i.size f) aD))) J) (cs) fun dN cz b1=>ah 1<|rt<|fO 22 Z cz (vI 0)<|?_
 rw[aU]
 exact dX a4 (bG.upd R (us a1 b1) (av (RC.safe aR _ (by decide)) (av (b9 (ub (ut N aP (ac (nr g) (ac (ni i.size f) aD))) J) (by decide)) aM))) (ud aW b1 V)
 refine bk<|aB 15<|c0<|aq 3<|cu 3 [68] 71 (((c==3)||(c==4))) (fun K b2=>?_) ?_
 refine bl 68 ((c==3)) (fun P=>?_) (fun P=>?_)
 have cA:=ag P
 exact Pl 3<|ce b2 true (by rw[P];rfl)
 have cA:=ai P
 exact Pl 3<|ce b2 (c==4) (by rw[P];rfl)
 refine ah 1<|cb (((c==3)||(c==4))) (fun k=>?_) (fun k=>?_)
 refine aq 1<|ay<|m3 (d7 F) fun dO cB b3 dP=>Pl 1<|?_
 have T:=nb (az r) lr f
 refine L0<|bY (bj b3 (Ne.symm T) E) 2 (mG c 0 ((ap.mk b false 0).wordV) 0 0 0 0 0 0 0 0 0 nS nS nS nS 0 0 0 0 0 nS) fun dQ b4 b5=>nt<|go<|Pl 2<|aC b4 2<|?_
 have b7:=us b3 b5
 have b8:=ut l b7 (ac (ni d.size g) (ac (ni (le d.size i.size) f) aD))
 refine ay<|m3 (nL (a:=(ap.mk b false 0).wordV) (most:=125) (by omega) (RC.upd cB b5 (aa T aE) b8)) fun dR cC ba dS=>?_
 refine gM cC fun cD cE cG=>?_
 refine L0<|Dk (((ap.mk b false 0).wordsC 1).wordV)<|Pl 1<|?_
 refine L0<|bY (bj ba (Ne.symm T) b4) 3 (mG c 0 ((ap.mk b false 0).wordV) (((ap.mk b false 0).wordsC 1).wordV) 0 0 0 0 0 0 0 0 nS nS nS nS 0 0 0 0 0 nS) fun dT cH bb=>nl<|bn<|?_
 have bc:=us ba bb
 exact jn (cD,_,(aS.mk c 0 ((ap.mk b false 0).wordV) (((ap.mk b false 0).wordsC 1).wordV) 0 0 0 0 0 0 0 0 [] [] [] [] 0 0 0 0 0 [])) ⟨(ut b7 bc (ac im (ac im aD))),(RC.upd cG bb (aa T aE) (ut b8 bc (ac (ni d.size g) (ac (ni (le d.size i.size) f) aD)))),cH,⟨_,_,_,_,_,rfl,aT.nil ..,aT.nil ..,(fun _ _ _=>aT.nil ..),aT.nil ..,aT.nil ..,(cP (by omega))⟩,by subst cE;unfold ak aY cn cF eo dq da dn dp mn;(try simp only[k,bi,ea,ed,e9,eb,ec,reduceIte,uF,uY])<;>rfl⟩
 have z:=(bL k).1
 have B:=(bL k).2
 have dU:=ai z
 have dV:=ai B
 refine aB 3<|cb ((c==6)) (fun o=>?_) (fun o=>?_)
 have cJ:=ag o
 refine aq 1<|ay<|m3 (d7 F) fun dW cK bd dY=>Pl 1<|?_
 have U:=nb (az r) lr f
 refine L0<|bY (bj bd (Ne.symm U) E) 2 (mG c 0 ((ap.mk b false 0).wordV) 0 0 0 0 0 0 0 0 0 nS nS nS nS 0 0 0 0 0 nS) fun dZ cL be=>nt<|go<|Pl 1<|?_
 have bg:=us bd be
 have bh:=ut l bg (ac (ni d.size g) (ac (ni (le d.size i.size) f) aD))
 refine ay<|m3 (d7 (RC.upd cK be (aa U aE) bh)) fun e0 cM bm e1=>Pl 1<|?_
 refine L0<|bY (bj bm (Ne.symm U) cL) 4 (mG c 0 ((ap.mk b false 0).wordV) 0 (((ap.mk b false 0).wordsC 1).wordV) 0 0 0 0 0 0 0 nS nS nS nS 0 0 0 0 0 nS) fun e2 cO bo=>nl<|bn<|?_
 have bq:=us bm bo
 exact jn ((((ap.mk b false 0).wordsC 1).wordsC 1),_,(aS.mk c 0 ((ap.mk b false 0).wordV) 0 (((ap.mk b false 0).wordsC 1).wordV) 0 0 0 0 0 0 0 [] [] [] [] 0 0 0 0 0 [])) ⟨(ut bg bq (ac im (ac im aD))),(RC.upd cM bo (aa U aE) (ut bh bq (ac (ni d.size g) (ac (ni (le d.size i.size) f) aD)))),cO,⟨_,_,_,_,_,rfl,aT.nil ..,aT.nil ..,(fun _ _ _=>aT.nil ..),aT.nil ..,aT.nil ..,(cP (by omega))⟩,by unfold ak aY cn cF eo dq da dn dp mn;(try simp only[k,z,B,o,bi,ea,ed,e9,eb,ec,reduceIte,uF,uY])<;>rfl⟩
 have cJ:=ai o
 refine aB 3<|cb ((c==16)) (fun s=>?_) (fun s=>?_)
 have cQ:=ag s
 refine aq 1<|ay<|m3 (d7 F) fun e3 cR a5 e4=>Pl 1<|?_
 have t:=nb (az r) lr f
 refine L0<|bY (bj a5 (Ne.symm t) E) 2 (mG c 0 ((ap.mk b false 0).wordV) 0 0 0 0 0 0 0 0 0 nS nS nS nS 0 0 0 0 0 nS) fun e5 bs a6=>aL 2<|aC bs 2<|?_
 have bt:=us a5 a6
 have bw:=ut l bt (ac (ni d.size g) (ac (ni (le d.size i.size) f) aD))
 refine ay<|m3 (nL (a:=(ap.mk b false 0).wordV) (most:=123) (by omega) (RC.upd cR a6 (aa t aE) bw)) fun e6 cS a7 e7=>?_
 refine gM cS fun bx cT cU=>?_
 refine L0<|Dk (((ap.mk b false 0).wordsC 1).wordV)<|Pl 1<|?_
 refine L0<|bY (bj a7 (Ne.symm t) bs) 3 (mG c 0 ((ap.mk b false 0).wordV) (((ap.mk b false 0).wordsC 1).wordV) 0 0 0 0 0 0 0 0 nS nS nS nS 0 0 0 0 0 nS) fun e8 cV a8=>dk 2<|c1<|aq 1<|?_
 have bz:=us a7 a8
 have bA:=ut bw bz (ac (ni d.size g) (ac (ni (le d.size i.size) f) aD))
 refine ay<|m3 (eK (RC.upd cU a8 (aa t aE) bA)) fun ee cW a9 ef=>bp bx.byteV<|Pl 1<|aL 3<|?_
 have bB:=bj a9 (Ne.symm t) cV
 refine aC bB 3<|bp (((ap.mk b false 0).wordsC 1).wordV)<|bp (2*(((ap.mk b false 0).wordsC 1).wordV))<|Pl 1<|ay<|m2 (bf ((bx.byteV==(2*(((ap.mk b false 0).wordsC 1).wordV)))) 5 cW) fun eg cX ab=>?_
 refine gM cX fun ad cZ d0=>?_
 refine nt<|go<|Pl 2<|?_
 have bD:=bj ab (Ne.symm t) bB
 refine aC bD 3<|bp (((ap.mk b false 0).wordsC 1).wordV)<|ay<|qk (i4 (n:=((ap.mk b false 0).wordsC 1).wordV) (by omega) d0) fun d1 d2 eh bF ei ej d3 bH=>Pl 1<|?_
 refine L0<|bY (bj bH (Ne.symm t) bD) 12 (mG c 0 ((ap.mk b false 0).wordV) (((ap.mk b false 0).wordsC 1).wordV) 0 0 0 0 0 0 0 0 (.slice d1 ((ad.wordsR (((ap.mk b false 0).wordsC 1).wordV)).length) d2) nS nS nS 0 0 0 0 0 nS) fun ek d4 ae=>nl<|bn<|?_
 have bJ:=ui a9 (ui ab (us bH ae))
 exact jn ((ad.wordsC (((ap.mk b false 0).wordsC 1).wordV)),_,(aS.mk c 0 ((ap.mk b false 0).wordV) (((ap.mk b false 0).wordsC 1).wordV) 0 0 0 0 0 0 0 0 (ad.wordsR (((ap.mk b false 0).wordsC 1).wordV)) [] [] [] 0 0 0 0 0 [])) ⟨(ut bt (ut bz bJ (ac im (ac im aD))) (ac im (ac im aD))),(RC.upd d3 ae (aa t aE) (ut bA bJ (ac (ni d.size g) (ac (ni (le d.size i.size) f) aD)))),d4,⟨_,_,_,_,_,rfl,((au bF ae (fun x hx=>(aa (fun e=>(aO (az W) (le (le (le (le (le (le X.size a5.size) a6.size) a7.size) a8.size) a9.size) ab.size) bF) (e▸hx)) aE)) (fun _ _ h=>h))).rd,aT.nil ..,(fun _ _ _=>aT.nil ..),aT.nil ..,aT.nil ..,(cP (by omega))⟩,by subst cZ cT;unfold ak aY cn cF eo dq da dn dp mn;(try simp only[k,z,B,o,s,bi,ea,ed,e9,eb,ec,reduceIte,uF,uY])<;>rfl⟩
 have cQ:=ai s
 refine aB 3<|cb ((c==22)) (fun D=>?_) (fun D=>?_)
 have d5:=ag D
 refine aq 1<|ay<|m3 (d7 F) fun el d6 bK em=>Pl 1<|?_
 have G:=nb (az r) lr f
 refine L0<|bY (bj bK (Ne.symm G) E) 2 (mG c 0 ((ap.mk b false 0).wordV) 0 0 0 0 0 0 0 0 0 nS nS nS nS 0 0 0 0 0 nS) fun ep d8 bM=>aL 1<|?_
 have bN:=us bK bM
 have bO:=ut l bN (ac (ni d.size g) (ac (ni (le d.size i.size) f) aD))
 refine ay<|m3 (d7 (RC.upd d6 bM (aa G aE) bO)) fun eq d9 bP er=>Pl 1<|?_
 refine L0<|bY (bj bP (Ne.symm G) d8) 5 (mG c 0 ((ap.mk b false 0).wordV) 0 0 (((ap.mk b false 0).wordsC 1).wordV) 0 0 0 0 0 0 nS nS nS nS 0 0 0 0 0 nS) fun es db bQ=>nt<|go<|Pl 1<|?_
 have bR:=us bP bQ
 have bS:=ut bO bR (ac (ni d.size g) (ac (ni (le d.size i.size) f) aD))
 refine ay<|m3 (d7 (RC.upd d9 bQ (aa G aE) bS)) fun et dc bT eu=>Pl 1<|?_
 refine L0<|bY (bj bT (Ne.symm G) db) 6 (mG c 0 ((ap.mk b false 0).wordV) 0 0 (((ap.mk b false 0).wordsC 1).wordV) ((((ap.mk b false 0).wordsC 1).wordsC 1).wordV) 0 0 0 0 0 nS nS nS nS 0 0 0 0 0 nS) fun ev dd bU=>nl<|bn<|?_
 have bV:=us bT bU
 exact jn (((((ap.mk b false 0).wordsC 1).wordsC 1).wordsC 1),_,(aS.mk c 0 ((ap.mk b false 0).wordV) 0 0 (((ap.mk b false 0).wordsC 1).wordV) ((((ap.mk b false 0).wordsC 1).wordsC 1).wordV) 0 0 0 0 0 [] [] [] [] 0 0 0 0 0 [])) ⟨(ut bN (ut bR bV (ac im (ac im aD))) (ac im (ac im aD))),(RC.upd dc bU (aa G aE) (ut bS bV (ac (ni d.size g) (ac (ni (le d.size i.size) f) aD)))),dd,⟨_,_,_,_,_,rfl,aT.nil ..,aT.nil ..,(fun _ _ _=>aT.nil ..),aT.nil ..,aT.nil ..,(cP (by omega))⟩,by unfold ak aY cn cF eo dq da dn dp mn;(try simp only[k,z,B,o,s,D,bi,ea,ed,e9,eb,ec,reduceIte,uF,uY])<;>rfl⟩
 have d5:=ai D
 refine aB 3<|cb ((c==23)) (fun H=>?_) (fun H=>?_)
 have de:=ag H
 refine aq 1<|ay<|m3 (d7 F) fun ew df af ex=>Pl 1<|?_
 have y:=nb (az r) lr f
 refine L0<|bY (bj af (Ne.symm y) E) 2 (mG c 0 ((ap.mk b false 0).wordV) 0 0 0 0 0 0 0 0 0 nS nS nS nS 0 0 0 0 0 nS) fun ey bW aj=>aL 2<|aC bW 2<|?_
 have bX:=us af aj
 have bZ:=ut l bX (ac (ni d.size g) (ac (ni (le d.size i.size) f) aD))
 refine ay<|m3 (nL (a:=(ap.mk b false 0).wordV) (most:=125) (by omega) (RC.upd df aj (aa y aE) bZ)) fun ez dg al eA=>?_
 refine gM dg fun j dh di=>?_
 refine L0<|Dk (((ap.mk b false 0).wordsC 1).wordV)<|Pl 1<|?_
 refine L0<|bY (bj al (Ne.symm y) bW) 3 (mG c 0 ((ap.mk b false 0).wordV) (((ap.mk b false 0).wordsC 1).wordV) 0 0 0 0 0 0 0 0 nS nS nS nS 0 0 0 0 0 nS) fun eB dj am=>aL 1<|?_
 have c2:=us al am
 have c3:=ut bZ c2 (ac (ni d.size g) (ac (ni (le d.size i.size) f) aD))
 refine ay<|m3 (d7 (RC.upd di am (aa y aE) c3)) fun eC dl an eD=>Pl 1<|?_
 refine L0<|bY (bj an (Ne.symm y) dj) 7 (mG c 0 ((ap.mk b false 0).wordV) (((ap.mk b false 0).wordsC 1).wordV) 0 0 0 j.wordV 0 0 0 0 nS nS nS nS 0 0 0 0 0 nS) fun eE c4 ao=>aL 2<|aC c4 7<|?_
 have c5:=us an ao
 have c6:=ut c3 c5 (ac (ni d.size g) (ac (ni (le d.size i.size) f) aD))
 refine ay<|m3 (nL (a:=j.wordV) (most:=121) (by omega) (RC.upd dl ao (aa y aE) c6)) fun eF dm c7 eG=>Pl 1<|aL 1<|ay<|m3 (eK dm) fun eH dr c8 eI=>bp ((bI (j.wordsC 1) j.wordV 121).byteV)<|Pl 1<|aL 3<|bp (2*((j.wordsC 1).wordV))<|Pl 1<|ay<|m2 (bf ((((bI (j.wordsC 1) j.wordV 121).byteV)==(2*((j.wordsC 1).wordV)))) 5 dr) fun eJ ds c9=>?_
 refine gM ds fun ar dt du=>?_
 refine nt<|go<|Pl 2<|ay<|qk (i4 (n:=(j.wordsC 1).wordV) (by omega) du) fun dv dw eL ca eM eN dx dy=>Pl 1<|?_
 have cc:=u1 c7 (u1 c8 (u1 c9 dy im) im) im
 refine L0<|bY (bj cc (Ne.symm y) c4) 12 (mG c 0 ((ap.mk b false 0).wordV) (((ap.mk b false 0).wordsC 1).wordV) 0 0 0 j.wordV 0 0 0 0 (.slice dv ((ar.wordsR ((j.wordsC 1).wordV)).length) dw) nS nS nS 0 0 0 0 0 nS) fun eO dz aw=>nl<|bn<|?_
 have cd:=us cc aw
 exact jn ((ar.wordsC ((j.wordsC 1).wordV)),_,(aS.mk c 0 ((ap.mk b false 0).wordV) (((ap.mk b false 0).wordsC 1).wordV) 0 0 0 j.wordV 0 0 0 0 (ar.wordsR ((j.wordsC 1).wordV)) [] [] [] 0 0 0 0 0 [])) ⟨(ut bX (ut c2 (ut c5 cd (ac im (ac im aD))) (ac im (ac im aD))) (ac im (ac im aD))),(RC.upd dx aw (aa y aE) (ut c6 cd (ac (ni d.size g) (ac (ni (le d.size i.size) f) aD)))),dz,⟨_,_,_,_,_,rfl,((au ca aw (fun x hx=>(aa (fun e=>(aO (az W) (le (le (le (le (le (le (le (le (le X.size af.size) aj.size) al.size) am.size) an.size) ao.size) c7.size) c8.size) c9.size) ca) (e▸hx)) aE)) (fun _ _ h=>h))).rd,aT.nil ..,(fun _ _ _=>aT.nil ..),aT.nil ..,aT.nil ..,(cP (by omega))⟩,by subst dt dh;unfold ak aY cn cF eo dq da dn dp mn;(try simp only[k,z,B,o,s,D,H,bi,ea,ed,e9,eb,ec,reduceIte,uF,uY])<;>rfl⟩
 have de:=ai H
 refine aq 3<|cu 3 [168] 171 ((c==24)) (fun K cg=>?_) ?_
 refine bl 168 ((c==24)) (fun Q=>?_) (fun Q=>?_)
 have dA:=ag Q
 exact Pl 3<|ce cg true Q
 have dA:=ai Q
 exact Pl 3<|ce cg false Q
 refine ah 1<|cb ((c==24)) (fun I=>?_) (fun I=>?_)
 have dB:=ag I
 refine go<|Pl 1<|ay<|m3 (d7 F) fun eP dC ch eQ=>Pl 1<|?_
 have ci:=nb (az r) lr f
 refine L0<|bY (bj ch (Ne.symm ci) E) 2 (mG c 0 ((ap.mk b false 0).wordV) 0 0 0 0 0 0 0 0 0 nS nS nS nS 0 0 0 0 0 nS) fun eR dE cj=>nl<|bn<|?_
 have cl:=us ch cj
 exact jn (((ap.mk b false 0).wordsC 1),_,(aS.mk c 0 ((ap.mk b false 0).wordV) 0 0 0 0 0 0 0 0 0 [] [] [] [] 0 0 0 0 0 [])) ⟨cl,(RC.upd dC cj (aa ci aE) (ut l cl (ac (ni d.size g) (ac (ni (le d.size i.size) f) aD)))),dE,⟨_,_,_,_,_,rfl,aT.nil ..,aT.nil ..,(fun _ _ _=>aT.nil ..),aT.nil ..,aT.nil ..,(cP (by omega))⟩,by unfold ak aY cn cF eo dq da dn dp mn;(try simp only[k,z,B,o,s,D,H,I,bi,ea,ed,e9,eb,ec,reduceIte,uF,uY])<;>rfl⟩
 have dB:=ai I
 refine aB 3<|cf I<|aq 1<|?_
 refine aG (ub N J) mZ fun eS dF dG=>ah 1<|rt<|br<|tr<|ck dF (vI 4)<|?_
 exact cI (by unfold ak aY cn cF eo dq da dn dp mn;(try simp only[k,z,B,o,s,D,H,I,bi,ea,ed,e9,eb,ec,reduceIte,uF,uY])<;>rfl) (bE (ud l dG V))
theorem oB(hcode:B8 c)(hsl:aV m w (.slice A b.length cp) b)(hb:b.length≤1048576) :
    Calls Tryz.prog 110 #[vI 1,vB c,.slice A b.length cp] w (cN (.slice A b.length cp) b (ak aY 1 c b) w):=by
 obtain⟨hcode1,hcode2⟩:=hcode
 have hln:(b.length:Int)≤1048576:=by omega
 refine en 221 Tryz.func110 rfl<|sg<|aK mZ fun ae df Y F d=>ah 1<|sq<|aB 6<|c0<|bu<|aq 2<|L0<|cY #[.slice A b.length cp,vI 0,.bool false,vI 0] fun k dg g r i=>Pl 1<|aL 2<|aK mZ fun G dh f Z bW=>aG Z (mC c) fun af H a0=>?_
 refine nt<|?_
 have aj:=ud bW a0 f
 have I:=aJ i aj
 have l:=aJ d I
 have J:RC w _ A cp b af k (ap.mk b false 0):=⟨hsl,l,(Nat.le_trans d.size g),⟨0,(ub aj r),Nat.zero_le _,rfl⟩,by omega⟩
 refine A7 (fun x=>[(6,vP ae 0),(8,vP k 0),(9,vP G 0)]) (fun(x:ap × Array Value × aS) w'=>aI [k,G] af w'∧RC w m A cp b w' k x.1∧w'.heap[G]? = some (.cells x.2.1 45 (0,0))∧bG (.slice A b.length cp) b w' x.2.1.toList x.2.2∧(ak aY 1 c b=bC x.2.2 x.1)) ?_ ?_
 rintro⟨C,cs,M⟩ a1 ⟨al,bX,bZ,c1,c2⟩
 refine gi [(6,vP ae 0),(8,vP k 0),(9,vP G 0)] ?_
 have am:RC w m A cp b a1 k C:=bX
 have c3:a1.heap[G]? = some (.cells cs 45 (0,0)):=bZ
 have U:bG (.slice A b.length cp) b a1 cs.toList M:=c1
 have a2:=bG.size U
 have an:ak aY 1 c b=bC M C:=c2
 refine aq 1<|ay<|m2 (oa am) fun di a3 a4=>nt<|sq<|aq 3<|L0<|fR (p:=⟨k,3,none⟩) (v:=vI C.endC.e) (RC.fld a3)<|ah 1<|?_
 have a5:=u1 al a4 im
 have ao:=ut l a5 (ac (ni d.size g) (ac (ni (le d.size i.size) f) aD))
 refine cb ((C.endC.e != 0)) (fun a6=>?_) (fun a6=>?_)
 have a7:=aA a6
 refine sq<|Rg 7 (fun w'=>w'.cell? ⟨k,3,none⟩=some (vI C.endC.e)) fun dj V=>?_
 have ar:=RC.upd a3 V aE (aI.step (RC.u a3) V)
 refine bv (RC.fld ar) fun L=>Rt 0 L<|Rt 1 L<|Rt 2 L<|Rt 3 L<|Rl 4 L (fun _ hs=>hs)<|?_
 refine R0 5 rfl<|mb (ub (ut I (aJ a5 V) (ac (nr g) (ac (ni i.size f) aD))) F) mZ fun dl c4 aw=>?_
 have ax:=ud ao (uz V aw) Y
 refine bv (RC.fld (RC.upd ar aw (aa (Ne.symm (nb (az F) lr g)) aE) ax)) fun c5=>Rt 6 c5<|re<|tn<|b6<|ck c4 (vI C.endC.e)<|?_
 rw[an]
 exact dD a7 ax
 have a7:=aF a6
 refine bu<|sg<|?_
 refine L0<|cm (hz:=(by rw[a2];exact aQ)) (bj a4 (Ne.symm (nb (az r) lr f)) c3)<|?_
 refine aG (hz:=(by rw[a2];exact aQ)) (hv:=(bG.size U)) (h1:=(bG.one U hsl)) (ub (ut I a5 (ac (nr g) (ac (ni i.size f) aD))) F) (cs) fun dm c6 aH=>ah 1<|rt<|fO 22 a2 c6 (vI 0)<|?_
 rw[an]
 exact dX a7 (bG.upd U (us a4 aH) (av (RC.safe am _ (by decide)) (av (b9 (ub (ut I al (ac (nr g) (ac (ni i.size f) aD))) F) (by decide)) aM))) (ud ao aH Y)
 refine bk<|aq 6<|cu 3 [35] 38 (((c==3)||(c==4))) (fun K aN=>?_) ?_
 refine bl 35 ((c==3)) (fun N=>?_) (fun N=>?_)
 have c7:=ag N
 exact Pl 3<|ce aN true (by rw[N];rfl)
 have c7:=ai N
 exact Pl 3<|ce aN (c==4) (by rw[N];rfl)
 refine Pl 1<|cu 3 [39] 42 ((((c==3)||(c==4))||(c==23))) (fun K aP=>?_) ?_
 refine bl 39 (((c==3)||(c==4))) (fun O=>?_) (fun O=>?_)
 exact Pl 3<|ce aP true (by rw[O];rfl)
 have c8:=(bL O).1
 have c9:=(bL O).2
 have dr:=ai c8
 have ds:=ai c9
 exact Pl 3<|ce aP (c==23) (by rw[O];rfl)
 refine ah 2<|cb ((((c==3)||(c==4))||(c==23))) (fun j=>?_) (fun j=>?_)
 refine aq 1<|ay<|m3 (eK J) fun dt ca aR du=>bp ((ap.mk b false 0).byteV)<|Pl 1<|aL 2<|L0<|Oe (vI (Int.tmod ((ap.mk b false 0).byteV) 2)) (vI (((ap.mk b false 0).byteV)%2)) (congrArg (Value.int .i64) (Int.tmod_eq_emod_of_nonneg (by omega)))<|Pl 2<|cu 3 [51] 54 ((((((ap.mk b false 0).byteV)%2)==0)&&(decide (0<((ap.mk b false 0).byteV))))) (fun K aU=>?_) ?_
 refine bl 51 (((((ap.mk b false 0).byteV)%2)==0)) (fun P=>?_) (fun P=>?_)
 have cc:=ag P
 exact Pl 3<|ce aU (decide (0<((ap.mk b false 0).byteV))) (by rw[P];rfl)
 have cc:=ai P
 exact Pl 3<|ce aU false (by rw[P];rfl)
 refine Pl 1<|cu 3 [55] 58 (((((((ap.mk b false 0).byteV)%2)==0)&&(decide (0<((ap.mk b false 0).byteV))))&&(decide (((ap.mk b false 0).byteV)≤250)))) (fun K aW=>?_) ?_
 refine bl 55 ((((((ap.mk b false 0).byteV)%2)==0)&&(decide (0<((ap.mk b false 0).byteV))))) (fun Q=>?_) (fun Q=>?_)
 have cd:=(b7 Q).1
 have cg:=(b7 Q).2
 have dv:=ag cd
 have dw:=of_decide_eq_true cg
 exact Pl 3<|ce aW (decide (((ap.mk b false 0).byteV)≤250)) (by rw[Q];rfl)
 exact Pl 3<|ce aW false (by rw[Q];rfl)
 refine ay<|m2 (bf (((((((ap.mk b false 0).byteV)%2)==0)&&(decide (0<((ap.mk b false 0).byteV))))&&(decide (((ap.mk b false 0).byteV)≤250)))) 5 ca) fun dx ch aX=>?_
 refine gM ch fun x99 ci cj=>?_
 refine nt<|go<|Pl 2<|L0<|Oe (vI (IntKind.i64.wrap (Int.tdiv ((ap.mk b false 0).byteV) 2))) (vI (((ap.mk b false 0).byteV)/2)) (congrArg (Value.int .i64) (gW (by omega) (by omega)))<|ay<|qk (i4 (n:=(((ap.mk b false 0).byteV)/2)) (by omega) cj) fun cl co dy aZ dz dA cq cr=>Pl 1<|?_
 have b0:=u1 aR (u1 aX cr im) im
 have b1:=nb (az r) lr f
 refine L0<|bY (bj b0 (Ne.symm b1) H) 12 (mG c 0 0 0 0 0 0 0 0 0 0 0 (.slice cl ((x99.wordsR (((ap.mk b false 0).byteV)/2)).length) co) nS nS nS 0 0 0 0 0 nS) fun dB ct a8=>nl<|bn<|?_
 have b2:=us b0 a8
 exact jn ((x99.wordsC (((ap.mk b false 0).byteV)/2)),_,(aS.mk c 0 0 0 0 0 0 0 0 0 0 0 (x99.wordsR (((ap.mk b false 0).byteV)/2)) [] [] [] 0 0 0 0 0 [])) ⟨b2,(RC.upd cq a8 (aa b1 aE) (ut l b2 (ac (ni d.size g) (ac (ni (le d.size i.size) f) aD)))),ct,⟨_,_,_,_,_,rfl,((au aZ a8 (fun x hx=>(aa (fun e=>(aO (az Z) (le (le a0.size aR.size) aX.size) aZ) (e▸hx)) aE)) (fun _ _ h=>h))).rd,aT.nil ..,(fun _ _ _=>aT.nil ..),aT.nil ..,aT.nil ..,(cP (by omega))⟩,by subst ci;unfold ak  ;(try simp only[j,bi,ea,ed,e9,eb,ec,reduceIte,uF,uY,ya j])<;>rfl⟩
 have s:=(bL j).1
 have t:=(bL j).2
 have y:=(bL s).1
 have z:=(bL s).2
 have q87aap:=ai y
 have q87abp:=ai z
 have dC:=ai t
 refine aq 3<|sy 68 y<|ah 4<|cf z<|aB 3<|cb ((c==6)) (fun o=>?_) (fun o=>?_)
 have cv:=ag o
 refine aq 1<|ay<|m3 (d7 J) fun dE cw b3 dF=>Pl 1<|?_
 have W:=nb (az r) lr f
 refine L0<|bY (bj b3 (Ne.symm W) H) 2 (mG c 0 ((ap.mk b false 0).wordV) 0 0 0 0 0 0 0 0 0 nS nS nS nS 0 0 0 0 0 nS) fun dG cx b4=>nt<|go<|Pl 1<|?_
 have b5:=us b3 b4
 have b8:=ut l b5 (ac (ni d.size g) (ac (ni (le d.size i.size) f) aD))
 refine ay<|m3 (d7 (RC.upd cw b4 (aa W aE) b8)) fun dH cy ba dI=>Pl 1<|?_
 refine L0<|bY (bj ba (Ne.symm W) cx) 4 (mG c 0 ((ap.mk b false 0).wordV) 0 (((ap.mk b false 0).wordsC 1).wordV) 0 0 0 0 0 0 0 nS nS nS nS 0 0 0 0 0 nS) fun dJ cz bb=>nl<|bn<|?_
 have bc:=us ba bb
 exact jn ((((ap.mk b false 0).wordsC 1).wordsC 1),_,(aS.mk c 0 ((ap.mk b false 0).wordV) 0 (((ap.mk b false 0).wordsC 1).wordV) 0 0 0 0 0 0 0 [] [] [] [] 0 0 0 0 0 [])) ⟨(ut b5 bc (ac im (ac im aD))),(RC.upd cy bb (aa W aE) (ut b8 bc (ac (ni d.size g) (ac (ni (le d.size i.size) f) aD)))),cz,⟨_,_,_,_,_,rfl,aT.nil ..,aT.nil ..,(fun _ _ _=>aT.nil ..),aT.nil ..,aT.nil ..,(cP (by omega))⟩,by unfold ak aY cn cF eo dq da dn dp mn;(try simp only[j,s,y,z,t,o,bi,ea,ed,e9,eb,ec,reduceIte,uF,uY])<;>rfl⟩
 have cv:=ai o
 refine aB 3<|cb ((c==16)) (fun B=>?_) (fun B=>?_)
 have cA:=ag B
 refine aq 1<|ay<|m3 (d7 J) fun dK cB bd dL=>Pl 1<|?_
 have X:=nb (az r) lr f
 refine L0<|bY (bj bd (Ne.symm X) H) 2 (mG c 0 ((ap.mk b false 0).wordV) 0 0 0 0 0 0 0 0 0 nS nS nS nS 0 0 0 0 0 nS) fun dM be bg=>aL 2<|aC be 2<|?_
 have bh:=us bd bg
 have bm:=ut l bh (ac (ni d.size g) (ac (ni (le d.size i.size) f) aD))
 refine ay<|m3 (nL (a:=(ap.mk b false 0).wordV) (most:=123) (by omega) (RC.upd cB bg (aa X aE) bm)) fun dN cC bo dO=>?_
 refine gM cC fun cD cE cG=>?_
 refine L0<|Dk (((ap.mk b false 0).wordsC 1).wordV)<|Pl 1<|?_
 refine L0<|bY (bj bo (Ne.symm X) be) 3 (mG c 0 ((ap.mk b false 0).wordV) (((ap.mk b false 0).wordsC 1).wordV) 0 0 0 0 0 0 0 0 nS nS nS nS 0 0 0 0 0 nS) fun dP cH bq=>dk 2<|c0<|sk<|bn<|?_
 have bs:=us bo bq
 exact jn (cD,_,(aS.mk c 0 ((ap.mk b false 0).wordV) (((ap.mk b false 0).wordsC 1).wordV) 0 0 0 0 0 0 0 0 [] [] [] [] 0 0 0 0 0 [])) ⟨(ut bh bs (ac im (ac im aD))),(RC.upd cG bq (aa X aE) (ut bm bs (ac (ni d.size g) (ac (ni (le d.size i.size) f) aD)))),cH,⟨_,_,_,_,_,rfl,aT.nil ..,aT.nil ..,(fun _ _ _=>aT.nil ..),aT.nil ..,aT.nil ..,(cP (by omega))⟩,by subst cE;unfold ak aY cn cF eo dq da dn dp mn;(try simp only[j,s,y,z,t,o,B,bi,ea,ed,e9,eb,ec,reduceIte,uF,uY])<;>rfl⟩
 have cA:=ai B
 refine aB 3<|cb ((c==22)) (fun D=>?_) (fun D=>?_)
 have cJ:=ag D
 refine aq 1<|ay<|m3 (d7 J) fun dQ cK bt dR=>Pl 1<|?_
 have E:=nb (az r) lr f
 refine L0<|bY (bj bt (Ne.symm E) H) 2 (mG c 0 ((ap.mk b false 0).wordV) 0 0 0 0 0 0 0 0 0 nS nS nS nS 0 0 0 0 0 nS) fun dS cL bw=>aL 1<|?_
 have bx:=us bt bw
 have bz:=ut l bx (ac (ni d.size g) (ac (ni (le d.size i.size) f) aD))
 refine ay<|m3 (d7 (RC.upd cK bw (aa E aE) bz)) fun dT cM bA dU=>Pl 1<|?_
 refine L0<|bY (bj bA (Ne.symm E) cL) 5 (mG c 0 ((ap.mk b false 0).wordV) 0 0 (((ap.mk b false 0).wordsC 1).wordV) 0 0 0 0 0 0 nS nS nS nS 0 0 0 0 0 nS) fun dV cO bB=>nt<|go<|Pl 1<|?_
 have bD:=us bA bB
 have bF:=ut bz bD (ac (ni d.size g) (ac (ni (le d.size i.size) f) aD))
 refine ay<|m3 (d7 (RC.upd cM bB (aa E aE) bF)) fun dW cQ bH dY=>Pl 1<|?_
 refine L0<|bY (bj bH (Ne.symm E) cO) 6 (mG c 0 ((ap.mk b false 0).wordV) 0 0 (((ap.mk b false 0).wordsC 1).wordV) ((((ap.mk b false 0).wordsC 1).wordsC 1).wordV) 0 0 0 0 0 nS nS nS nS 0 0 0 0 0 nS) fun dZ cR bI=>nl<|bn<|?_
 have bJ:=us bH bI
 exact jn (((((ap.mk b false 0).wordsC 1).wordsC 1).wordsC 1),_,(aS.mk c 0 ((ap.mk b false 0).wordV) 0 0 (((ap.mk b false 0).wordsC 1).wordV) ((((ap.mk b false 0).wordsC 1).wordsC 1).wordV) 0 0 0 0 0 [] [] [] [] 0 0 0 0 0 [])) ⟨(ut bx (ut bD bJ (ac im (ac im aD))) (ac im (ac im aD))),(RC.upd cQ bI (aa E aE) (ut bF bJ (ac (ni d.size g) (ac (ni (le d.size i.size) f) aD)))),cR,⟨_,_,_,_,_,rfl,aT.nil ..,aT.nil ..,(fun _ _ _=>aT.nil ..),aT.nil ..,aT.nil ..,(cP (by omega))⟩,by unfold ak aY cn cF eo dq da dn dp mn;(try simp only[j,s,y,z,t,o,B,D,bi,ea,ed,e9,eb,ec,reduceIte,uF,uY])<;>rfl⟩
 have cJ:=ai D
 refine aB 3<|cf t<|aq 3<|cu 3 [168] 171 (false) (fun K bK=>?_) ?_
 refine bl 168 ((c==24)) (fun a9=>?_) (fun a9=>?_)
 have cS:=ag a9
 exact Pl 3<|ce bK false rfl
 have cS:=ai a9
 exact Pl 3<|ce bK false rfl
 refine ah 1<|c0<|aB 3<|cb ((c==24)) (fun R=>?_) (fun R=>?_)
 have cT:=ag R
 refine aq 1<|ay<|m3 (d7 J) fun e0 cU bM e1=>bp ((ap.mk b false 0).wordV)<|Pl 1<|aL 2<|L0<|Oe (vI (Int.tmod ((ap.mk b false 0).wordV) 2)) (vI (((ap.mk b false 0).wordV)%2)) (congrArg (Value.int .i64) (Int.tmod_eq_emod_of_nonneg (by omega)))<|Pl 2<|cu 3 [185] 188 ((((((ap.mk b false 0).wordV)%2)==0)&&(decide (2≤((ap.mk b false 0).wordV))))) (fun K bN=>?_) ?_
 refine bl 185 (((((ap.mk b false 0).wordV)%2)==0)) (fun S=>?_) (fun S=>?_)
 have cV:=ag S
 exact Pl 3<|ce bN (decide (2≤((ap.mk b false 0).wordV))) (by rw[S];rfl)
 have cV:=ai S
 exact Pl 3<|ce bN false (by rw[S];rfl)
 refine Pl 1<|cu 3 [189] 192 (((((((ap.mk b false 0).wordV)%2)==0)&&(decide (2≤((ap.mk b false 0).wordV))))&&(decide (((ap.mk b false 0).wordV)≤64)))) (fun K bO=>?_) ?_
 refine bl 189 ((((((ap.mk b false 0).wordV)%2)==0)&&(decide (2≤((ap.mk b false 0).wordV))))) (fun T=>?_) (fun T=>?_)
 have cW:=(b7 T).1
 have cX:=(b7 T).2
 have e2:=ag cW
 have e3:=of_decide_eq_true cX
 exact Pl 3<|ce bO (decide (((ap.mk b false 0).wordV)≤64)) (by rw[T];rfl)
 exact Pl 3<|ce bO false (by rw[T];rfl)
 refine ay<|m2 (bf (((((((ap.mk b false 0).wordV)%2)==0)&&(decide (2≤((ap.mk b false 0).wordV))))&&(decide (((ap.mk b false 0).wordV)≤64)))) 5 cU) fun e4 cZ bP=>?_
 refine gM cZ fun q d0 d1=>?_
 refine aL 1<|ay<|m3 (d7 d1) fun e5 d2 bQ e6=>bp q.wordV<|Pl 1<|aL 3<|bp (2*q.wordV)<|bp ((2*q.wordV)+2)<|Pl 1<|ay<|m2 (bf ((((ap.mk b false 0).wordV)==((2*q.wordV)+2))) 5 d2) fun e7 d3 bR=>?_
 refine gM d3 fun ab d4 d5=>?_
 refine nt<|go<|Pl 2<|ay<|qk (i4 (n:=q.wordV) (by omega) d5) fun d6 d8 e8 bS ee ef d9 db=>Pl 1<|?_
 have bT:=u1 bM (u1 bP (u1 bQ (u1 bR db im) im) im) im
 have bU:=nb (az r) lr f
 refine L0<|bY (bj bT (Ne.symm bU) H) 12 (mG c 0 0 0 0 0 0 0 0 0 0 0 (.slice d6 ((ab.wordsR q.wordV).length) d8) nS nS nS 0 0 0 0 0 nS) fun eg dc ad=>nl<|bn<|?_
 have bV:=us bT ad
 exact jn ((ab.wordsC q.wordV),_,(aS.mk c 0 0 0 0 0 0 0 0 0 0 0 (ab.wordsR q.wordV) [] [] [] 0 0 0 0 0 [])) ⟨bV,(RC.upd d9 ad (aa bU aE) (ut l bV (ac (ni d.size g) (ac (ni (le d.size i.size) f) aD)))),dc,⟨_,_,_,_,_,rfl,((au bS ad (fun x hx=>(aa (fun e=>(aO (az Z) (le (le (le (le a0.size bM.size) bP.size) bQ.size) bR.size) bS) (e▸hx)) aE)) (fun _ _ h=>h))).rd,aT.nil ..,(fun _ _ _=>aT.nil ..),aT.nil ..,aT.nil ..,(cP (by omega))⟩,by subst d4 d0;unfold ak aY cn cF eo dq da dn dp mn;(try simp only[j,s,y,z,t,o,B,D,R,bi,ea,ed,e9,eb,ec,reduceIte,uF,uY])<;>rfl⟩
 have cT:=ai R
 refine aq 1<|?_
 refine aG (ub I F) mZ fun eh dd de=>ah 1<|rt<|br<|tr<|ck dd (vI 4)<|?_
 exact cI (by unfold ak aY cn cF eo dq da dn dp mn;(try simp only[j,s,y,z,t,o,B,D,R,bi,ea,ed,e9,eb,ec,reduceIte,uF,uY])<;>rfl) (bE (ud l de Y))
theorem ot(hcode:B8 c)(hsl:aV m w (.slice A b.length cp) b)(hb:b.length≤1048576)(hd:¬ (dir=0∨dir=1)) :
    Calls Tryz.prog 110 #[vI dir,vB c,.slice A b.length cp] w (cN (.slice A b.length cp) b (ak aY dir c b) w):=by
 obtain⟨hcode1,hcode2⟩:=hcode
 have hln:(b.length:Int)≤1048576:=by omega
 have e0:(dir != 0)=true:=by simp;omega
 have e1:(dir != 1)=true:=by simp;omega
 refine en 221 Tryz.func110 rfl<|sg<|aK mZ fun g h a d e=>ah 1<|sq<|aq 3<|sy 18 e0<|Pl 3<|nl<|tn<|ct e1<|aq 1<|aG d mZ fun i eR f=>ah 1<|b6<|ck eR (vI 1)<|?_
 exact cI (by unfold ak aY cn cF eo dq da dn dp mn;(try simp only[e0,e1,bi,ea,ed,e9,eb,ec,reduceIte,hd,uF,uY])<;>rfl) (bE (ud e f a))
open Go.RowKit
def fE (dir:Int)(C:ap) : ap:=(C.wordsC 1).need (fa C.wordV&&((C.wordV != 4)||(dir==0))) 8
theorem mf:fE 0 C=(C.wordsC 1).need (fa C.wordV) 8:=by
  unfold fE
  rw[show((0:Int)==0)=true from rfl,Bool.or_true,Bool.and_true]
theorem mg:fE 1 C=(C.wordsC 1).need (fa C.wordV&&(C.wordV != 4)) 8:=by
  unfold fE
  rw[show((1:Int)==0)=false from rfl,Bool.or_false]
def f7 (dir c:Int)(C:ap) : ap × aS :=
  if C.wordV==0 then ((l6 (fE dir C)).wordsC (((fE dir C).l.length:Int)/2),{ aS.zero with code:=c,sub:=C.wordV,words:=(l6 (fE dir C)).wordsR (((fE dir C).l.length:Int)/2) })
  else (((fE dir C).wordsC 1).need (hY dir C.wordV (fE dir C).wordV) 6,{ aS.zero with code:=c,sub:=C.wordV,words:=[(fE dir C).wordV] })
def ej (c:Int)(C:ap) : ap × aS :=
  if c==7 then (C.bytesC 1,{ aS.zero with code:=c,value:=C.byteV })
  else if c==11 then ((dS C).wordsC 1,{ aS.zero with code:=c,status:=C.wordV,events:=(dS C).wordV })
  else if c==12 then ((gG C).bytesC (C.byteV-6),{ aS.zero with code:=c,status:=(fp C 6 70).wordV,events:=(dS (fp C 6 70)).wordV,messages:=((dS (fp C 6 70)).wordsC 1).wordV,data:=(gG C).bytesR (C.byteV-6) })
  else ((fp C 1 251).bytesC C.byteV,{ aS.zero with code:=c,data:=(fp C 1 251).bytesR C.byteV })
def cl (dir c:Int)(C:ap) : Option (ap × aS) :=
  if ((((c != 7)&&(c != 8))&&(c != 11))&&(c != 12))&&(c != 17) then none
  else if c==8 then some (f7 dir c C)
  else if dir==0 then some (C,{ aS.zero with code:=c })
  else some (ej c C)
theorem og(hcode:B8 c)(hsl:aV m w (.slice A b.length cp) b)(hb:b.length≤1048576) :
    Calls Tryz.prog 111 #[vI 0,vB c,.slice A b.length cp] w (cN (.slice A b.length cp) b (ak cl 0 c b) w):=by
 obtain⟨hcode1,hcode2⟩:=hcode
 have hln:(b.length:Int)≤1048576:=by omega
 refine en 197 Tryz.func111 rfl<|sg<|aK mZ fun an cC S t d=>ah 1<|sq<|aB 6<|c0<|bu<|sq<|aq 3<|cu 3 [24] 27 (((c != 7)&&(c != 8))) (fun K ao=>?_) ?_
 refine bl 24 ((c != 7)) (fun y=>?_) (fun y=>?_)
 have bI:=aA y
 exact Pl 3<|ce ao (c != 8) (by rw[y];rfl)
 have bI:=aF y
 exact Pl 3<|ce ao false (by rw[y];rfl)
 refine Pl 1<|cu 3 [28] 31 ((((c != 7)&&(c != 8))&&(c != 11))) (fun K ar=>?_) ?_
 refine bl 28 (((c != 7)&&(c != 8))) (fun z=>?_) (fun z=>?_)
 have bJ:=(b7 z).1
 have bK:=(b7 z).2
 have cD:=aA bJ
 have cE:=aA bK
 exact Pl 3<|ce ar (c != 11) (by rw[z];rfl)
 exact Pl 3<|ce ar false (by rw[z];rfl)
 refine Pl 1<|cu 3 [32] 35 (((((c != 7)&&(c != 8))&&(c != 11))&&(c != 12))) (fun K aw=>?_) ?_
 refine bl 32 ((((c != 7)&&(c != 8))&&(c != 11))) (fun B=>?_) (fun B=>?_)
 have ax:=(b7 B).1
 have bL:=(b7 B).2
 have bM:=(b7 ax).1
 have bN:=(b7 ax).2
 have q19aap:=aA bM
 have q19abp:=aA bN
 have cF:=aA bL
 exact Pl 3<|ce aw (c != 12) (by rw[B];rfl)
 exact Pl 3<|ce aw false (by rw[B];rfl)
 refine Pl 1<|cu 3 [36] 39 ((((((c != 7)&&(c != 8))&&(c != 11))&&(c != 12))&&(c != 17))) (fun K aH=>?_) ?_
 refine bl 36 (((((c != 7)&&(c != 8))&&(c != 11))&&(c != 12))) (fun D=>?_) (fun D=>?_)
 have aN:=(b7 D).1
 have bO:=(b7 D).2
 have aR:=(b7 aN).1
 have bP:=(b7 aN).2
 have q21aaa:=(b7 aR).1
 have q21aab:=(b7 aR).2
 have q21aaap:=aA q21aaa
 have q21aabp:=aA q21aab
 have q21abp:=aA bP
 have cG:=aA bO
 exact Pl 3<|ce aH (c != 17) (by rw[D];rfl)
 exact Pl 3<|ce aH false (by rw[D];rfl)
 refine nt<|cb ((((((c != 7)&&(c != 8))&&(c != 11))&&(c != 12))&&(c != 17))) (fun o=>?_) (fun o=>?_)
 have T:=(b7 o).1
 have aU:=(b7 o).2
 have U:=(b7 T).1
 have aW:=(b7 T).2
 have q23aaa:=(b7 U).1
 have q23aab:=(b7 U).2
 have q23aaaa:=(b7 q23aaa).1
 have q23aaab:=(b7 q23aaa).2
 have q23aaaap:=aA q23aaaa
 have q23aaabp:=aA q23aaab
 have q23aabp:=aA q23aab
 have q23abp:=aA aW
 have cH:=aA aU
 refine aq 1<|aG t mZ fun cJ bQ bR=>ah 1<|b6<|ck bQ (vI 4)<|?_
 exact cI (by unfold ak cl f7 ej;(try simp only[o,T,U,q23aaa,q23aaaa,q23aaab,q23aab,aW,aU,bi,ea,ed,e9,eb,ec,reduceIte,mf,mg])<;>rfl) (bE (ud d bR S))
 refine bu<|aq 2<|L0<|cY #[.slice A b.length cp,vI 0,.bool false,vI 0] fun i cK f V j=>Pl 1<|aL 2<|aK mZ fun q cL g W bS=>aG W (mC c) fun aX aY X=>?_
 refine nt<|?_
 have aZ:=ud bS X g
 have L:=aJ j aZ
 have Y:=aJ d L
 have b0:RC w _ A cp b aX i (ap.mk b false 0):=⟨hsl,Y,(Nat.le_trans d.size f),⟨0,(ub aZ V),Nat.zero_le _,rfl⟩,by omega⟩
 refine A7 (fun x=>[(6,vP an 0),(7,vI 0),(8,vP i 0),(9,vP q 0)]) (fun(x:ap × Array Value × aS) w'=>aI [i,q] aX w'∧RC w m A cp b w' i x.1∧w'.heap[q]? = some (.cells x.2.1 45 (0,0))∧bG (.slice A b.length cp) b w' x.2.1.toList x.2.2∧(ak cl 0 c b=bC x.2.2 x.1)) ?_ ?_
 rintro⟨C,cs,M⟩ Z ⟨b1,bT,bU,bV,bW⟩
 refine gi [(6,vP an 0),(7,vI 0),(8,vP i 0),(9,vP q 0)] ?_
 have b2:RC w m A cp b Z i C:=bT
 have bX:Z.heap[q]? = some (.cells cs 45 (0,0)):=bU
 have N:bG (.slice A b.length cp) b Z cs.toList M:=bV
 have a0:=bG.size N
 have b3:ak cl 0 c b=bC M C:=bW
 refine aq 1<|ay<|m2 (oa b2) fun cM a1 a2=>nt<|sq<|aq 3<|L0<|fR (p:=⟨i,3,none⟩) (v:=vI C.endC.e) (RC.fld a1)<|ah 1<|?_
 have a3:=u1 b1 a2 im
 have b4:=ut Y a3 (ac (ni d.size f) (ac (ni (le d.size j.size) g) aD))
 refine cb ((C.endC.e != 0)) (fun a4=>?_) (fun a4=>?_)
 have a5:=aA a4
 refine sq<|Rg 7 (fun w'=>w'.cell? ⟨i,3,none⟩=some (vI C.endC.e)) fun cO O=>?_
 have b5:=RC.upd a1 O aE (aI.step (RC.u a1) O)
 refine bv (RC.fld b5) fun E=>Rt 0 E<|Rt 1 E<|Rt 2 E<|Rt 3 E<|Rl 4 E (fun _ hs=>hs)<|?_
 refine R0 5 rfl<|mb (ub (ut L (aJ a3 O) (ac (nr f) (ac (ni j.size g) aD))) t) mZ fun cQ bZ b8=>?_
 have ba:=ud b4 (uz O b8) S
 refine bv (RC.fld (RC.upd b5 b8 (aa (Ne.symm (nb (az t) lr f)) aE) ba)) fun c2=>Rt 6 c2<|re<|tn<|b6<|ck bZ (vI C.endC.e)<|?_
 rw[b3]
 exact dD a5 ba
 have a5:=aF a4
 refine bu<|sg<|?_
 refine L0<|cm (hz:=(by rw[a0];exact aQ)) (bj a2 (Ne.symm (nb (az V) lr g)) bX)<|?_
 refine aG (hz:=(by rw[a0];exact aQ)) (hv:=(bG.size N)) (h1:=(bG.one N hsl)) (ub (ut L a3 (ac (nr f) (ac (ni j.size g) aD))) t) (cs) fun cR c3 bb=>ah 1<|rt<|fO 22 a0 c3 (vI 0)<|?_
 rw[b3]
 exact dX a5 (bG.upd N (us a2 bb) (av (RC.safe b2 _ (by decide)) (av (b9 (ub (ut L b1 (ac (nr f) (ac (ni j.size g) aD))) t) (by decide)) aM))) (ud b4 bb S)
 refine bk<|aB 3<|cb ((c==8)) (fun r=>?_) (fun r=>?_)
 have c4:=ag r
 refine aq 1<|ay<|m3 (d7 b0) fun cS c5 P cT=>Pl 1<|?_
 have k:=nb (az V) lr g
 refine L0<|bY (bj P (Ne.symm k) aY) 8 (mG c 0 0 0 0 0 0 0 ((ap.mk b false 0).wordV) 0 0 0 nS nS nS nS 0 0 0 0 0 nS) fun c6 a6 a7=>aL 1<|aC a6 8<|ay<|m1 (DL (x:=(ap.mk b false 0).wordV) (w:=c6) (by omega)) fun cU F=>Pl 1<|aL 3<|cu 8 [72] 80 ((fa ((ap.mk b false 0).wordV))) (fun K bc=>?_) ?_
 refine bl 72 ((fa ((ap.mk b false 0).wordV))) (fun a8=>?_) (fun a8=>?_)
 refine Pl 1<|?_
 refine L1<|dQ (ub F a6) 8<|Pl 2<|cu 3 [76] 79 (true) (fun K bd=>?_) ?_
 refine bl 76 ((((ap.mk b false 0).wordV)!=4)) (fun a9=>?_) (fun a9=>?_)
 have c7:=aA a9
 exact Pl 3<|ce bd true rfl
 have c7:=aF a9
 exact Pl 3<|ce bd true rfl
 exact Pl 1<|ce bc true a8
 exact Pl 8<|ce bc false a8
 have be:=aJ a7 F
 have ab:=us P be
 have bg:=ut Y ab (ac (ni d.size f) (ac (ni (le d.size j.size) g) aD))
 refine ay<|m2 (bf ((fa ((ap.mk b false 0).wordV))) 8 (RC.upd c5 be (aa k aE) bg)) fun cV c8 s=>?_
 refine gM c8 fun a bh G=>?_
 refine nt<|sq<|aq 1<|?_
 have ad:=bj (uz F s) (Ne.symm k) a6
 refine aC ad 8<|ah 1<|?_
 have bm:=ud bg s (le d.size f)
 refine cb ((((ap.mk b false 0).wordV)==0)) (fun H=>?_) (fun H=>?_)
 have c9:=ag H
 refine aq 1<|ay<|m1 (jT G) fun cW Q=>?_
 have cZ:=RC.clen G
 refine Pl 1<|aL 2<|L0<|Oe (vI (Int.tmod (a.l.length:Int) 2)) (vI ((a.l.length:Int)%2)) (congrArg (Value.int .i64) (Int.tmod_eq_emod_of_nonneg (by omega)))<|Pl 2<|cu 3 [91] 94 (((((a.l.length:Int)%2)==0)&&(decide (2≤(a.l.length:Int))))) (fun K bo=>?_) ?_
 refine bl 91 ((((a.l.length:Int)%2)==0)) (fun I=>?_) (fun I=>?_)
 have ca:=ag I
 exact Pl 3<|ce bo (decide (2≤(a.l.length:Int))) (by rw[I];rfl)
 have ca:=ai I
 exact Pl 3<|ce bo false (by rw[I];rfl)
 refine Pl 1<|cu 3 [95] 98 ((((((a.l.length:Int)%2)==0)&&(decide (2≤(a.l.length:Int))))&&(decide ((a.l.length:Int)≤250)))) (fun K bp=>?_) ?_
 refine bl 95 (((((a.l.length:Int)%2)==0)&&(decide (2≤(a.l.length:Int))))) (fun J=>?_) (fun J=>?_)
 have cc:=(b7 J).1
 have cd:=(b7 J).2
 have d0:=ag cc
 have d1:=of_decide_eq_true cd
 exact Pl 3<|ce bp (decide ((a.l.length:Int)≤250)) (by rw[J];rfl)
 exact Pl 3<|ce bp false (by rw[J];rfl)
 refine ay<|m2 (bf ((((((a.l.length:Int)%2)==0)&&(decide (2≤(a.l.length:Int))))&&(decide ((a.l.length:Int)≤250)))) 5 (RC.upd G Q aE (aI.step (RC.u G) Q))) fun d2 cf bq=>?_
 refine gM cf fun ae cg ch=>?_
 refine aL 2<|L0<|Oe (vI (IntKind.i64.wrap (Int.tdiv (a.l.length:Int) 2))) (vI ((a.l.length:Int)/2)) (congrArg (Value.int .i64) (gW (by omega) (by omega)))<|ay<|qk (i4 (n:=((a.l.length:Int)/2)) (by omega) ch) fun ci cj d3 br d4 d5 cn co=>Pl 1<|?_
 have bs:=uz Q (u1 bq co im)
 refine L0<|bY (bj bs (Ne.symm k) ad) 12 (mG c 0 0 0 0 0 0 0 ((ap.mk b false 0).wordV) 0 0 0 (.slice ci ((ae.wordsR ((a.l.length:Int)/2)).length) cj) nS nS nS 0 0 0 0 0 nS) fun d6 cq af=>nt<|xt<|tx<|bx<|?_
 have bt:=us bs af
 exact jn ((ae.wordsC ((a.l.length:Int)/2)),_,(aS.mk c 0 0 0 0 0 0 0 ((ap.mk b false 0).wordV) 0 0 0 (ae.wordsR ((a.l.length:Int)/2)) [] [] [] 0 0 0 0 0 [])) ⟨(ut ab (ui s bt) (ac im (ac im aD))),(RC.upd cn af (aa k aE) (ut bm bt (ac (ni d.size f) (ac (ni (le d.size j.size) g) aD)))),cq,⟨_,_,_,_,_,rfl,((au br af (fun x hx=>(aa (fun e=>(aO (az W) (le (le (le (le (le (le X.size P.size) a7.size) F.size) s.size) Q.size) bq.size) br) (e▸hx)) aE)) (fun _ _ h=>h))).rd,aT.nil ..,(fun _ _ _=>aT.nil ..),aT.nil ..,aT.nil ..,(cP (by omega))⟩,by subst cg bh;unfold ak cl f7 ej;(try simp only[o,r,H,bi,ea,ed,e9,eb,ec,reduceIte,mf,mg])<;>rfl⟩
 have c9:=ai H
 refine bu<|aq 1<|ay<|m3 (d7 G) fun cr bw aj d8=>Pl 1<|aL 3<|?_
 have bz:=bj aj (Ne.symm k) ad
 refine aC bz 8<|Pl 1<|ay<|m1 (Dz (dir:=0) (sub:=(ap.mk b false 0).wordV) (v:=a.wordV) (w:=cr) (by omega)) fun d9 R=>?_
 refine ay<|m2 (bf ((hY 0 ((ap.mk b false 0).wordV) a.wordV)) 6 (RC.upd bw R aE (aI.step (RC.u bw) R))) fun da ct bA=>?_
 refine gM ct fun cv cw cx=>?_
 refine nt<|go<|Pl 1<|L0<|cX (m:=1) (e:=37) #[vW a.wordV] fun cy db cz cA bB=>?_
 have bD:=eH cz (xs:=[a.wordV]) (by as_aux_lemma=>kernel_rfl) (al (by omega) aP) (by(try simp only[List.length_cons,List.length_nil]);omega) cA
 refine Pl 1<|?_
 have bF:=uz R (aJ bA bB)
 refine L0<|bY (bj bF (Ne.symm k) bz) 12 (mG c 0 0 0 0 0 0 0 ((ap.mk b false 0).wordV) 0 0 0 (.slice (some ⟨cy,0,none⟩) 1 1) nS nS nS 0 0 0 0 0 nS) fun dc cB am=>nl<|bn<|?_
 have bH:=ui aj (us bF am)
 exact jn (cv,_,(aS.mk c 0 0 0 0 0 0 0 ((ap.mk b false 0).wordV) 0 0 0 [a.wordV] [] [] [] 0 0 0 0 0 [])) ⟨(ut ab (ui s bH) (ac im (ac im aD))),(RC.upd cx (uz bB am) (aa k aE) (ut bm bH (ac (ni d.size f) (ac (ni (le d.size j.size) g) aD)))),cB,⟨_,_,_,_,_,rfl,((au bD am (fun x hx=>(aa (fun e=>(aO (az W) (le (le (le (le (le (le (le X.size P.size) a7.size) F.size) s.size) aj.size) R.size) bA.size) bD) (e▸hx)) aE)) (fun _ _ h=>h))).rd,aT.nil ..,(fun _ _ _=>aT.nil ..),aT.nil ..,aT.nil ..,(cP (by omega))⟩,by subst cw bh;unfold ak cl f7 ej;(try simp only[o,r,H,bi,ea,ed,e9,eb,ec,reduceIte,mf,mg])<;>rfl⟩
 have c4:=ai r
 exact aB 3<|c1<|sk<|bn<|jn ((ap.mk b false 0),_,(aS.mk c 0 0 0 0 0 0 0 0 0 0 0 [] [] [] [] 0 0 0 0 0 [])) ⟨(aI.mono (S':=[i,q]) (aI.refl [] _) aD),b0,aY,⟨_,_,_,_,_,rfl,aT.nil ..,aT.nil ..,(fun _ _ _=>aT.nil ..),aT.nil ..,aT.nil ..,(cP (by omega))⟩,by unfold ak cl f7 ej;(try simp only[o,r,bi,ea,ed,e9,eb,ec,reduceIte,mf,mg])<;>rfl⟩
theorem o6(hcode:B8 c)(hsl:aV m w (.slice A b.length cp) b)(hb:b.length≤1048576) :
    Calls Tryz.prog 111 #[vI 1,vB c,.slice A b.length cp] w (cN (.slice A b.length cp) b (ak cl 1 c b) w):=by
 obtain⟨hcode1,hcode2⟩:=hcode
 have hln:(b.length:Int)≤1048576:=by omega
 refine en 197 Tryz.func111 rfl<|sg<|aK mZ fun b4 ez a9 F a=>ah 1<|sq<|aB 6<|c0<|bu<|sq<|aq 3<|cu 3 [24] 27 (((c != 7)&&(c != 8))) (fun K b5=>?_) ?_
 refine bl 24 ((c != 7)) (fun G=>?_) (fun G=>?_)
 have cJ:=aA G
 exact Pl 3<|ce b5 (c != 8) (by rw[G];rfl)
 have cJ:=aF G
 exact Pl 3<|ce b5 false (by rw[G];rfl)
 refine Pl 1<|cu 3 [28] 31 ((((c != 7)&&(c != 8))&&(c != 11))) (fun K b8=>?_) ?_
 refine bl 28 (((c != 7)&&(c != 8))) (fun H=>?_) (fun H=>?_)
 have cK:=(b7 H).1
 have cL:=(b7 H).2
 have eA:=aA cK
 have eB:=aA cL
 exact Pl 3<|ce b8 (c != 11) (by rw[H];rfl)
 exact Pl 3<|ce b8 false (by rw[H];rfl)
 refine Pl 1<|cu 3 [32] 35 (((((c != 7)&&(c != 8))&&(c != 11))&&(c != 12))) (fun K ba=>?_) ?_
 refine bl 32 ((((c != 7)&&(c != 8))&&(c != 11))) (fun I=>?_) (fun I=>?_)
 have bb:=(b7 I).1
 have cM:=(b7 I).2
 have cO:=(b7 bb).1
 have cQ:=(b7 bb).2
 have q19aap:=aA cO
 have q19abp:=aA cQ
 have eC:=aA cM
 exact Pl 3<|ce ba (c != 12) (by rw[I];rfl)
 exact Pl 3<|ce ba false (by rw[I];rfl)
 refine Pl 1<|cu 3 [36] 39 ((((((c != 7)&&(c != 8))&&(c != 11))&&(c != 12))&&(c != 17))) (fun K bc=>?_) ?_
 refine bl 36 (((((c != 7)&&(c != 8))&&(c != 11))&&(c != 12))) (fun J=>?_) (fun J=>?_)
 have bd:=(b7 J).1
 have cR:=(b7 J).2
 have be:=(b7 bd).1
 have cS:=(b7 bd).2
 have q21aaa:=(b7 be).1
 have q21aab:=(b7 be).2
 have q21aaap:=aA q21aaa
 have q21aabp:=aA q21aab
 have q21abp:=aA cS
 have eD:=aA cR
 exact Pl 3<|ce bc (c != 17) (by rw[J];rfl)
 exact Pl 3<|ce bc false (by rw[J];rfl)
 refine nt<|cb ((((((c != 7)&&(c != 8))&&(c != 11))&&(c != 12))&&(c != 17))) (fun k=>?_) (fun k=>?_)
 have ab:=(b7 k).1
 have bg:=(b7 k).2
 have ad:=(b7 ab).1
 have bh:=(b7 ab).2
 have q23aaa:=(b7 ad).1
 have q23aab:=(b7 ad).2
 have q23aaaa:=(b7 q23aaa).1
 have q23aaab:=(b7 q23aaa).2
 have q23aaaap:=aA q23aaaa
 have q23aaabp:=aA q23aaab
 have q23aabp:=aA q23aab
 have q23abp:=aA bh
 have eE:=aA bg
 refine aq 1<|aG F mZ fun eF cT cU=>ah 1<|b6<|ck cT (vI 4)<|?_
 exact cI (by unfold ak cl f7 ej;(try simp only[k,ab,ad,q23aaa,q23aaaa,q23aaab,q23aab,bh,bg,bi,ea,ed,e9,eb,ec,reduceIte,mf,mg])<;>rfl) (bE (ud a cU a9))
 refine bu<|aq 2<|L0<|cY #[.slice A b.length cp,vI 0,.bool false,vI 0] fun r eG g y i=>Pl 1<|aL 2<|aK mZ fun L eI f ae cV=>aG ae (mC c) fun bm N af=>?_
 refine nt<|?_
 have bo:=ud cV af f
 have a1:=aJ i bo
 have z:=aJ a a1
 have O:RC w _ A cp b bm r (ap.mk b false 0):=⟨hsl,z,(Nat.le_trans a.size g),⟨0,(ub bo y),Nat.zero_le _,rfl⟩,by omega⟩
 refine A7 (fun x=>[(6,vP b4 0),(7,vI 0),(8,vP r 0),(9,vP L 0)]) (fun(x:ap × Array Value × aS) w'=>aI [r,L] bm w'∧RC w m A cp b w' r x.1∧w'.heap[L]? = some (.cells x.2.1 45 (0,0))∧bG (.slice A b.length cp) b w' x.2.1.toList x.2.2∧(ak cl 1 c b=bC x.2.2 x.1)) ?_ ?_
 rintro⟨C,cs,M⟩ aj ⟨bq,cW,cZ,d0,d1⟩
 refine gi [(6,vP b4 0),(7,vI 0),(8,vP r 0),(9,vP L 0)] ?_
 have br:RC w m A cp b aj r C:=cW
 have d2:aj.heap[L]? = some (.cells cs 45 (0,0)):=cZ
 have a2:bG (.slice A b.length cp) b aj cs.toList M:=d0
 have am:=bG.size a2
 have bs:ak cl 1 c b=bC M C:=d1
 refine aq 1<|ay<|m2 (oa br) fun eJ an ao=>nt<|sq<|aq 3<|L0<|fR (p:=⟨r,3,none⟩) (v:=vI C.endC.e) (RC.fld an)<|ah 1<|?_
 have ar:=u1 bq ao im
 have bt:=ut z ar (ac (ni a.size g) (ac (ni (le a.size i.size) f) aD))
 refine cb ((C.endC.e != 0)) (fun aw=>?_) (fun aw=>?_)
 have ax:=aA aw
 refine sq<|Rg 7 (fun w'=>w'.cell? ⟨r,3,none⟩=some (vI C.endC.e)) fun eL a3=>?_
 have bw:=RC.upd an a3 aE (aI.step (RC.u an) a3)
 refine bv (RC.fld bw) fun P=>Rt 0 P<|Rt 1 P<|Rt 2 P<|Rt 3 P<|Rl 4 P (fun _ hs=>hs)<|?_
 refine R0 5 rfl<|mb (ub (ut a1 (aJ ar a3) (ac (nr g) (ac (ni i.size f) aD))) F) mZ fun eM d3 bz=>?_
 have bA:=ud bt (uz a3 bz) a9
 refine bv (RC.fld (RC.upd bw bz (aa (Ne.symm (nb (az F) lr g)) aE) bA)) fun d4=>Rt 6 d4<|re<|tn<|b6<|ck d3 (vI C.endC.e)<|?_
 rw[bs]
 exact dD ax bA
 have ax:=aF aw
 refine bu<|sg<|?_
 refine L0<|cm (hz:=(by rw[am];exact aQ)) (bj ao (Ne.symm (nb (az y) lr f)) d2)<|?_
 refine aG (hz:=(by rw[am];exact aQ)) (hv:=(bG.size a2)) (h1:=(bG.one a2 hsl)) (ub (ut a1 ar (ac (nr g) (ac (ni i.size f) aD))) F) (cs) fun eN d5 bB=>ah 1<|rt<|fO 22 am d5 (vI 0)<|?_
 rw[bs]
 exact dX ax (bG.upd a2 (us ao bB) (av (RC.safe br _ (by decide)) (av (b9 (ub (ut a1 bq (ac (nr g) (ac (ni i.size f) aD))) F) (by decide)) aM))) (ud bt bB a9)
 refine bk<|aB 3<|cb ((c==8)) (fun q=>?_) (fun q=>?_)
 have d6:=ag q
 refine aq 1<|ay<|m3 (d7 O) fun eO d8 a4 eP=>Pl 1<|?_
 have s:=nb (az y) lr f
 refine L0<|bY (bj a4 (Ne.symm s) N) 8 (mG c 0 0 0 0 0 0 0 ((ap.mk b false 0).wordV) 0 0 0 nS nS nS nS 0 0 0 0 0 nS) fun d9 aH aN=>aL 1<|aC aH 8<|ay<|m1 (DL (x:=(ap.mk b false 0).wordV) (w:=d9) (by omega)) fun eQ Q=>Pl 1<|aL 3<|cu 8 [72] 80 (((fa ((ap.mk b false 0).wordV))&&(((ap.mk b false 0).wordV)!=4))) (fun K bD=>?_) ?_
 refine bl 72 ((fa ((ap.mk b false 0).wordV))) (fun aR=>?_) (fun aR=>?_)
 refine Pl 1<|?_
 refine L1<|dQ (ub Q aH) 8<|Pl 2<|cu 3 [76] 79 ((((ap.mk b false 0).wordV)!=4)) (fun K bF=>?_) ?_
 refine bl 76 ((((ap.mk b false 0).wordV)!=4)) (fun R=>?_) (fun R=>?_)
 have da:=aA R
 exact Pl 3<|ce bF true R
 have da:=aF R
 exact Pl 3<|ce bF false R
 exact Pl 1<|ce bD (((ap.mk b false 0).wordV)!=4) (by rw[aR];rfl)
 exact Pl 8<|ce bD false (by rw[aR];rfl)
 have bH:=aJ aN Q
 have aU:=us a4 bH
 have bI:=ut z aU (ac (ni a.size g) (ac (ni (le a.size i.size) f) aD))
 refine ay<|m2 (bf (((fa ((ap.mk b false 0).wordV))&&(((ap.mk b false 0).wordV)!=4))) 8 (RC.upd d8 bH (aa s aE) bI)) fun eR db D=>?_
 refine gM db fun d bJ S=>?_
 refine nt<|sq<|aq 1<|?_
 have aW:=bj (uz Q D) (Ne.symm s) aH
 refine aC aW 8<|ah 1<|?_
 have bK:=ud bI D (le a.size g)
 refine cb ((((ap.mk b false 0).wordV)==0)) (fun T=>?_) (fun T=>?_)
 have dc:=ag T
 refine aq 1<|ay<|m1 (jT S) fun eS a5=>?_
 have eT:=RC.clen S
 refine Pl 1<|aL 2<|L0<|Oe (vI (Int.tmod (d.l.length:Int) 2)) (vI ((d.l.length:Int)%2)) (congrArg (Value.int .i64) (Int.tmod_eq_emod_of_nonneg (by omega)))<|Pl 2<|cu 3 [91] 94 (((((d.l.length:Int)%2)==0)&&(decide (2≤(d.l.length:Int))))) (fun K bL=>?_) ?_
 refine bl 91 ((((d.l.length:Int)%2)==0)) (fun U=>?_) (fun U=>?_)
 have dd:=ag U
 exact Pl 3<|ce bL (decide (2≤(d.l.length:Int))) (by rw[U];rfl)
 have dd:=ai U
 exact Pl 3<|ce bL false (by rw[U];rfl)
 refine Pl 1<|cu 3 [95] 98 ((((((d.l.length:Int)%2)==0)&&(decide (2≤(d.l.length:Int))))&&(decide ((d.l.length:Int)≤250)))) (fun K bM=>?_) ?_
 refine bl 95 (((((d.l.length:Int)%2)==0)&&(decide (2≤(d.l.length:Int))))) (fun V=>?_) (fun V=>?_)
 have de:=(b7 V).1
 have df:=(b7 V).2
 have eU:=ag de
 have eV:=of_decide_eq_true df
 exact Pl 3<|ce bM (decide ((d.l.length:Int)≤250)) (by rw[V];rfl)
 exact Pl 3<|ce bM false (by rw[V];rfl)
 refine ay<|m2 (bf ((((((d.l.length:Int)%2)==0)&&(decide (2≤(d.l.length:Int))))&&(decide ((d.l.length:Int)≤250)))) 5 (RC.upd S a5 aE (aI.step (RC.u S) a5))) fun eW dg bN=>?_
 refine gM dg fun aX dh di=>?_
 refine aL 2<|L0<|Oe (vI (IntKind.i64.wrap (Int.tdiv (d.l.length:Int) 2))) (vI ((d.l.length:Int)/2)) (congrArg (Value.int .i64) (gW (by omega) (by omega)))<|ay<|qk (i4 (n:=((d.l.length:Int)/2)) (by omega) di) fun dj dk eX bO eY eZ dl dm=>Pl 1<|?_
 have bP:=uz a5 (u1 bN dm im)
 refine L0<|bY (bj bP (Ne.symm s) aW) 12 (mG c 0 0 0 0 0 0 0 ((ap.mk b false 0).wordV) 0 0 0 (.slice dj ((aX.wordsR ((d.l.length:Int)/2)).length) dk) nS nS nS 0 0 0 0 0 nS) fun f0 dn aY=>nt<|xt<|tx<|bx<|?_
 have bQ:=us bP aY
 exact jn ((aX.wordsC ((d.l.length:Int)/2)),_,(aS.mk c 0 0 0 0 0 0 0 ((ap.mk b false 0).wordV) 0 0 0 (aX.wordsR ((d.l.length:Int)/2)) [] [] [] 0 0 0 0 0 [])) ⟨(ut aU (ui D bQ) (ac im (ac im aD))),(RC.upd dl aY (aa s aE) (ut bK bQ (ac (ni a.size g) (ac (ni (le a.size i.size) f) aD)))),dn,⟨_,_,_,_,_,rfl,((au bO aY (fun x hx=>(aa (fun e=>(aO (az ae) (le (le (le (le (le (le af.size a4.size) aN.size) Q.size) D.size) a5.size) bN.size) bO) (e▸hx)) aE)) (fun _ _ h=>h))).rd,aT.nil ..,(fun _ _ _=>aT.nil ..),aT.nil ..,aT.nil ..,(cP (by omega))⟩,by subst dh bJ;unfold ak cl f7 ej;(try simp only[k,q,T,bi,ea,ed,e9,eb,ec,reduceIte,mf,mg])<;>rfl⟩
 have dc:=ai T
 refine bu<|aq 1<|ay<|m3 (d7 S) fun dp bR aZ f1=>Pl 1<|aL 3<|?_
 have bS:=bj aZ (Ne.symm s) aW
 refine aC bS 8<|Pl 1<|ay<|m1 (Dz (dir:=1) (sub:=(ap.mk b false 0).wordV) (v:=d.wordV) (w:=dp) (by omega)) fun f2 a6=>?_
 refine ay<|m2 (bf ((hY 1 ((ap.mk b false 0).wordV) d.wordV)) 6 (RC.upd bR a6 aE (aI.step (RC.u bR) a6))) fun f3 dq bT=>?_
 refine gM dq fun dr ds dt=>?_
 refine nt<|go<|Pl 1<|L0<|cX (m:=1) (e:=37) #[vW d.wordV] fun du f4 dv dw bU=>?_
 have bV:=eH dv (xs:=[d.wordV]) (by as_aux_lemma=>kernel_rfl) (al (by omega) aP) (by(try simp only[List.length_cons,List.length_nil]);omega) dw
 refine Pl 1<|?_
 have bW:=uz a6 (aJ bT bU)
 refine L0<|bY (bj bW (Ne.symm s) bS) 12 (mG c 0 0 0 0 0 0 0 ((ap.mk b false 0).wordV) 0 0 0 (.slice (some ⟨du,0,none⟩) 1 1) nS nS nS 0 0 0 0 0 nS) fun f5 dx b0=>nl<|bn<|?_
 have bX:=ui aZ (us bW b0)
 exact jn (dr,_,(aS.mk c 0 0 0 0 0 0 0 ((ap.mk b false 0).wordV) 0 0 0 [d.wordV] [] [] [] 0 0 0 0 0 [])) ⟨(ut aU (ui D bX) (ac im (ac im aD))),(RC.upd dt (uz bU b0) (aa s aE) (ut bK bX (ac (ni a.size g) (ac (ni (le a.size i.size) f) aD)))),dx,⟨_,_,_,_,_,rfl,((au bV b0 (fun x hx=>(aa (fun e=>(aO (az ae) (le (le (le (le (le (le (le af.size a4.size) aN.size) Q.size) D.size) aZ.size) a6.size) bT.size) bV) (e▸hx)) aE)) (fun _ _ h=>h))).rd,aT.nil ..,(fun _ _ _=>aT.nil ..),aT.nil ..,aT.nil ..,(cP (by omega))⟩,by subst ds bJ;unfold ak cl f7 ej;(try simp only[k,q,T,bi,ea,ed,e9,eb,ec,reduceIte,mf,mg])<;>rfl⟩
 have d6:=ai q
 refine aB 3<|c0<|aB 3<|cb ((c==7)) (fun B=>?_) (fun B=>?_)
 have dy:=ag B
 refine go<|Pl 1<|ay<|m3 (eK O) fun f6 dz bZ f8=>L0<|Dk ((ap.mk b false 0).byteV)<|Pl 1<|?_
 have c1:=nb (az y) lr f
 refine L0<|bY (bj bZ (Ne.symm c1) N) 4 (mG c 0 0 0 ((ap.mk b false 0).byteV) 0 0 0 0 0 0 0 nS nS nS nS 0 0 0 0 0 nS) fun f9 dA c2=>nl<|bn<|?_
 have c3:=us bZ c2
 exact jn (((ap.mk b false 0).bytesC 1),_,(aS.mk c 0 0 0 ((ap.mk b false 0).byteV) 0 0 0 0 0 0 0 [] [] [] [] 0 0 0 0 0 [])) ⟨c3,(RC.upd dz c2 (aa c1 aE) (ut z c3 (ac (ni a.size g) (ac (ni (le a.size i.size) f) aD)))),dA,⟨_,_,_,_,_,rfl,aT.nil ..,aT.nil ..,(fun _ _ _=>aT.nil ..),aT.nil ..,aT.nil ..,(cP (by omega))⟩,by unfold ak cl f7 ej;(try simp only[k,q,B,bi,ea,ed,e9,eb,ec,reduceIte,mf,mg])<;>rfl⟩
 have dy:=ai B
 refine aB 3<|cb ((c==11)) (fun E=>?_) (fun E=>?_)
 have dB:=ag E
 refine aq 1<|ay<|m3 (d7 O) fun fb dC c4 fc=>Pl 1<|?_
 have a7:=nb (az y) lr f
 refine L0<|bY (bj c4 (Ne.symm a7) N) 9 (mG c 0 0 0 0 0 0 0 0 ((ap.mk b false 0).wordV) 0 0 nS nS nS nS 0 0 0 0 0 nS) fun fd b1 c5=>aL 2<|aC b1 9<|Pl 2<|cu 4 [137] 141 (((((ap.mk b false 0).wordV)==0)||(((ap.mk b false 0).wordV)==65535))) (fun K c6=>?_) ?_
 refine bl 137 ((((ap.mk b false 0).wordV)==0)) (fun W=>?_) (fun W=>?_)
 have dE:=ag W
 exact Pl 4<|ce c6 true (by rw[W];rfl)
 have dE:=ai W
 exact Pl 1<|L1<|dQ b1 9<|Pl 2<|ce c6 (((ap.mk b false 0).wordV)==65535) (by rw[W];rfl)
 have c7:=us c4 c5
 have c8:=ut z c7 (ac (ni a.size g) (ac (ni (le a.size i.size) f) aD))
 refine ay<|m2 (bf (((((ap.mk b false 0).wordV)==0)||(((ap.mk b false 0).wordV)==65535))) 6 (RC.upd dC c5 (aa a7 aE) c8)) fun fe dF dG=>?_
 refine gM dF fun b2 dH dI=>?_
 refine nt<|go<|Pl 1<|ay<|m3 (d7 dI) fun ff dJ dK fg=>Pl 1<|?_
 have c9:=u1 dG dK im
 refine L0<|bY (bj c9 (Ne.symm a7) b1) 10 (mG c 0 0 0 0 0 0 0 0 ((ap.mk b false 0).wordV) b2.wordV 0 nS nS nS nS 0 0 0 0 0 nS) fun fh dL ca=>nl<|bn<|?_
 have cc:=us c9 ca
 exact jn ((b2.wordsC 1),_,(aS.mk c 0 0 0 0 0 0 0 0 ((ap.mk b false 0).wordV) b2.wordV 0 [] [] [] [] 0 0 0 0 0 [])) ⟨(ut c7 cc (ac im (ac im aD))),(RC.upd dJ ca (aa a7 aE) (ut c8 cc (ac (ni a.size g) (ac (ni (le a.size i.size) f) aD)))),dL,⟨_,_,_,_,_,rfl,aT.nil ..,aT.nil ..,(fun _ _ _=>aT.nil ..),aT.nil ..,aT.nil ..,(cP (by omega))⟩,by subst dH;unfold ak cl f7 ej;(try simp only[k,q,B,E,bi,ea,ed,e9,eb,ec,reduceIte,mf,mg])<;>rfl⟩
 have dB:=ai E
 refine aB 3<|cb ((c==12)) (fun X=>?_) (fun X=>?_)
 have dM:=ag X
 refine aq 1<|ay<|m3 (eK O) fun fi dN dO fj=>bp ((ap.mk b false 0).byteV)<|Pl 1<|aL 4<|cu 3 [155] 158 (((decide (6≤((ap.mk b false 0).byteV)))&&(decide (((ap.mk b false 0).byteV)≤70)))) (fun K cd=>?_) ?_
 refine bl 155 ((decide (6≤((ap.mk b false 0).byteV)))) (fun Y=>?_) (fun Y=>?_)
 have dP:=of_decide_eq_true Y
 exact Pl 3<|ce cd (decide (((ap.mk b false 0).byteV)≤70)) (by rw[Y];rfl)
 have dP:=of_decide_eq_false Y
 exact Pl 3<|ce cd false (by rw[Y];rfl)
 refine ay<|m2 (bf (((decide (6≤((ap.mk b false 0).byteV)))&&(decide (((ap.mk b false 0).byteV)≤70)))) 5 dN) fun fk dR dS=>?_
 refine gM dR fun j dT dU=>?_
 refine aL 1<|ay<|m3 (d7 dU) fun fl dV dW fm=>Pl 1<|?_
 have cf:=u1 dO (u1 dS dW im) im
 have t:=nb (az y) lr f
 refine L0<|bY (bj cf (Ne.symm t) N) 9 (mG c 0 0 0 0 0 0 0 0 j.wordV 0 0 nS nS nS nS 0 0 0 0 0 nS) fun fn b3 cg=>aL 2<|aC b3 9<|Pl 2<|cu 4 [167] 171 (((j.wordV==0)||(j.wordV==65535))) (fun K ch=>?_) ?_
 refine bl 167 ((j.wordV==0)) (fun Z=>?_) (fun Z=>?_)
 have dY:=ag Z
 exact Pl 4<|ce ch true (by rw[Z];rfl)
 have dY:=ai Z
 exact Pl 1<|L1<|dQ b3 9<|Pl 2<|ce ch (j.wordV==65535) (by rw[Z];rfl)
 have ci:=us cf cg
 have cj:=ut z ci (ac (ni a.size g) (ac (ni (le a.size i.size) f) aD))
 refine ay<|m2 (bf (((j.wordV==0)||(j.wordV==65535))) 6 (RC.upd dV cg (aa t aE) cj)) fun fo dZ e0=>?_
 refine gM dZ fun o e1 e2=>?_
 refine aL 1<|ay<|m3 (d7 e2) fun fp e3 e4 fq=>Pl 1<|?_
 have cn:=u1 e0 e4 im
 refine L0<|bY (bj cn (Ne.symm t) b3) 10 (mG c 0 0 0 0 0 0 0 0 j.wordV o.wordV 0 nS nS nS nS 0 0 0 0 0 nS) fun fr e5 co=>aL 1<|?_
 have cq:=us cn co
 have cr:=ut cj cq (ac (ni a.size g) (ac (ni (le a.size i.size) f) aD))
 refine ay<|m3 (d7 (RC.upd e3 co (aa t aE) cr)) fun fs e6 ct ft=>Pl 1<|?_
 refine L0<|bY (bj ct (Ne.symm t) e5) 11 (mG c 0 0 0 0 0 0 0 0 j.wordV o.wordV ((o.wordsC 1).wordV) nS nS nS nS 0 0 0 0 0 nS) fun fu e7 cv=>nt<|go<|Pl 2<|bp (((ap.mk b false 0).byteV)-6)<|?_
 have cw:=us ct cv
 have cx:=ut cr cw (ac (ni a.size g) (ac (ni (le a.size i.size) f) aD))
 have cy:=RC.upd e6 cv (aa t aE) cx
 refine ay<|sW (gA (n:=(((ap.mk b false 0).byteV)-6)) (by omega) cy) fun e8 ee fv ef eg cz=>?_
 have fw:=Nat.le_trans (ap.bytesR_le ((o.wordsC 1).wordsC 1) (((ap.mk b false 0).byteV)-6)) (RC.clen cy)
 refine gM eg fun eh ei ek=>?_
 refine Pl 1<|?_
 refine L0<|bY (bj cz (Ne.symm t) e7) 14 (mG c 0 0 0 0 0 0 0 0 j.wordV o.wordV ((o.wordsC 1).wordV) nS nS (.slice e8 ((((o.wordsC 1).wordsC 1).bytesR (((ap.mk b false 0).byteV)-6)).length) ee) nS 0 0 0 0 0 nS) fun fx el cA=>nl<|bn<|?_
 have cB:=us cz cA
 exact jn (eh,_,(aS.mk c 0 0 0 0 0 0 0 0 j.wordV o.wordV ((o.wordsC 1).wordV) [] [] (((o.wordsC 1).wordsC 1).bytesR (((ap.mk b false 0).byteV)-6)) [] 0 0 0 0 0 [])) ⟨(ut ci (ut cq (ut cw cB (ac im (ac im aD))) (ac im (ac im aD))) (ac im (ac im aD))),(RC.upd ek cA (aa t aE) (ut cx cB (ac (ni a.size g) (ac (ni (le a.size i.size) f) aD)))),el,⟨_,_,_,_,_,rfl,aT.nil ..,aT.nil ..,ef,aT.nil ..,aT.nil ..,(cP (by omega))⟩,by subst ei e1 dT;unfold ak cl f7 ej;(try simp only[k,q,B,E,X,bi,ea,ed,e9,eb,ec,reduceIte,mf,mg])<;>rfl⟩
 have dM:=ai X
 refine aq 1<|ay<|m3 (eK O) fun fy em eo fz=>bp ((ap.mk b false 0).byteV)<|Pl 1<|aL 4<|cu 3 [52] 55 (((decide (1≤((ap.mk b false 0).byteV)))&&(decide (((ap.mk b false 0).byteV)≤251)))) (fun K cC=>?_) ?_
 refine bl 52 ((decide (1≤((ap.mk b false 0).byteV)))) (fun a0=>?_) (fun a0=>?_)
 have ep:=of_decide_eq_true a0
 exact Pl 3<|ce cC (decide (((ap.mk b false 0).byteV)≤251)) (by rw[a0];rfl)
 have ep:=of_decide_eq_false a0
 exact Pl 3<|ce cC false (by rw[a0];rfl)
 refine ay<|m2 (bf (((decide (1≤((ap.mk b false 0).byteV)))&&(decide (((ap.mk b false 0).byteV)≤251)))) 5 em) fun fA eq er=>?_
 refine gM eq fun a8 es cD=>?_
 refine nt<|go<|Pl 2<|ay<|sW (gA (n:=(ap.mk b false 0).byteV) (by omega) cD) fun et eu fB ev ew ex=>?_
 have fC:=Nat.le_trans (ap.bytesR_le a8 ((ap.mk b false 0).byteV)) (RC.clen cD)
 refine Pl 1<|?_
 have cE:=u1 eo (u1 er ex im) im
 have cF:=nb (az y) lr f
 refine L0<|bY (bj cE (Ne.symm cF) N) 14 (mG c 0 0 0 0 0 0 0 0 0 0 0 nS nS (.slice et ((a8.bytesR ((ap.mk b false 0).byteV)).length) eu) nS 0 0 0 0 0 nS) fun fD ey cG=>nl<|bn<|?_
 have cH:=us cE cG
 exact jn ((a8.bytesC ((ap.mk b false 0).byteV)),_,(aS.mk c 0 0 0 0 0 0 0 0 0 0 0 [] [] (a8.bytesR ((ap.mk b false 0).byteV)) [] 0 0 0 0 0 [])) ⟨cH,(RC.upd ew cG (aa cF aE) (ut z cH (ac (ni a.size g) (ac (ni (le a.size i.size) f) aD)))),ey,⟨_,_,_,_,_,rfl,aT.nil ..,aT.nil ..,ev,aT.nil ..,aT.nil ..,(cP (by omega))⟩,by subst es;unfold ak cl f7 ej;(try simp only[k,q,B,E,X,bi,ea,ed,e9,eb,ec,reduceIte,mf,mg])<;>rfl⟩
theorem o9(hcode:B8 c)(hsl:aV m w (.slice A b.length cp) b)(hb:b.length≤1048576)(hd:¬ (dir=0∨dir=1)) :
    Calls Tryz.prog 111 #[vI dir,vB c,.slice A b.length cp] w (cN (.slice A b.length cp) b (ak cl dir c b) w):=by
 obtain⟨hcode1,hcode2⟩:=hcode
 have hln:(b.length:Int)≤1048576:=by omega
 have e0:(dir != 0)=true:=by simp;omega
 have e1:(dir != 1)=true:=by simp;omega
 refine en 197 Tryz.func111 rfl<|sg<|aK mZ fun g h a d e=>ah 1<|sq<|aq 3<|sy 17 e0<|Pl 3<|nl<|tn<|ct e1<|aq 1<|aG d mZ fun i eR f=>ah 1<|b6<|ck eR (vI 1)<|?_
 exact cI (by unfold ak cl f7 ej;(try simp only[e0,e1,bi,ea,ed,e9,eb,ec,reduceIte,hd,mf,mg])<;>rfl) (bE (ud e f a))
open Go.RowKit
theorem eY(h:C.e≠0) : C.need ok x=C:=by
  unfold ap.need
  rw[if_neg fun k=>h k.1]
theorem fQ(h:C.fails n=true) : (C.bytesC n).e≠0:=by
  unfold ap.bytesC
  rw[if_pos h]
  unfold ap.need
  split
  · exact(show(2:Int)≠0 from by decide)
  · rename_i k
    intro e
    exact k ⟨e,rfl⟩
theorem qp(h:(C.wordsR 1).length≠1) : (C.wordsC 1).e≠0:=by
  unfold ap.wordsR at h
  unfold ap.wordsC
  split
  · exact fQ (by unfold ap.fails;simp)
  · rename_i hb
    rw[if_neg hb] at h
    by_cases hf:C.fails (2*1)=true
    · exact fQ hf
    · exfalso
      apply h
      unfold ap.bytesR
      rw[if_neg hf]
      unfold ap.fails at hf
      simp only[Bool.or_eq_true,decide_eq_true_eq,not_or] at hf
      rcases e:C.l with _|⟨a,_|⟨b,t⟩⟩
      · rw[e] at hf;simp at hf
      · rw[e] at hf;simp at hf
      · show(cw [a,b]).length=1
        unfold cw
        rw[if_pos (by simp)]
        simp[dB]
theorem tz(h:(C.wordsR 1).length=1) : [C.wordV]=C.wordsR 1:=by
  unfold ap.wordV
  rcases e:C.wordsR 1 with _|⟨a,_|⟨b,t⟩⟩
  · rw[e] at h;simp at h
  · rfl
  · rw[e] at h;simp at h
theorem wG{M':aS}  (h:C.e≠0) : bC M C=bC M' C:=by
  unfold bC
  have e:C.endC.e≠0:=by unfold ap.endC;rw[eY h];exact h
  rw[if_neg e,if_neg e]
theorem vQ(dir:Int)(C:ap) : fE dir C=fq dir C:=by
  unfold fE fq
  rw[Bool.or_comm]
theorem vu(dir c:Int)(C:ap) : bC (f7 dir c C).2 (f7 dir c C).1=bC (eM dir c C).2 (eM dir c C).1:=by
  unfold f7 eM
  rw[vQ]
  by_cases h0:C.wordV=0
  · rw[h0,if_pos (show((0:Int)==0)=true from rfl),if_neg (show ¬ ((0:Int)!=0)=true from by decide)]
  · rw[if_neg (by simpa using h0),if_pos (by simpa using h0)]
    by_cases h1:((fq dir C).wordsR 1).length=1
    · rw[tz h1,show((((fq dir C).wordsR 1).length:Int)==1)=true from by rw[h1];rfl,Bool.true_and]
      rfl
    · have k:=qp h1
      dsimp only
      rw[eY k,eY k]
      exact wG k
theorem o7{f f':Int→Int→ap→Option (ap × aS)}   (h:∀ C,(dir=0∨dir=1)→(f dir c C=none∧f' dir c C=none)∨∃ r r',f dir c C=some r∧f' dir c C=some r'∧bC r.2 r.1=bC r'.2 r'.1) : ak f dir c b=ak f' dir c b:=by
  unfold ak
  split
  · rename_i hd
    rcases h ⟨b,false,0⟩ hd with⟨h1,h2⟩|⟨r,r',h1,h2,h3⟩
    · rw[h1,h2]
    · rw[h1,h2];exact h3
  · rfl
theorem qv(dir c:Int)(b:List Int) : ak cl dir c b=ak bo dir c b:=by
  refine o7 fun C hd=>?_
  unfold cl bo
  by_cases h8:c=8
  · subst h8
    exact .inr ⟨_,_,rfl,rfl,vu dir 8 C⟩
  · by_cases h:c=7∨c=11∨c=12∨c=17
    · refine .inr ?_
      rw[if_neg (show ¬ (((((c != 7)&&(c != 8))&&(c != 11))&&(c != 12))&&(c != 17))=true from by rcases h with rfl | rfl | rfl | rfl<;>decide),if_neg (show ¬ (c==8)=true from by simpa using h8),if_neg (show ¬ (c==8)=true from by simpa using h8),if_pos (show(c==7 || c==11 || c==12 || c==17)=true from by rcases h with rfl | rfl | rfl | rfl<;>decide)]
      rcases hd with rfl|rfl
      · exact⟨_,_,rfl,rfl,rfl⟩
      · refine⟨_,_,rfl,rfl,?_⟩
        rcases h with rfl|rfl|rfl|rfl<;>rfl
    · refine .inl ?_
      rw[if_pos (show(((((c != 7)&&(c != 8))&&(c != 11))&&(c != 12))&&(c != 17))=true from by simp;omega),if_neg (show ¬ (c==8)=true from by simpa using h8),if_neg (show ¬ (c==7 || c==11 || c==12 || c==17)=true from by simp;omega)]
      exact⟨rfl,rfl⟩
open Go.RowKit
theorem qy:ep n=if n<1 then 0 else n/8+(if 0<n%8 then 1 else 0):=by
  unfold ep
  split
  · rfl
  · split<;>omega
theorem mI(l:List Bool)(j:Nat) : ch (l.take (8*j)) j=0:=by
  have h:=oM l (8*j)
  rw[show 8*j/8=j from by omega,show 8*j%8=0 from by omega] at h
  omega
variable {j t:Nat}{l:List Bool}
theorem ln(ht:t<8) : ch (l.take (8*j+t+1)) j=ch (l.take (8*j+t)) j+if l.getD (8*j+t) false=true then 2 ^ t else 0:=by
  rw[jp,show(8*j+t)/8=j from by omega,show(8*j+t)%8=t from by omega]
  simp
theorem wH(h:t=8∨l.length≤8*j+t) : ch (l.take (8*j+t)) j=ch l j:=by
  rcases h with rfl|h
  · unfold ch
    simp only[jM]
    simp
  · rw[List.take_of_length_le h]
theorem zO(h1:l.length≤8*j)(h2:8*j<l.length+8) : (List.range j).map (fun i=>(ch l i:Int))=bP l:=by
  unfold bP
  rw[show(ep l.length).toNat=j from by unfold ep;split<;>omega]
theorem wd(l:List Bool) : ((bP l).length:Int)=ep l.length:=by
  unfold bP
  rw[List.length_map,List.length_range]
  unfold ep
  split<;>omega
theorem Ew:∀ x0 x1 x2 x3 x4 x5 x6 x7:Bool,∀ t:Fin 8,(((((if x0=true then 1 else 0)+(if x1=true then 2 else 0)+(if x2=true then 4 else 0)+(if x3=true then 8 else 0)+(if x4=true then 16 else 0)+(if x5=true then 32 else 0)+(if x6=true then 64 else 0)+(if x7=true then 128 else 0) : Nat) : Int)/2 ^ t.val%2==1)=[x0,x1,x2,x3,x4,x5,x6,x7].getD t.val false):=by decide +kernel
theorem Di(ht:t<8) : ((ch l j:Int)/2 ^ t%2==1)=l.getD (8*j+t) false:=by
  have h:=Ew (l.getD (8*j) false) (l.getD (8*j+1) false) (l.getD (8*j+2) false) (l.getD (8*j+3) false) (l.getD (8*j+4) false) (l.getD (8*j+5) false) (l.getD (8*j+6) false) (l.getD (8*j+7) false) ⟨t,ht⟩
  refine h.trans ?_
  rcases t with _|_|_|_|_|_|_|_|t
  case succ.succ.succ.succ.succ.succ.succ.succ=>omega
  all_goals rfl
theorem sQ(l:List Bool) : cG (bP l) (l.length:Int)=some ((List.range l.length).map (cH (bP l))):=by
  have hl:=wd l
  unfold cG
  rw[if_pos ⟨by omega,hl⟩,if_pos,show((l.length:Int)).toNat=l.length from by omega]
  rw[List.all_eq_true]
  intro i hi
  have hi:i<8*(bP l).length:=by simpa using hi
  simp only[Bool.or_eq_true,decide_eq_true_eq,Bool.not_eq_true']
  by_cases h:(i:Int)<l.length
  · exact .inl h
  · refine .inr ?_
    have hj:i/8<(bP l).length:=by omega
    unfold cH
    have e:(bP l).getD (i/8) 0=(ch l (i/8) : Int):=by
      have hj2:i/8<(ep (l.length:Int)).toNat:=by omega
      unfold bP
      rw[List.getD_eq_getElem?_getD,List.getElem?_map,List.getElem?_range hj2]
      rfl
    rw[e,Di (Nat.mod_lt _ (by decide)),show 8*(i/8)+i%8=i from by omega,List.getD_eq_getElem?_getD,List.getElem?_eq_none (by omega)]
    rfl
theorem sF(hr:∀ x,x∈b→0≤x∧x<256)(h0:0≤n) : cG b n=if bP ((List.range n.toNat).map (cH b))=b then some ((List.range n.toNat).map (cH b)) else none:=by
  by_cases h:bP ((List.range n.toNat).map (cH b))=b
  · rw[if_pos h]
    have k:=sQ ((List.range n.toNat).map (cH b))
    rw[h,List.length_map,List.length_range,show((n.toNat:Nat) : Int)=n from by omega] at k
    exact k
  · rw[if_neg h]
    cases e:cG b n with
    | none=>rfl
    | some l =>
      exfalso
      have k:=lT hr e
      unfold cG at e
      split at e
      · split at e
        · injection e with e;rw[e] at h;exact h k
        · cases e
      · cases e
open Go.RowKit
theorem DP(hn : -1048576≤n∧n≤1048576) : Calls Tryz.prog 171 #[vI n] w (bS (vI (ep n)) w):=by
 refine en 14 Tryz.func171 rfl<|aB 1<|sq<|aB 2<|cb ((decide (n<1))) (fun a=>?_) (fun a=>?_)
 have c:=of_decide_eq_true a
 refine aB 1<|b6<|rr (vI 0)<|?_
 have hs:ep n=0:=by rw[qy];split<;>(try split)<;>omega
 rw[hs]
 exact⟨rfl,(aI.refl [] _)⟩
 have c:=of_decide_eq_false a
 refine bu<|aq 1<|L0<|Oe (vI (IntKind.i64.wrap (Int.tdiv n 8))) (vI (n/8)) (congrArg (Value.int .i64) (gW (by omega) (by omega)))<|ah 1<|sq<|aq 1<|L0<|Oe (vI (Int.tmod n 8)) (vI (n%8)) (congrArg (Value.int .i64) (Int.tmod_eq_emod_of_nonneg (by omega)))<|ah 1<|cb ((decide (0<(n%8)))) (fun b=>?_) (fun b=>?_)
 have d:=of_decide_eq_true b
 refine go<|Pl 1<|bp ((n/8)+1)<|Pl 1<|dk 2<|rt<|rr (vI ((n/8)+1))<|?_
 have hs:ep n=((n/8)+1):=by rw[qy];split<;>(try split)<;>omega
 rw[hs]
 exact⟨rfl,(aI.refl [] _)⟩
 have d:=of_decide_eq_false b
 refine bu<|aB 2<|rt<|rr (vI (n/8))<|?_
 have hs:ep n=(n/8):=by rw[qy];split<;>(try split)<;>omega
 rw[hs]
 exact⟨rfl,(aI.refl [] _)⟩
theorem vh(l:List Bool)(j t:Nat)(ht:t≤8) : ch (l.take (8*j+t)) j<2 ^ t:=by
  induction t with
  | zero=>rw[Nat.add_zero,mI];decide
  | succ t ih =>
    have h:=ih (by omega)
    rw[← Nat.add_assoc,ln (by omega),Nat.pow_succ]
    split<;>omega
theorem yx(ht:t≤8) : 2 ^ t≤256:=by
  rcases t with _|_|_|_|_|_|_|_|_|t
  case succ.succ.succ.succ.succ.succ.succ.succ.succ=>omega
  all_goals decide
theorem wv(h1:¬ 8*j<l.length)(h2:8*j<l.length+8) : (List.range j).map (fun i=>(ch l i:Int))=bP l:=zO (by omega) h2
theorem xX(hc:c=(ch (l.take (8*j+t)) j:Int))(ht:t≤8)(h:t=8∨l.length≤8*j+t) : c%256=(ch l j:Int):=by
  have h1:=vh l j t ht
  have h2:=yx ht
  rw[wH h] at hc h1
  omega
theorem CD(h:jc m w (.slice A l.length cp) l)(hn:l.length≤1048576) : Calls Tryz.prog 223 #[.slice A l.length cp] w (y9 l w):=by
 refine en 42 Tryz.func223 rfl<|aq 1<|dk 1<|sq<|aB 1<|bk<|je (fun x=>[(0,.slice A l.length cp),(2,nS),(3,.slice x.2.2.1 x.2.1.length x.2.2.2),(4,vI ((8*x.1:Nat) : Int))]) (fun(x:Nat × List Int × Option Addr × Nat) w'=>aI [] w w'∧eE w.heap.size w' (.slice x.2.2.1 x.2.1.length x.2.2.2) x.2.1∧(8*x.1<l.length+8)∧(x.2.1=(List.range x.1).map (fun i=>(ch l i:Int)))) (fun x=>l.length+8-8*x.1) (0,[],none,0) ⟨aI.refl _ _,(aZ.nil w.heap.size _ _ xv _),(by(try dsimp only);omega),rfl⟩ ?_
 rintro⟨j,L,B,cq⟩ r ⟨f,z,C,D⟩
 refine gi [(0,.slice A l.length cp),(2,nS),(3,.slice B L.length cq),(4,vI ((8*j:Nat) : Int))] ?_
 have g:eE w.heap.size r (.slice B L.length cq) L:=z
 have Z:8*j<l.length+8:=C
 have k:L=(List.range j).map (fun i=>(ch l i:Int)):=D
 have hLn:L.length=j:=by rw[k,List.length_map,List.length_range]
 refine sq<|aB 4<|cb ((decide (((8*j:Nat) : Int)<(l.length:Int)))) (fun n=>?_) (fun n=>?_)
 have E:=of_decide_eq_true n
 refine bu<|sq<|bk<|aq 1<|dk 1<|sq<|aB 2<|bk<|je (fun x=>[(0,.slice A l.length cp),(2,nS),(3,.slice B L.length cq),(4,vI ((8*j:Nat) : Int)),(5,vI x.2.1),(6,vI x.2.2),(7,vI ((8*j+x.1:Nat) : Int)),(8,vI ((8*j:Nat) : Int)),(9,.slice A l.length cp),(10,vI (l.length:Int)),(11,.bool (decide (((8*j:Nat) : Int)<(l.length:Int)))),(14,vI ((8*j:Nat) : Int))]) (fun(x:Nat × Int × Int) w'=>aI [] r w'∧(x.1≤8)∧(x.2.1=(ch (l.take (8*j+x.1)) j:Int))∧(x.2.2=((2 ^ x.1:Nat) : Int))) (fun x=>8-x.1) (0,0,1) ⟨aI.refl _ _,(by(try dsimp only);omega),(by(try dsimp only);rw[Nat.add_zero,mI];rfl),rfl⟩ ?_
 rintro⟨t,c,u⟩ a0 ⟨a,F,G,H⟩
 refine gi [(0,.slice A l.length cp),(2,nS),(3,.slice B L.length cq),(4,vI ((8*j:Nat) : Int)),(5,vI c),(6,vI u),(7,vI ((8*j+t:Nat) : Int)),(8,vI ((8*j:Nat) : Int)),(9,.slice A l.length cp),(10,vI (l.length:Int)),(11,.bool (decide (((8*j:Nat) : Int)<(l.length:Int)))),(14,vI ((8*j:Nat) : Int))] ?_
 have a1:t≤8:=F
 have I:c=(ch (l.take (8*j+t)) j:Int):=G
 have a2:u=((2 ^ t:Nat) : Int):=H
 have hpl:=vh l j t (by omega)
 have hpp:=yx (t:=t) (by omega)
 refine sq<|aq 5<|cu 5 [19] 24 (((decide (((8*j+t:Nat) : Int)<(l.length:Int)))&&(decide (((8*j+t:Nat) : Int)<(((8*j:Nat) : Int)+8))))) (fun K s=>?_) ?_
 refine bl 19 ((decide (((8*j+t:Nat) : Int)<(l.length:Int)))) (fun b=>?_) (fun b=>?_)
 have J:=of_decide_eq_true b
 exact Pl 2<|L1<|Oi (((8*j:Nat) : Int)+8)<|Pl 2<|ce s (decide (((8*j+t:Nat) : Int)<(((8*j:Nat) : Int)+8))) (by rw[b];rfl)
 have J:=of_decide_eq_false b
 exact Pl 5<|ce s false (by rw[b];rfl)
 refine nt<|?_
 have y:=aJ f a
 refine cb (((decide (((8*j+t:Nat) : Int)<(l.length:Int)))&&(decide (((8*j+t:Nat) : Int)<(((8*j:Nat) : Int)+8))))) (fun d=>?_) (fun d=>?_)
 have M:=(b7 d).1
 have N:=(b7 d).2
 have a3:=of_decide_eq_true M
 have a4:=of_decide_eq_true N
 refine bu<|sq<|bk<|sq<|aq 2<|?_
 refine EI (jc.at_ (jc.old h y) (8*j+t) (by omega)) fun O P Q R=>L0<|lc l.length (8*j+t) Q (by omega)<|L0<|fR (p:=⟨O,P+(8*j+t),none⟩) (v:=.bool (l.getD (8*j+t) false)) R<|nt<|cb ((l.getD (8*j+t) false)) (fun o=>?_) (fun o=>?_)
 exact go<|Pl 2<|bp (c+u)<|ah 1<|go<|Pl 1<|bp (2*u)<|Pl 1<|nl<|bn<|tn<|go<|Pl 1<|bp (((8*j+t:Nat) : Int)+1)<|Pl 1<|nl<|gK ((t+1),(c+u),(2*u)) ⟨a,(by(try dsimp only);omega),(by(try dsimp only);rw[← Nat.add_assoc,ln (by omega),if_pos o];omega),(by(try dsimp only);rw[Nat.pow_succ];omega)⟩ (by omega)
 exact bu<|go<|Pl 1<|bp (2*u)<|Pl 1<|nl<|bn<|tn<|go<|Pl 1<|bp (((8*j+t:Nat) : Int)+1)<|Pl 1<|nl<|gK ((t+1),c,(2*u)) ⟨a,(by(try dsimp only);omega),(by(try dsimp only);rw[← Nat.add_assoc,ln (by omega),if_neg (by rw[o];decide)];omega),(by(try dsimp only);rw[Nat.pow_succ];omega)⟩ (by omega)
 refine xt<|tx<|tx<|bx<|tn<|go<|Pl 3<|L0<|cX (m:=1) (e:=5) #[vB (c%256)] fun a5 a6 S T q=>?_
 have U:=cD S (xs:=[(c%256)]) (by as_aux_lemma=>kernel_rfl) (al (by omega) aP) (by(try simp only[List.length_cons,List.length_nil]);omega) T
 refine L0<|bK be (xs:=L) (ys:=([(c%256)])) (vB 0) 1 (au g (aJ a q) (fun x hx=>aE) (fun _ _ h=>h)) (U).rd (by(try simp only[bM,ax]);omega) (le (le f.size a.size) q.size) fun V W a7 X Y=>Pl 1<|nl<|bn<|tn<|go<|Pl 1<|bp (((8*j:Nat) : Int)+8)<|Pl 1<|nl<|?_
 exact gK ((j+1),(L++[(c%256)]),V,W) ⟨(ut y (ut (aI.mono (S':=(ob B++[])) q aD) Y (am il aD)) (am (aU g lr) aD)),X,(by(try dsimp only);omega),(by(try dsimp only);rw[k,List.range_succ,List.map_append];show _++[_]=_++[_];rw[xX I (by omega) (by have hq:=d;simp only[Bool.and_eq_false_iff,decide_eq_false_iff_not] at hq;omega)])⟩ (by omega)
 have E:=of_decide_eq_false n
 refine xt<|tx<|tx<|bx<|tn<|aB 2<|rt<|rr (.slice B L.length cq)<|?_
 have hs:L=bP l:=by rw[k];exact wv (by omega) (by omega)
 exact⟨_,rfl,by rw[← hs];exact g,f⟩
theorem Cg(h:jc m w v l)(hn:l.length≤1048576) : Calls Tryz.prog 223 #[v] w (y9 l w):=by
  obtain⟨A,c,rfl,_,_⟩:=h.shape
  exact CD h hn
theorem yn{P:Program}  {ev:Operand→Value}{o:Oper}{x y:Operand}{t t':TypeId}{a b:ByteArray}{v:Bool}(ho:o.op = .binOp .neq t x y t')(hx:ev x = .string a)(hy:ev y = .string b)(hv:(a.toList==b.toList)=v) : (execOp ev o).run P w = .ok (.value (.bool !v)) w:=by
  have hg:eqGuard .neq t x y (.string a) (.string b)=pure ():=rfl
  unfold execOp
  simp only[ho,hx,hy,hg,binOp_string_neq,Sem.run_bind,Sem.run_pure,Result.andThen,hv]
theorem EJ{cs:Array Value}{xs:List Bool}(hg:w0.heap.size≤g)(hcs:cs=(xs.map Value.bool).toArray)(hl:xs.length≤4194304)(hb:w.heap[g]? = some (.cells cs 4 (0,0))) :
    At w0.heap.size w (.slice (some ⟨g,0,none⟩) xs.length xs.length) xs:=Cm (enc:=Value.bool) hg hcs (fun x h=>rfl) hl hb
theorem xx(h:c=x/2 ^ k) : c/2=x/2 ^ (k+1):=by
  rw[h,Int.ediv_ediv_of_nonneg (Int.le_of_lt (Int.pow_pos (by decide))),Int.pow_succ]
theorem yZ(hx:0≤x∧x<256)  (h:c=x/2 ^ k) : 0≤c∧c<256:=by
  have h1:(1:Int)≤2 ^ k:=Int.pow_pos (by decide)
  subst h
  exact⟨Int.ediv_nonneg hx.1 (by omega),Int.lt_of_le_of_lt (Int.ediv_le_self _ hx.1) hx.2⟩
theorem wS{l:List Int}{i:Nat}(h:i<l.length) : l.getD i 0∈l:=by
  rw[List.getD_eq_getElem?_getD,List.getElem?_eq_getElem h]
  exact List.getElem_mem h
theorem yt(h:aV m w (.slice A b.length cp) b)(hl:b.length≤1048576)(hn : -1048576≤n∧n≤1048576) : Calls Tryz.prog 172 #[.slice A b.length cp,vI n] w (gR b n w):=by
 have hb:=aV.range h
 refine en 51 Tryz.func172 rfl<|aB 2<|sq<|aq 3<|cu 6 [12] 18 (((decide (n<0))||(decide ((8*(b.length:Int))<n)))) (fun K H=>?_) ?_
 refine bl 12 ((decide (n<0))) (fun d=>?_) (fun d=>?_)
 have R:=of_decide_eq_true d
 exact Pl 6<|ce H true (by rw[d];rfl)
 have R:=of_decide_eq_false d
 exact Pl 3<|L1<|Oi (8*(b.length:Int))<|Pl 2<|ce H (decide ((8*(b.length:Int))<n)) (by rw[d];rfl)
 refine nt<|cb (((decide (n<0))||(decide ((8*(b.length:Int))<n)))) (fun g=>?_) (fun g=>?_)
 refine aB 2<|b6<|rr (.tuple #[nS,.bool false])<|?_
 have hq:=g
 have hs:cG b n=none:=by unfold cG;rw[if_neg];rintro⟨h1,h2⟩;simp only[Bool.or_eq_true,decide_eq_true_eq] at hq;rw[qy] at h2;split at h2<;>(try split at h2)<;>omega
 exact fW hs (aI.refl [] _)
 have S:=(bL g).1
 have T:=(bL g).2
 have ae:=of_decide_eq_false S
 have af:=of_decide_eq_false T
 refine bu<|aB 1<|sq<|aB 1<|bk<|je (fun x=>[(0,.slice A b.length cp),(1,vI n),(4,nS),(5,.bool false),(6,.slice x.2.2.1 x.2.1.length x.2.2.2),(7,vI (x.1:Int))]) (fun(x:Nat × List Bool × Option Addr × Nat) w'=>aI [] w w'∧At w.heap.size w' (.slice x.2.2.1 x.2.1.length x.2.2.2) x.2.1∧((x.1:Int)≤n)∧(x.2.1=(List.range x.1).map (cH b))) (fun x=>n.toNat-x.1) (0,[],none,0) ⟨aI.refl _ _,(aZ.nil w.heap.size _ _ rC _),(by(try dsimp only);omega),rfl⟩ ?_
 rintro⟨i,L,B,cq⟩ I ⟨j,U,V,W⟩
 refine gi [(0,.slice A b.length cp),(1,vI n),(4,nS),(5,.bool false),(6,.slice B L.length cq),(7,vI (i:Int))] ?_
 have r:At w.heap.size I (.slice B L.length cq) L:=U
 have ag:(i:Int)≤n:=V
 have o:L=(List.range i).map (cH b):=W
 have hLn:L.length=i:=by rw[o,List.length_map,List.length_range]
 have hi8:((i:Int)/8).toNat=i/8:=by omega
 refine sq<|aB 3<|cb ((decide ((i:Int)<n))) (fun s=>?_) (fun s=>?_)
 have X:=of_decide_eq_true s
 refine bu<|sq<|bk<|aq 2<|L0<|Oe (vI (IntKind.i64.wrap (Int.tdiv (i:Int) 8))) (vI ((i:Int)/8)) (congrArg (Value.int .i64) (gW (by omega) (by omega)))<|?_
 refine fo (aV.at_ (aV.old h j) ((((i:Int)/8)).toNat) (by omega)) fun t u Y Z ai=>L0<|vt b.length ((((i:Int)/8)).toNat) ((i:Int)/8) (by omega) Y (by omega)<|L0<|fR (p:=⟨t,u+((((i:Int)/8)).toNat),none⟩) (v:=vB (b.getD ((((i:Int)/8)).toNat) 0)) Z<|bp (b.getD ((((i:Int)/8)).toNat) 0)<|ah 1<|sq<|aB 1<|bk<|je (fun x=>[(0,.slice A b.length cp),(1,vI n),(4,nS),(5,.bool false),(6,.slice B L.length cq),(7,vI (i:Int)),(8,vI x.2),(9,vI (x.1:Int)),(19,vI (i:Int)),(20,vI n),(21,.bool (decide ((i:Int)<n))),(24,.slice A b.length cp),(25,vI (i:Int)),(26,vI ((i:Int)/8)),(27,.pointer (some (⟨t,u+((((i:Int)/8)).toNat),none⟩))),(28,vB (b.getD ((((i:Int)/8)).toNat) 0)),(29,vI (b.getD ((((i:Int)/8)).toNat) 0))]) (fun(x:Nat × Int) w'=>aI [] I w'∧(x.1≤i%8)∧(x.2=b.getD (i/8) 0/2 ^ x.1)) (fun x=>8-x.1) (0,(b.getD ((((i:Int)/8)).toNat) 0)) ⟨aI.refl _ _,(by(try dsimp only);omega),(by(try dsimp only);rw[hi8,Int.pow_zero,Int.ediv_one])⟩ ?_
 rintro⟨k,c⟩ aj ⟨q,a0,a1⟩
 refine gi [(0,.slice A b.length cp),(1,vI n),(4,nS),(5,.bool false),(6,.slice B L.length cq),(7,vI (i:Int)),(8,vI c),(9,vI (k:Int)),(19,vI (i:Int)),(20,vI n),(21,.bool (decide ((i:Int)<n))),(24,.slice A b.length cp),(25,vI (i:Int)),(26,vI ((i:Int)/8)),(27,.pointer (some (⟨t,u+((((i:Int)/8)).toNat),none⟩))),(28,vB (b.getD ((((i:Int)/8)).toNat) 0)),(29,vI (b.getD ((((i:Int)/8)).toNat) 0))] ?_
 have ak:k≤i%8:=a0
 have y:c=b.getD (i/8) 0/2 ^ k:=a1
 have hcr:=yZ (hb _ (wS (l:=b) (i:=i/8) (by omega))) y
 refine sq<|aq 2<|L0<|Oe (vI (Int.tmod (i:Int) 8)) (vI ((i:Int)%8)) (congrArg (Value.int .i64) (Int.tmod_eq_emod_of_nonneg (by omega)))<|ah 1<|?_
 refine cb ((decide ((k:Int)<((i:Int)%8)))) (fun z=>?_) (fun z=>?_)
 have a2:=of_decide_eq_true z
 exact bu<|sq<|bk<|go<|Pl 1<|L0<|Oe (vI (IntKind.i64.wrap (Int.tdiv c 2))) (vI (c/2)) (congrArg (Value.int .i64) (gW (by omega) (by omega)))<|Pl 1<|nl<|bn<|tn<|go<|Pl 1<|bp ((k:Int)+1)<|Pl 1<|nl<|gK ((k+1),(c/2)) ⟨q,(by(try dsimp only);omega),xx y⟩ (by omega)
 have a2:=of_decide_eq_false z
 refine xt<|tx<|tx<|bx<|tn<|go<|Pl 2<|L0<|Oe (vI (Int.tmod c 2)) (vI (c%2)) (congrArg (Value.int .i64) (Int.tmod_eq_emod_of_nonneg (by omega)))<|Pl 1<|L0<|cX (m:=1) (e:=4) #[.bool ((c%2)==1)] fun al an a3 a4 C=>?_
 have a5:=EJ a3 (xs:=[((c%2)==1)]) (by as_aux_lemma=>kernel_rfl)  (by(try simp only[List.length_cons,List.length_nil]);omega) a4
 refine L0<|bK yY (xs:=L) (ys:=([((c%2)==1)])) (.bool false) 1 (au r (aJ q C) (fun x hx=>aE) (fun _ _ h=>h)) (a5).rd (by(try simp only[bM,ax]);omega) (le (le j.size q.size) C.size) fun a6 a7 ao a8 a9=>Pl 1<|nl<|bn<|tn<|go<|Pl 1<|bp ((i:Int)+1)<|Pl 1<|nl<|?_
 exact gK ((i+1),(L++[((c%2)==1)]),a6,a7) ⟨(ut (aJ j q) (ut (aI.mono (S':=(ob B++[])) C aD) a9 (am il aD)) (am (aU r lr) aD)),a8,(by(try dsimp only);omega),(by(try dsimp only);rw[o,List.range_succ,List.map_append];show _++[_]=_++[cH b i];unfold cH;rw[y,show k=i%8 from by omega])⟩ (by omega)
 have X:=of_decide_eq_false s
 refine xt<|tx<|tx<|bx<|tn<|sq<|sq<|Rg 6 (fun w'=>aV false w' (.slice A b.length cp) b) fun ap J=>?_
 have M:=aJ j J
 have D:=aV.old h M
 refine bv (aT.any D (fun _ _ h=>h)) fun E=>Rt 0 E<|Rt 3 E<|Rr 4 E (.string (strOfNums b)) (fun _ hs=>cJ (A:=A) (n:=b.length) (c:=cp) rfl (by kernel_rfl) Tryz.underlying27 Tryz.underlying5 Tryz.underlying9 hs)<|?_
 have N:=au r J (fun x hx=>aE) (fun _ _ h=>h)
 refine R0 1 rfl<|Oc<|dU (Cg (N).rd (by omega)) fun aa ab ar O av aw F=>?_
 have P:=aV.old D F
 refine bv (aT.any P (fun _ _ h=>h)) fun ay=>R0 2 rfl<|gr (.string (strOfNums (bP L))) (cJ (A:=aa) (n:=(bP L).length) (c:=ab) rfl (by kernel_rfl) Tryz.underlying27 Tryz.underlying5 Tryz.underlying9 (O).rd)<|bv (aT.any P (fun _ _ h=>h)) fun ac=>Rr 5 ac (.bool (!(decide ((bP L)=b)))) (fun _ _=>yn (a:=(strOfNums (bP L))) (b:=(strOfNums b)) rfl (by kernel_rfl) (by kernel_rfl) (jW (O).rd D))<|re<|tn<|?_
 have Q:=aJ M F
 refine cb ((!(decide ((bP L)=b)))) (fun f=>?_) (fun f=>?_)
 have G:(decide ((bP L)=b))=false:=by simpa using f
 have ad:=of_decide_eq_false G
 refine aB 2<|b6<|rr (.tuple #[nS,.bool false])<|?_
 have hL:L=(List.range n.toNat).map (cH b):=by rw[o,show i=n.toNat from by omega]
 have hu:=sF (n:=n) hb (by omega)
 rw[if_neg (by rw[← hL];simpa using f)] at hu
 exact fW hu Q
 have G:(decide ((bP L)=b))=true:=by simpa using f
 have ad:=of_decide_eq_true G
 refine bu<|aB 3<|rt<|rr (.tuple #[.slice B L.length cq,.bool true])<|?_
 have hL:L=(List.range n.toNat).map (cH b):=by rw[o,show i=n.toNat from by omega]
 have hu:=sF (n:=n) hb (by omega)
 rw[if_pos (by rw[← hL];simpa using f),← hL] at hu
 exact⟨_,by rw[hu];rfl,by rw[hu];exact(au N F (fun x hx=>aE) (fun _ _ h=>h)),Q⟩
theorem AK(h:aV m w v b)(hl:b.length≤1048576)(hn : -1048576≤n∧n≤1048576) : Calls Tryz.prog 172 #[v,.int .i64 n] w (gR b n w):=by
  obtain⟨A,c,rfl,_,_⟩:=h.shape
  exact yt h hl hn
open Go.RowKit
def AB (w0:World)(m:Md)(A:Option Addr)(cp:Nat)(full:List Int)(g gm:Nat)(C':ap)(cs:Array Value)(w:World)(e:Ending)(w':World) : Prop:=e = .returned (.tuple #[])∧RC w0 m A cp full w' g C'∧w'.heap[gm]? = some (.cells cs 45 (0,0))∧aI [g,gm] w w'
theorem qH{gm:Nat}   {most:Int}(hcode:B8 c)(hC:RC w0 m A cp full w g C)(hm:w.heap[gm]? = some (.cells (mC c) 45 (0,0)))(hgm:w0.heap.size≤gm)(hne:g≠gm) :
    Calls Tryz.prog 166 #[vP g 0,vP gm 0,vI most] w (AB w0 m A cp full g gm (cz C most) (mG c 0 C.wordV (C.wordsC 1).wordV 0 0 0 0 0 0 0 0 nS nS nS nS 0 0 0 0 0 nS) w):=by
 obtain⟨hcode1,hcode2⟩:=hcode
 have hrng:=bN (RC.rng hC)
 refine en 39 Tryz.func166 rfl<|aq 2<|ay<|m3 (d7 hC) fun G t e H=>Pl 2<|?_
 refine L0<|bY (bj e (Ne.symm hne) hm) 2 (mG c 0 C.wordV 0 0 0 0 0 0 0 0 0 nS nS nS nS 0 0 0 0 0 nS) fun I eR f=>aL 2<|?_
 have h:=us e f
 refine ay<|m3 (d7 (RC.upd t f (aa hne aE) (hC.u.trans' h (fun x hx=>.inr (by simp at hx;rcases hx with rfl | rfl;exact hC.new;exact hgm))))) fun J v i L=>Pl 2<|?_
 refine L0<|bY (bj i (Ne.symm hne) eR) 3 (mG c 0 C.wordV ((C.wordsC 1).wordV) 0 0 0 0 0 0 0 0 nS nS nS nS 0 0 0 0 0 nS) fun M j k=>aL 3<|aC j 3<|bp ((C.wordsC 1).wordV)<|Pl 1<|aL 4<|cu 4 [25] 29 (((decide (0<((C.wordsC 1).wordV)))&&(decide (((C.wordsC 1).wordV)≤most)))) (fun K l=>?_) ?_
 refine bl 25 ((decide (0<((C.wordsC 1).wordV)))) (fun b=>?_) (fun b=>?_)
 have y:=of_decide_eq_true b
 exact Pl 4<|ce l (decide (((C.wordsC 1).wordV)≤most)) (by rw[b];rfl)
 have y:=of_decide_eq_false b
 exact Pl 4<|ce l false (by rw[b];rfl)
 have o:=ut h (us i k) (ac im (ac im aD))
 refine ay<|m2 (bf (((decide (0<((C.wordsC 1).wordV)))&&(decide (((C.wordsC 1).wordV)≤most)))) 5 (RC.upd v k (aa hne aE) (hC.u.trans' o (fun x hx=>.inr (by simp at hx;rcases hx with rfl | rfl;exact hC.new;exact hgm))))) fun z B p=>?_
 refine gM B fun x36 D q=>?_
 refine nt<|go<|Pl 4<|?_
 have r:=bj p (Ne.symm hne) j
 refine aC r 2<|Pl 1<|ay<|m1 (uB (a:=C.wordV) (n:=(C.wordsC 1).wordV) (w:=z) (by omega) (by omega)) fun N d=>?_
 refine ay<|m2 (bf ((dY C.wordV ((C.wordsC 1).wordV))) 7 (RC.upd q d aE (aI.step (RC.u q) d))) fun O E F=>nl<|rm (.tuple #[])<|?_
 subst D
 have hs:cz C most=((((C.wordsC 1).wordsC 1).need ((decide (0<((C.wordsC 1).wordV)))&&(decide (((C.wordsC 1).wordV)≤most))) 5).need (dY C.wordV ((C.wordsC 1).wordV)) 7):=by
   unfold cz km
   (try simp only[bi,fy,reduceIte])
   all_goals rfl
 rw[hs]
 have s:=uz d F
 exact⟨rfl,E,(bj s (Ne.symm hne) r),(u1 o (u1 p s im) im)⟩
theorem nK(hcode:B8 c)(hsl:aV m w (.slice A b.length cp) b)(hb:b.length≤1048576) :
    Calls Tryz.prog 109 #[vI 0,vB c,.slice A b.length cp] w (cN (.slice A b.length cp) b (ak aR 0 c b) w):=by
 obtain⟨hcode1,hcode2⟩:=hcode
 have hln:(b.length:Int)≤1048576:=by omega
 refine en 113 Tryz.func109 rfl<|sg<|aK mZ fun a7 ci T t d=>ah 1<|sq<|aB 6<|c0<|bu<|aq 2<|L0<|cY #[.slice A b.length cp,vI 0,.bool false,vI 0] fun k cj i l f=>Pl 1<|aL 2<|aK mZ fun q cl a a8 a9=>aG a8 (mC c) fun ab N U=>?_
 refine nt<|?_
 have ad:=ud a9 U a
 have y:=aJ f ad
 have z:=aJ d y
 have g:RC w _ A cp b ab k (ap.mk b false 0):=⟨hsl,z,(Nat.le_trans d.size i),⟨0,(ub ad l),Nat.zero_le _,rfl⟩,by omega⟩
 refine A7 (fun x=>[(6,vP a7 0),(8,vP k 0),(9,vP q 0)]) (fun(x:ap × Array Value × aS) w'=>aI [k,q] ab w'∧RC w m A cp b w' k x.1∧w'.heap[q]? = some (.cells x.2.1 45 (0,0))∧bG (.slice A b.length cp) b w' x.2.1.toList x.2.2∧(ak aR 0 c b=bC x.2.2 x.1)) ?_ ?_
 rintro⟨C,cs,M⟩ V ⟨af,bg,bh,bm,bo⟩
 refine gi [(6,vP a7 0),(8,vP k 0),(9,vP q 0)] ?_
 have aj:RC w m A cp b V k C:=bg
 have bq:V.heap[q]? = some (.cells cs 45 (0,0)):=bh
 have O:bG (.slice A b.length cp) b V cs.toList M:=bm
 have W:=bG.size O
 have al:ak aR 0 c b=bC M C:=bo
 refine aq 1<|ay<|m2 (oa aj) fun cn X Y=>nt<|sq<|aq 3<|L0<|fR (p:=⟨k,3,none⟩) (v:=vI C.endC.e) (RC.fld X)<|ah 1<|?_
 have Z:=u1 af Y im
 have am:=ut z Z (ac (ni d.size i) (ac (ni (le d.size f.size) a) aD))
 refine cb ((C.endC.e != 0)) (fun a0=>?_) (fun a0=>?_)
 have a1:=aA a0
 refine sq<|Rg 7 (fun w'=>w'.cell? ⟨k,3,none⟩=some (vI C.endC.e)) fun co P=>?_
 have an:=RC.upd X P aE (aI.step (RC.u X) P)
 refine bv (RC.fld an) fun B=>Rt 0 B<|Rt 1 B<|Rt 2 B<|Rt 3 B<|Rl 4 B (fun _ hs=>hs)<|?_
 refine R0 5 rfl<|mb (ub (ut y (aJ Z P) (ac (nr i) (ac (ni f.size a) aD))) t) mZ fun cq bs ao=>?_
 have ar:=ud am (uz P ao) T
 refine bv (RC.fld (RC.upd an ao (aa (Ne.symm (nb (az t) lr i)) aE) ar)) fun bt=>Rt 6 bt<|re<|tn<|b6<|ck bs (vI C.endC.e)<|?_
 rw[al]
 exact dD a1 ar
 have a1:=aF a0
 refine bu<|sg<|?_
 refine L0<|cm (hz:=(by rw[W];exact aQ)) (bj Y (Ne.symm (nb (az l) lr a)) bq)<|?_
 refine aG (hz:=(by rw[W];exact aQ)) (hv:=(bG.size O)) (h1:=(bG.one O hsl)) (ub (ut y Z (ac (nr i) (ac (ni f.size a) aD))) t) (cs) fun cr bw aw=>ah 1<|rt<|fO 22 W bw (vI 0)<|?_
 rw[al]
 exact dX a1 (bG.upd O (us Y aw) (av (RC.safe aj _ (by decide)) (av (b9 (ub (ut y af (ac (nr i) (ac (ni f.size a) aD))) t) (by decide)) aM))) (ud am aw T)
 refine aB 1<|bk<|sq<|aB 2<|cb ((c==1)) (fun j=>?_) (fun j=>?_)
 have bz:=ag j
 refine bu<|ct j<|sq<|aB 2<|c1<|aq 1<|?_
 refine ay<|m3 (qH (most:=2000) (b8 (by omega)) g N (Nat.le_trans (le d.size f.size) a) (nb (az l) lr a)) fun cv bA bB bD=>?_
 have cw:=bN (RC.rng g)
 have cx:=bN (c:=(ap.mk b false 0).wordsC 1) (cS (RC.rng g) 1)
 exact nt<|xt<|tx<|bx<|jn ((cz (ap.mk b false 0) 2000),_,(aS.mk c 0 ((ap.mk b false 0).wordV) (((ap.mk b false 0).wordsC 1).wordV) 0 0 0 0 0 0 0 0 [] [] [] [] 0 0 0 0 0 [])) ⟨bD,bA,bB,⟨_,_,_,_,_,rfl,aT.nil ..,aT.nil ..,(fun _ _ _=>aT.nil ..),aT.nil ..,aT.nil ..,(cP (by omega))⟩,by unfold ak aR ek dZ dM hG sX iB qK oC ti ef fP;(try simp only[j,bi,ea,ed,e9,eb,ec,reduceIte,fy])<;>rfl⟩
 have bz:=ai j
 refine go<|ah 2<|cb ((c==2)) (fun o=>?_) (fun o=>?_)
 have bF:=ag o
 refine sq<|aB 2<|c1<|aq 1<|?_
 refine ay<|m3 (qH (most:=2000) (b8 (by omega)) g N (Nat.le_trans (le d.size f.size) a) (nb (az l) lr a)) fun cy bH bI bJ=>?_
 have cA:=bN (RC.rng g)
 have cB:=bN (c:=(ap.mk b false 0).wordsC 1) (cS (RC.rng g) 1)
 exact nt<|xt<|tx<|bx<|jn ((cz (ap.mk b false 0) 2000),_,(aS.mk c 0 ((ap.mk b false 0).wordV) (((ap.mk b false 0).wordsC 1).wordV) 0 0 0 0 0 0 0 0 [] [] [] [] 0 0 0 0 0 [])) ⟨bJ,bH,bI,⟨_,_,_,_,_,rfl,aT.nil ..,aT.nil ..,(fun _ _ _=>aT.nil ..),aT.nil ..,aT.nil ..,(cP (by omega))⟩,by unfold ak aR ek dZ dM hG sX iB qK oC ti ef fP;(try simp only[j,o,bi,ea,ed,e9,eb,ec,reduceIte,fy])<;>rfl⟩
 have bF:=ai o
 refine aB 2<|cb ((c==5)) (fun r=>?_) (fun r=>?_)
 have bK:=ag r
 refine aq 1<|ay<|m3 (d7 g) fun cC bL ax cD=>Pl 1<|?_
 have D:=nb (az l) lr a
 refine L0<|bY (bj ax (Ne.symm D) N) 2 (mG c 0 ((ap.mk b false 0).wordV) 0 0 0 0 0 0 0 0 0 nS nS nS nS 0 0 0 0 0 nS) fun cE bM aH=>aL 1<|?_
 have aN:=us ax aH
 have aP:=ut z aN (ac (ni d.size i) (ac (ni (le d.size f.size) a) aD))
 refine ay<|m3 (d7 (RC.upd bL aH (aa D aE) aP)) fun cF bP aU cH=>Pl 1<|?_
 refine L0<|bY (bj aU (Ne.symm D) bM) 4 (mG c 0 ((ap.mk b false 0).wordV) 0 (((ap.mk b false 0).wordsC 1).wordV) 0 0 0 0 0 0 0 nS nS nS nS 0 0 0 0 0 nS) fun cJ a2 aW=>nt<|go<|Pl 2<|aC a2 4<|Pl 2<|cu 4 [62] 66 ((((((ap.mk b false 0).wordsC 1).wordV)==0)||((((ap.mk b false 0).wordsC 1).wordV)==65280))) (fun K aX=>?_) ?_
 refine bl 62 (((((ap.mk b false 0).wordsC 1).wordV)==0)) (fun E=>?_) (fun E=>?_)
 have bQ:=ag E
 exact Pl 4<|ce aX true (by rw[E];rfl)
 have bQ:=ai E
 exact Pl 1<|L1<|dQ a2 4<|Pl 2<|ce aX ((((ap.mk b false 0).wordsC 1).wordV)==65280) (by rw[E];rfl)
 have aY:=us aU aW
 refine ay<|m2 (bf ((((((ap.mk b false 0).wordsC 1).wordV)==0)||((((ap.mk b false 0).wordsC 1).wordV)==65280))) 6 (RC.upd bP aW (aa D aE) (ut aP aY (ac (ni d.size i) (ac (ni (le d.size f.size) a) aD))))) fun cK bR aZ=>?_
 refine gM bR fun bS bT bU=>?_
 refine nl<|bn<|?_
 exact jn (bS,_,(aS.mk c 0 ((ap.mk b false 0).wordV) 0 (((ap.mk b false 0).wordsC 1).wordV) 0 0 0 0 0 0 0 [] [] [] [] 0 0 0 0 0 [])) ⟨(ut aN (u1 aY aZ im) (ac im (ac im aD))),bU,(bj aZ (Ne.symm D) a2),⟨_,_,_,_,_,rfl,aT.nil ..,aT.nil ..,(fun _ _ _=>aT.nil ..),aT.nil ..,aT.nil ..,(cP (by omega))⟩,by subst bT;unfold ak aR ek dZ dM hG sX iB qK oC ti ef fP;(try simp only[j,o,r,bi,ea,ed,e9,eb,ec,reduceIte,fy])<;>rfl⟩
 have bK:=ai r
 refine aB 2<|cb ((c==15)) (fun F=>?_) (fun F=>?_)
 have bV:=ag F
 refine aq 1<|?_
 have s:=nb (az l) lr a
 refine ay<|m3 (qH (most:=1968) (b8 (by omega)) g N (Nat.le_trans (le d.size f.size) a) s) fun cL bW bX a3=>?_
 have cM:=bN (RC.rng g)
 have cO:=bN (c:=(ap.mk b false 0).wordsC 1) (cS (RC.rng g) 1)
 refine nt<|sq<|aB 2<|c0<|bu<|aq 1<|ay<|m3 (eK bW) fun bZ b0 Q cQ=>?_
 refine bp ((cz (ap.mk b false 0) 1968).byteV)<|Pl 1<|aL 3<|?_
 have b1:=bj Q (Ne.symm s) bX
 refine aC b1 3<|bp (((ap.mk b false 0).wordsC 1).wordV)<|ay<|m1 (DP (n:=((ap.mk b false 0).wordsC 1).wordV) (w:=bZ) (by omega)) fun cR G=>Pl 1<|?_
 refine ay<|m2 (bf ((((cz (ap.mk b false 0) 1968).byteV)==(ep (((ap.mk b false 0).wordsC 1).wordV)))) 5 (RC.upd b0 G aE (aI.step (RC.u b0) G))) fun cT c2 a4=>?_
 refine gM c2 fun H c3 b2=>?_
 refine nt<|sq<|Rg 12 (fun w'=>w'.cell? ⟨q,3,none⟩=some (vW (((ap.mk b false 0).wordsC 1).wordV))) fun cU I=>?_
 have b3:=uz G (aJ a4 I)
 have b4:=bj b3 (Ne.symm s) b1
 refine bv (ae b4 rfl) fun J=>Rt 0 J<|Rt 1 J<|Rt 3 J<|Rl 4 J (fun _ hs=>hs)<|Rr 5 J (vI (((ap.mk b false 0).wordsC 1).wordV)) (fun _ _=>bO (vI (IntKind.i64.wrap (((ap.mk b false 0).wordsC 1).wordV))) (by kernel_rfl) (congrArg (Value.int .i64) (i64_in (by omega))))<|?_
 have b5:=RC.upd b2 I aE (aI.step (RC.u b2) I)
 refine R0 2 rfl<|Oc<|sW (gA (n:=(cz (ap.mk b false 0) 1968).byteV) (by omega) b5) fun c4 c5 cV c6 a5 R=>?_
 have cW:=Nat.le_trans (ap.bytesR_le H ((cz (ap.mk b false 0) 1968).byteV)) (RC.clen b5)
 have b7:=bj R (Ne.symm s) b4
 refine bv (ae b7 rfl) fun cX=>R0 6 rfl<|Oc (args:=#[.slice c4 ((H.bytesR ((cz (ap.mk b false 0) 1968).byteV)).length) c5,vI (((ap.mk b false 0).wordsC 1).wordV)])<|dU (AK (n:=((ap.mk b false 0).wordsC 1).wordV) (c6 _ _ (RC.rd a5)) (by omega) (by omega)) fun c7 c8 cZ a6 d0 d1 S=>?_
 have ba:=ub S b7
 refine bv (ae ba rfl) fun L=>Rt 7 L<|Rt 8 L<|Rt 9 L<|Rt 10 L<|Rt 11 L<|re<|tn<|aq 2<|?_
 refine ay<|m2 (bf ((cG (H.bytesR ((cz (ap.mk b false 0) 1968).byteV)) (((ap.mk b false 0).wordsC 1).wordV)).isSome) 6 (RC.upd a5 S aE (aI.step (RC.u a5) S))) fun d2 c9 bb=>?_
 refine gM c9 fun ca cc cd=>?_
 refine nt<|go<|Pl 2<|?_
 refine L0<|bY (bj bb (Ne.symm s) ba) 13 (mG c 0 ((ap.mk b false 0).wordV) (((ap.mk b false 0).wordsC 1).wordV) 0 0 0 0 0 0 0 0 nS (.slice c7 (((cG (H.bytesR ((cz (ap.mk b false 0) 1968).byteV)) (((ap.mk b false 0).wordsC 1).wordV)).getD []).length) c8) nS nS 0 0 0 0 0 nS) fun d3 cf bc=>nl<|bn<|?_
 have bd:=us bb bc
 have be:=ut a3 (ui Q (ui b3 (ui R (uz S bd)))) (ac im (ac im aD))
 exact jn (ca,_,(aS.mk c 0 ((ap.mk b false 0).wordV) (((ap.mk b false 0).wordsC 1).wordV) 0 0 0 0 0 0 0 0 [] ((cG (H.bytesR ((cz (ap.mk b false 0) 1968).byteV)) (((ap.mk b false 0).wordsC 1).wordV)).getD []) [] [] 0 0 0 0 0 [])) ⟨be,(RC.upd cd bc (aa s aE) (ut z be (ac (ni d.size i) (ac (ni (le d.size f.size) a) aD)))),cf,⟨_,_,_,_,_,rfl,aT.nil ..,((au a6 bd (fun x hx=>(aa (fun e=>(aO (az l) (le (le (le (le (le (le (le a9.size U.size) a3.size) Q.size) G.size) a4.size) I.size) R.size) a6) (e▸hx)) (aa (fun e=>(aO (az a8) (le (le (le (le (le (le U.size a3.size) Q.size) G.size) a4.size) I.size) R.size) a6) (e▸hx)) aE))) (fun _ _ h=>h))).rd,(fun _ _ _=>aT.nil ..),aT.nil ..,aT.nil ..,(cP (by omega))⟩,by subst cc c3;unfold ak aR ek dZ dM hG sX iB qK oC ti ef fP;(try simp only[j,o,r,F,bi,ea,ed,e9,eb,ec,reduceIte,fy])<;>rfl⟩
 have bV:=ai F
 refine aq 1<|?_
 refine aG (ub y t) mZ fun d4 cg ch=>ah 1<|rt<|br<|tr<|ck cg (vI 4)<|?_
 exact cI (by unfold ak aR ek dZ dM hG sX iB qK oC ti ef fP;(try simp only[j,o,r,F,bi,ea,ed,e9,eb,ec,reduceIte,fy])<;>rfl) (bE (ud z ch T))
theorem nh(hcode:B8 c)(hsl:aV m w (.slice A b.length cp) b)(hb:b.length≤1048576) :
    Calls Tryz.prog 109 #[vI 1,vB c,.slice A b.length cp] w (cN (.slice A b.length cp) b (ak aR 1 c b) w):=by
 obtain⟨hcode1,hcode2⟩:=hcode
 have hln:(b.length:Int)≤1048576:=by omega
 refine en 113 Tryz.func109 rfl<|sg<|aK mZ fun V c7 L r d=>ah 1<|sq<|aB 6<|c0<|bu<|aq 2<|L0<|cY #[.slice A b.length cp,vI 0,.bool false,vI 0] fun i c8 f k g=>Pl 1<|aL 2<|aK mZ fun s c9 a aU aW=>aG aU (mC c) fun W G aX=>?_
 refine nt<|?_
 have X:=ud aW aX a
 have t:=aJ g X
 have l:=aJ d t
 have o:RC w _ A cp b W i (ap.mk b false 0):=⟨hsl,l,(Nat.le_trans d.size f),⟨0,(ub X k),Nat.zero_le _,rfl⟩,by omega⟩
 refine A7 (fun x=>[(6,vP V 0),(8,vP i 0),(9,vP s 0)]) (fun(x:ap × Array Value × aS) w'=>aI [i,s] W w'∧RC w m A cp b w' i x.1∧w'.heap[s]? = some (.cells x.2.1 45 (0,0))∧bG (.slice A b.length cp) b w' x.2.1.toList x.2.2∧(ak aR 1 c b=bC x.2.2 x.1)) ?_ ?_
 rintro⟨C,cs,M⟩ N ⟨Y,aY,aZ,b0,b1⟩
 refine gi [(6,vP V 0),(8,vP i 0),(9,vP s 0)] ?_
 have Z:RC w m A cp b N i C:=aY
 have b2:N.heap[s]? = some (.cells cs 45 (0,0)):=aZ
 have H:bG (.slice A b.length cp) b N cs.toList M:=b0
 have O:=bG.size H
 have a0:ak aR 1 c b=bC M C:=b1
 refine aq 1<|ay<|m2 (oa Z) fun ca P Q=>nt<|sq<|aq 3<|L0<|fR (p:=⟨i,3,none⟩) (v:=vI C.endC.e) (RC.fld P)<|ah 1<|?_
 have R:=u1 Y Q im
 have a1:=ut l R (ac (ni d.size f) (ac (ni (le d.size g.size) a) aD))
 refine cb ((C.endC.e != 0)) (fun S=>?_) (fun S=>?_)
 have T:=aA S
 refine sq<|Rg 7 (fun w'=>w'.cell? ⟨i,3,none⟩=some (vI C.endC.e)) fun cc I=>?_
 have a2:=RC.upd P I aE (aI.step (RC.u P) I)
 refine bv (RC.fld a2) fun y=>Rt 0 y<|Rt 1 y<|Rt 2 y<|Rt 3 y<|Rl 4 y (fun _ hs=>hs)<|?_
 refine R0 5 rfl<|mb (ub (ut t (aJ R I) (ac (nr f) (ac (ni g.size a) aD))) r) mZ fun cd b3 a3=>?_
 have a4:=ud a1 (uz I a3) L
 refine bv (RC.fld (RC.upd a2 a3 (aa (Ne.symm (nb (az r) lr f)) aE) a4)) fun b4=>Rt 6 b4<|re<|tn<|b6<|ck b3 (vI C.endC.e)<|?_
 rw[a0]
 exact dD T a4
 have T:=aF S
 refine bu<|sg<|?_
 refine L0<|cm (hz:=(by rw[O];exact aQ)) (bj Q (Ne.symm (nb (az k) lr a)) b2)<|?_
 refine aG (hz:=(by rw[O];exact aQ)) (hv:=(bG.size H)) (h1:=(bG.one H hsl)) (ub (ut t R (ac (nr f) (ac (ni g.size a) aD))) r) (cs) fun cf b5 a5=>ah 1<|rt<|fO 22 O b5 (vI 0)<|?_
 rw[a0]
 exact dX T (bG.upd H (us Q a5) (av (RC.safe Z _ (by decide)) (av (b9 (ub (ut t Y (ac (nr f) (ac (ni g.size a) aD))) r) (by decide)) aM))) (ud a1 a5 L)
 refine aB 1<|bk<|sq<|aB 2<|cb ((c==1)) (fun h=>?_) (fun h=>?_)
 have b7:=ag h
 refine bu<|ct h<|sq<|aB 2<|c0<|bu<|aq 1<|ay<|m3 (eK o) fun cg ba bb ch=>bp ((ap.mk b false 0).byteV)<|Pl 1<|aL 4<|cu 3 [41] 44 (((decide (0<((ap.mk b false 0).byteV)))&&(decide (((ap.mk b false 0).byteV)≤250)))) (fun K a6=>?_) ?_
 refine bl 41 ((decide (0<((ap.mk b false 0).byteV)))) (fun z=>?_) (fun z=>?_)
 have bc:=of_decide_eq_true z
 exact Pl 3<|ce a6 (decide (((ap.mk b false 0).byteV)≤250)) (by rw[z];rfl)
 have bc:=of_decide_eq_false z
 exact Pl 3<|ce a6 false (by rw[z];rfl)
 refine ay<|m2 (bf (((decide (0<((ap.mk b false 0).byteV)))&&(decide (((ap.mk b false 0).byteV)≤250)))) 5 ba) fun ci bd be=>?_
 refine gM bd fun x92 bg a7=>?_
 refine nt<|go<|Pl 2<|ay<|sW (gA (n:=(ap.mk b false 0).byteV) (by omega) a7) fun bh bm cj bo bq bs=>?_
 have cl:=Nat.le_trans (ap.bytesR_le x92 ((ap.mk b false 0).byteV)) (RC.clen a7)
 refine Pl 1<|?_
 have a8:=u1 bb (u1 be bs im) im
 have a9:=nb (az k) lr a
 refine L0<|bY (bj a8 (Ne.symm a9) G) 14 (mG c 0 0 0 0 0 0 0 0 0 0 0 nS nS (.slice bh ((x92.bytesR ((ap.mk b false 0).byteV)).length) bm) nS 0 0 0 0 0 nS) fun cn bt ab=>nl<|bn<|?_
 have ad:=us a8 ab
 exact jn ((x92.bytesC ((ap.mk b false 0).byteV)),_,(aS.mk c 0 0 0 0 0 0 0 0 0 0 0 [] [] (x92.bytesR ((ap.mk b false 0).byteV)) [] 0 0 0 0 0 [])) ⟨ad,(RC.upd bq ab (aa a9 aE) (ut l ad (ac (ni d.size f) (ac (ni (le d.size g.size) a) aD)))),bt,⟨_,_,_,_,_,rfl,aT.nil ..,aT.nil ..,bo,aT.nil ..,aT.nil ..,(cP (by omega))⟩,by subst bg;unfold ak aR ek dZ dM hG sX iB qK oC ti ef fP;(try simp only[h,bi,ea,ed,e9,eb,ec,reduceIte,fy])<;>rfl⟩
 have b7:=ai h
 refine go<|ah 2<|cb ((c==2)) (fun j=>?_) (fun j=>?_)
 have bw:=ag j
 refine sq<|aB 2<|c0<|bu<|aq 1<|ay<|m3 (eK o) fun co bz bA cq=>bp ((ap.mk b false 0).byteV)<|Pl 1<|aL 4<|cu 3 [41] 44 (((decide (0<((ap.mk b false 0).byteV)))&&(decide (((ap.mk b false 0).byteV)≤250)))) (fun K ae=>?_) ?_
 refine bl 41 ((decide (0<((ap.mk b false 0).byteV)))) (fun B=>?_) (fun B=>?_)
 have bB:=of_decide_eq_true B
 exact Pl 3<|ce ae (decide (((ap.mk b false 0).byteV)≤250)) (by rw[B];rfl)
 have bB:=of_decide_eq_false B
 exact Pl 3<|ce ae false (by rw[B];rfl)
 refine ay<|m2 (bf (((decide (0<((ap.mk b false 0).byteV)))&&(decide (((ap.mk b false 0).byteV)≤250)))) 5 bz) fun cr bD bF=>?_
 refine gM bD fun J bH af=>?_
 refine nt<|go<|Pl 2<|ay<|sW (gA (n:=(ap.mk b false 0).byteV) (by omega) af) fun bI bJ cv bK bL bM=>?_
 have cw:=Nat.le_trans (ap.bytesR_le J ((ap.mk b false 0).byteV)) (RC.clen af)
 refine Pl 1<|?_
 have aj:=u1 bA (u1 bF bM im) im
 have al:=nb (az k) lr a
 refine L0<|bY (bj aj (Ne.symm al) G) 14 (mG c 0 0 0 0 0 0 0 0 0 0 0 nS nS (.slice bI ((J.bytesR ((ap.mk b false 0).byteV)).length) bJ) nS 0 0 0 0 0 nS) fun cx bO am=>nl<|bn<|?_
 have an:=us aj am
 exact jn ((J.bytesC ((ap.mk b false 0).byteV)),_,(aS.mk c 0 0 0 0 0 0 0 0 0 0 0 [] [] (J.bytesR ((ap.mk b false 0).byteV)) [] 0 0 0 0 0 [])) ⟨an,(RC.upd bL am (aa al aE) (ut l an (ac (ni d.size f) (ac (ni (le d.size g.size) a) aD)))),bO,⟨_,_,_,_,_,rfl,aT.nil ..,aT.nil ..,bK,aT.nil ..,aT.nil ..,(cP (by omega))⟩,by subst bH;unfold ak aR ek dZ dM hG sX iB qK oC ti ef fP;(try simp only[h,j,bi,ea,ed,e9,eb,ec,reduceIte,fy])<;>rfl⟩
 have bw:=ai j
 refine aB 2<|cb ((c==5)) (fun q=>?_) (fun q=>?_)
 have bP:=ag q
 refine aq 1<|ay<|m3 (d7 o) fun cy bQ ao cA=>Pl 1<|?_
 have D:=nb (az k) lr a
 refine L0<|bY (bj ao (Ne.symm D) G) 2 (mG c 0 ((ap.mk b false 0).wordV) 0 0 0 0 0 0 0 0 0 nS nS nS nS 0 0 0 0 0 nS) fun cB bR ar=>aL 1<|?_
 have au:=us ao ar
 have aw:=ut l au (ac (ni d.size f) (ac (ni (le d.size g.size) a) aD))
 refine ay<|m3 (d7 (RC.upd bQ ar (aa D aE) aw)) fun cC bS ax cD=>Pl 1<|?_
 refine L0<|bY (bj ax (Ne.symm D) bR) 4 (mG c 0 ((ap.mk b false 0).wordV) 0 (((ap.mk b false 0).wordsC 1).wordV) 0 0 0 0 0 0 0 nS nS nS nS 0 0 0 0 0 nS) fun cE U aH=>nt<|go<|Pl 2<|aC U 4<|Pl 2<|cu 4 [62] 66 ((((((ap.mk b false 0).wordsC 1).wordV)==0)||((((ap.mk b false 0).wordsC 1).wordV)==65280))) (fun K aN=>?_) ?_
 refine bl 62 (((((ap.mk b false 0).wordsC 1).wordV)==0)) (fun E=>?_) (fun E=>?_)
 have bT:=ag E
 exact Pl 4<|ce aN true (by rw[E];rfl)
 have bT:=ai E
 exact Pl 1<|L1<|dQ U 4<|Pl 2<|ce aN ((((ap.mk b false 0).wordsC 1).wordV)==65280) (by rw[E];rfl)
 have aO:=us ax aH
 refine ay<|m2 (bf ((((((ap.mk b false 0).wordsC 1).wordV)==0)||((((ap.mk b false 0).wordsC 1).wordV)==65280))) 6 (RC.upd bS aH (aa D aE) (ut aw aO (ac (ni d.size f) (ac (ni (le d.size g.size) a) aD))))) fun cF bU aP=>?_
 refine gM bU fun bV bW bX=>?_
 refine nl<|bn<|?_
 exact jn (bV,_,(aS.mk c 0 ((ap.mk b false 0).wordV) 0 (((ap.mk b false 0).wordsC 1).wordV) 0 0 0 0 0 0 0 [] [] [] [] 0 0 0 0 0 [])) ⟨(ut au (u1 aO aP im) (ac im (ac im aD))),bX,(bj aP (Ne.symm D) U),⟨_,_,_,_,_,rfl,aT.nil ..,aT.nil ..,(fun _ _ _=>aT.nil ..),aT.nil ..,aT.nil ..,(cP (by omega))⟩,by subst bW;unfold ak aR ek dZ dM hG sX iB qK oC ti ef fP;(try simp only[h,j,q,bi,ea,ed,e9,eb,ec,reduceIte,fy])<;>rfl⟩
 have bP:=ai q
 refine aB 2<|cb ((c==15)) (fun F=>?_) (fun F=>?_)
 have bZ:=ag F
 refine aq 1<|?_
 refine ay<|m3 (qH (most:=1968) (b8 (by omega)) o G (Nat.le_trans (le d.size g.size) a) (nb (az k) lr a)) fun cG c2 c3 c4=>?_
 have cH:=bN (RC.rng o)
 have cJ:=bN (c:=(ap.mk b false 0).wordsC 1) (cS (RC.rng o) 1)
 exact nt<|sq<|aB 2<|c1<|xt<|tx<|bx<|jn ((cz (ap.mk b false 0) 1968),_,(aS.mk c 0 ((ap.mk b false 0).wordV) (((ap.mk b false 0).wordsC 1).wordV) 0 0 0 0 0 0 0 0 [] [] [] [] 0 0 0 0 0 [])) ⟨c4,c2,c3,⟨_,_,_,_,_,rfl,aT.nil ..,aT.nil ..,(fun _ _ _=>aT.nil ..),aT.nil ..,aT.nil ..,(cP (by omega))⟩,by unfold ak aR ek dZ dM hG sX iB qK oC ti ef fP;(try simp only[h,j,q,F,bi,ea,ed,e9,eb,ec,reduceIte,fy])<;>rfl⟩
 have bZ:=ai F
 refine aq 1<|?_
 refine aG (ub t r) mZ fun cK c5 c6=>ah 1<|rt<|br<|tr<|ck c5 (vI 4)<|?_
 exact cI (by unfold ak aR ek dZ dM hG sX iB qK oC ti ef fP;(try simp only[h,j,q,F,bi,ea,ed,e9,eb,ec,reduceIte,fy])<;>rfl) (bE (ud l c6 L))
theorem mS(hcode:B8 c)(hsl:aV m w (.slice A b.length cp) b)(hb:b.length≤1048576)(hd:¬ (dir=0∨dir=1)) :
    Calls Tryz.prog 109 #[vI dir,vB c,.slice A b.length cp] w (cN (.slice A b.length cp) b (ak aR dir c b) w):=by
 obtain⟨hcode1,hcode2⟩:=hcode
 have hln:(b.length:Int)≤1048576:=by omega
 have e0:(dir != 0)=true:=by simp;omega
 have e1:(dir != 1)=true:=by simp;omega
 refine en 113 Tryz.func109 rfl<|sg<|aK mZ fun g h a d e=>ah 1<|sq<|aq 3<|sy 16 e0<|Pl 3<|nl<|tn<|ct e1<|aq 1<|aG d mZ fun i eR f=>ah 1<|b6<|ck eR (vI 1)<|?_
 exact cI (by unfold ak aR ek dZ dM hG sX iB qK oC ti ef fP;(try simp only[e0,e1,bi,ea,ed,e9,eb,ec,reduceIte,hd,fy])<;>rfl) (bE (ud e f a))
open Go.RowKit
theorem jh(h:f8 C){b:Bool}  : f8 (C.need b x):=fun y hy=>h y (by rwa [jm] at hy)
theorem jH(h:f8 C)  : f8 (C.bytesC n):=iO h n
theorem pq(h:f8 C)  : f8 (C.wordsC n):=cS h n
theorem Ae(C:ap)(x:Int) : (C.bytesC 1).need (!(C.bytesC 1).sh) x=C.bytesC 1:=by
  by_cases hf:C.fails 1=true
  · exact eY (fQ hf)
  · have h:(C.bytesC 1).sh=false:=by
      unfold ap.bytesC
      rw[if_neg hf]
      unfold ap.fails at hf
      simp only[Bool.or_eq_true,decide_eq_true_eq,not_or] at hf
      show C.sh=false
      simpa using hf.1.1
    rw[h]
    unfold ap.need
    rw[if_neg (by rintro⟨_,h⟩;cases h)]
theorem y7{v:Int}(h:0≤v) : decide (0<v)=(v != 0):=by
  rw[Bool.eq_iff_iff]
  simp only[decide_eq_true_eq,bne_iff_ne,ne_eq]
  omega
def DX (C:ap) : ap:=((C.bytesC 1).need (!(C.bytesC 1).sh) 5).need (C.byteV==6) 9
def Ea (C:ap) : ap:=((DX C).wordsC 1).need (decide (0<(DX C).wordV)) 6
def Ec (C:ap) : ap:=((Ea C).wordsC 1).need (decide ((Ea C).wordV≤9999)) 7
def xH (C:ap) : ap:=((Ec C).wordsC 1).need (decide (0<(Ec C).wordV)) 5
theorem yj(C:ap) : DX C=jd C:=by unfold DX jd;rw[Ae]
theorem uR(h:f8 C) : f8 (jd C):=jh (jH h)
theorem xZ(h:f8 C) : Ea C=jO C:=by unfold Ea jO;rw[yj,y7 (bN (uR h)).1]
theorem AY(h:f8 C) : f8 (jO C):=jh (pq (uR h))
theorem zB(h:f8 C) : Ec C=o4 C:=by unfold Ec o4;rw[xZ h]
theorem Bn(h:f8 C) : f8 (o4 C):=jh (pq (AY h))
theorem xa(h:f8 C) : xH C=dR C:=by unfold xH dR;rw[zB h,y7 (bN (Bn h)).1]
theorem Ct(h:C.e≠0) : C.endC=C:=by unfold ap.endC;exact eY h
theorem zb(h:b.length≠0) : (ap.mk b false 0).byteV=b.getD 0 0∧(ap.mk b false 0).bytesC 1=⟨b.drop 1,false,0⟩:=by
  have hf:¬ (ap.mk b false 0).fails 1=true:=by
    unfold ap.fails
    simp only[Bool.or_eq_true,decide_eq_true_eq,not_or]
    exact⟨⟨by decide,by decide⟩,by omega⟩
  constructor
  · unfold ap.byteV ap.bytesR
    rw[if_neg hf]
    rcases b with _|⟨x,t⟩
    · exact absurd rfl h
    · rfl
  · unfold ap.bytesC
    rw[if_neg hf]
    rfl
def dc (b:List Int)(n:Int) : List Int:=(b.take (n+1).toNat).drop 1
def ei (one:Int→ap→Int × ap × dl)(c:Int)(b:List Int) : aS × Int :=
  if (aX one (dc b (b.getD 0 0)).length 0 ⟨dc b (b.getD 0 0),false,0⟩ []).1.e != 0 then (aS.zero,bB (aX one (dc b (b.getD 0 0)).length 0 ⟨dc b (b.getD 0 0),false,0⟩ []).1.e)
  else if decide (b.getD 0 0+1<(b.length:Int)) then (aS.zero,3)
  else ({ aS.zero with code:=c,recs:=(aX one (dc b (b.getD 0 0)).length 0 ⟨dc b (b.getD 0 0),false,0⟩ []).2 },0)
def di (one:Int→ap→Int × ap × dl)(may:Int→Bool)(c:Int)(b:List Int) : aS × Int :=
  if (b.length:Int)==0 then (aS.zero,2)
  else if !(may (b.getD 0 0)) then (aS.zero,5)
  else if decide ((b.length:Int)<b.getD 0 0+1) then (aS.zero,2)
  else ei one c b
theorem mh(h:C.e≠0) : bC M C=(aS.zero,C.e):=by
  unfold bC
  rw[Ct h,if_neg h]
theorem la{one:Int→ap→Int × ap × dl}{may:Int→Bool}   (hr:∀ x,x∈b→0≤x∧x<256) : bC (dm one may c ⟨b,false,0⟩).2 (dm one may c ⟨b,false,0⟩).1=di one may c b:=by
  unfold di
  by_cases h0:b.length=0
  · rw[if_pos (by rw[beq_iff_eq];omega)]
    obtain rfl:=List.eq_nil_of_length_eq_zero h0
    have e1:(l7 may ⟨[],false,0⟩).e=2:=by
      unfold l7
      rw[eY (fQ (by decide))]
      rfl
    have e2:((l7 may ⟨[],false,0⟩).bytesC (ap.mk [] false 0).byteV).e=2:=by
      have hs:(l7 may ⟨[],false,0⟩).sh=true:=by
        unfold l7
        rw[eY (fQ (by decide))]
        rfl
      unfold ap.bytesC
      rw[if_pos (by unfold ap.fails;rw[hs];rfl),eY (by show(l7 may ⟨[],false,0⟩).e≠0;rw[e1];decide)]
      exact e1
    unfold dm
    dsimp only
    rw[eY (by rw[e2];decide),mh (by rw[e2];decide),e2]
  rw[if_neg (by rw[beq_iff_eq];omega)]
  obtain⟨e1,e2⟩:=zb h0
  have hn:0≤b.getD 0 0∧b.getD 0 0<256:=by
    rcases b with _|⟨x,t⟩
    · exact absurd rfl h0
    · exact hr x (by simp)
  by_cases hm:may (b.getD 0 0)=true
  · rw[if_neg (by rw[hm];decide)]
    have e3:l7 may ⟨b,false,0⟩=⟨b.drop 1,false,0⟩:=by
      unfold l7
      rw[e1,e2,hm]
      rfl
    by_cases hs:(b.length:Int)<b.getD 0 0+1
    · rw[if_pos (by simpa using hs)]
      have hf:(ap.mk (b.drop 1) false 0).fails (b.getD 0 0)=true:=by
        unfold ap.fails
        simp only[Bool.or_eq_true,decide_eq_true_eq,List.length_drop]
        exact .inr (by omega)
      have e4:(l7 may ⟨b,false,0⟩).bytesC (ap.mk b false 0).byteV=⟨[],true,2⟩:=by
        rw[e1,e3]
        unfold ap.bytesC
        rw[if_pos hf]
        rfl
      unfold dm
      dsimp only
      rw[e4,eY (by decide),mh (by decide)]
    · rw[if_neg (by simpa using hs)]
      have hf:¬ (ap.mk (b.drop 1) false 0).fails (b.getD 0 0)=true:=by
        unfold ap.fails
        simp only[Bool.or_eq_true,decide_eq_true_eq,List.length_drop,not_or]
        exact⟨⟨by decide,by omega⟩,by omega⟩
      have e4:(l7 may ⟨b,false,0⟩).bytesC (ap.mk b false 0).byteV=⟨(b.drop 1).drop (b.getD 0 0).toNat,false,0⟩:=by
        rw[e1,e3]
        unfold ap.bytesC
        rw[if_neg hf]
      have e5:wq may ⟨b,false,0⟩=⟨dc b (b.getD 0 0),false,0⟩:=by
        unfold wq dc
        rw[e1,e3]
        unfold ap.bytesR
        rw[if_neg hf,show(b.getD 0 0+1).toNat=1+(b.getD 0 0).toNat from by omega,List.drop_take]
        rw[show 1+(b.getD 0 0).toNat-1=(b.getD 0 0).toNat from by omega]
      unfold dm ei oe
      dsimp only
      rw[e4,e5]
      by_cases hz:(aX one (dc b (b.getD 0 0)).length 0 ⟨dc b (b.getD 0 0),false,0⟩ []).1.e=0
      · rw[hz,if_neg (by decide)]
        have e6:(ap.mk ((b.drop 1).drop (b.getD 0 0).toNat) false 0).need ((0:Int)==0) (bB 0)=⟨(b.drop 1).drop (b.getD 0 0).toNat,false,0⟩:=rfl
        rw[e6]
        by_cases hl:b.getD 0 0+1<(b.length:Int)
        · rw[if_pos (by simpa using hl)]
          have e7:(ap.mk ((b.drop 1).drop (b.getD 0 0).toNat) false 0).endC=⟨(b.drop 1).drop (b.getD 0 0).toNat,false,3⟩:=by
            unfold ap.endC ap.need
            rw[if_pos ⟨rfl,by rw[beq_eq_false_iff_ne];simp only[List.length_drop];omega⟩]
          unfold bC
          rw[e7,if_neg (show ¬ (3:Int)=0 from by decide)]
        · rw[if_neg (by simpa using hl)]
          have e7:(ap.mk ((b.drop 1).drop (b.getD 0 0).toNat) false 0).endC=⟨(b.drop 1).drop (b.getD 0 0).toNat,false,0⟩:=by
            unfold ap.endC ap.need
            rw[if_neg (by rintro⟨_,h⟩;rw[beq_eq_false_iff_ne] at h;simp only[List.length_drop] at h;omega)]
          unfold bC
          rw[e7,if_pos rfl]
      · rw[if_pos (by simpa using hz)]
        have hw:bB (aX one (dc b (b.getD 0 0)).length 0 ⟨dc b (b.getD 0 0),false,0⟩ []).1.e≠0:=by
          unfold bB
          split
          · decide
          · exact hz
        have e6:(ap.mk ((b.drop 1).drop (b.getD 0 0).toNat) false 0).need ((aX one (dc b (b.getD 0 0)).length 0 ⟨dc b (b.getD 0 0),false,0⟩ []).1.e==0) (bB (aX one (dc b (b.getD 0 0)).length 0 ⟨dc b (b.getD 0 0),false,0⟩ []).1.e)=⟨(b.drop 1).drop (b.getD 0 0).toNat,false,bB (aX one (dc b (b.getD 0 0)).length 0 ⟨dc b (b.getD 0 0),false,0⟩ []).1.e⟩:=by
          unfold ap.need
          rw[if_pos ⟨rfl,by simpa using hz⟩]
        rw[e6,mh hw]
  · have hm:may (b.getD 0 0)=false:=by simpa using hm
    rw[if_pos (by rw[hm];rfl)]
    have e3:l7 may ⟨b,false,0⟩=⟨b.drop 1,false,5⟩:=by
      unfold l7
      rw[e1,e2,hm]
      rfl
    have e4:((l7 may ⟨b,false,0⟩).bytesC (ap.mk b false 0).byteV).e=5:=by
      rw[e3]
      unfold ap.bytesC
      split
      · rfl
      · rfl
    unfold dm
    dsimp only
    rw[eY (by rw[e4];decide),mh (by rw[e4];decide),e4]
theorem tP(hr:∀ x,x∈b→0≤x∧x<256) : ak bg 0 20 b=di dj iS 20 b:=la hr
theorem tD(hr:∀ x,x∈b→0≤x∧x<256) : ak bg 1 20 b=di bQ iF 20 b:=la hr
theorem zE(hd:dir=0∨dir=1)(hr:∀ x,x∈b→0≤x∧x<256) : ak bg dir 21 b=di dr jj 21 b:=by
  unfold ak
  rw[if_pos hd]
  exact la hr
theorem AZ:∀ n:Nat,n<256→(decide (1≤(n:Int)%128)&&decide ((n:Int)%128≤3))=co (n:Int):=by decide +kernel
theorem Ds(h:0≤x∧x<256) : (decide (1≤x%128)&&decide (x%128≤3))=co x:=by
  obtain⟨n,rfl⟩:=Int.eq_ofNat_of_zero_le h.1
  exact AZ n (by omega)
theorem Dh:(decide (0<x)&&decide (x<5))=(decide (1≤x)&&decide (x≤4)):=by
  rw[Bool.eq_iff_iff]
  simp only[Bool.and_eq_true,decide_eq_true_eq]
  omega
def fV (C:ap) : ap:=((dF C).bytesC 1).need (decide (0<(dF C).byteV)&&decide ((dF C).byteV<5)) 6
theorem y3(C:ap) : fV C=eG C:=by unfold fV eG;rw[Dh]
def gQ (C:ap) : ap:=(C.bytesC 1).need (decide (1≤C.byteV%128)&&decide (C.byteV%128≤3)) 6
def j9 (C:ap) : ap:=((gQ C).bytesC 1).need ((gQ C).byteV==0 || (gQ C).byteV==255) 6
def j8 (C:ap) : ap:=((j9 C).bytesC 1).need ((j9 C).byteV==0 || (gQ C).byteV==255) 6
def kD (kd:Int)(C:ap) : ap:=((j8 C).bytesC 1).need ((j8 C).byteV==1 || kd != 4) 5
def eQ (kd:Int)(C:ap) : ap × List Obj:=eP (j8 C).byteV.toNat (kD kd C) []
theorem nR(h:f8 C) : gQ C=m9 C:=by unfold gQ m9;rw[Ds (d9 h)]
theorem qZ(h:f8 C) : j9 C=mc C:=by unfold j9 mc;rw[nR h]
theorem zh(h:f8 C) : j8 C=oJ C:=by
  unfold j8 oJ
  rw[qZ h,nR h]
  by_cases e:((mc C).bytesC 1).e=0
  · have h1:=(gV e).1
    unfold mc at h1
    have h2:=(ft (by decide) h1).2
    congr 1
    rw[Bool.eq_iff_iff]
    simp only[Bool.or_eq_true,beq_iff_eq,bne_iff_ne,ne_eq] at h2 ⊢
    omega
  · rw[eY e,eY e]
theorem ri{kd:Int}  (h:f8 C) : eQ kd C=dN kd C:=by
  unfold eQ dN kD yV
  rw[zh h,Bool.or_comm]
def dw (dir c:Int)(C:ap) : Option (ap × aS) :=
  if c != 43 then none
  else if C.byteV==13 then some ((ga C).bytesC ((dF C).l.length:Int),{ aS.zero with code:=43,mei:=C.byteV,data:=(ga C).bytesR ((dF C).l.length:Int) })
  else if dir==0 then some ((fV C).bytesC 1,{ aS.zero with code:=43,mei:=C.byteV,kind:=(dF C).byteV,next:=(fV C).byteV })
  else some ((eQ (dF C).byteV (fV C)).1,{ aS.zero with code:=43,mei:=C.byteV,kind:=(dF C).byteV,level:=(fV C).byteV,more:=(gQ (fV C)).byteV,next:=(j9 (fV C)).byteV,objects:=(eQ (dF C).byteV (fV C)).2 })
theorem rW(hr:∀ x,x∈b→0≤x∧x<256) : ak dw dir c b=ak bJ dir c b:=by
  unfold ak
  split
  · rename_i hd
    unfold dw bJ
    by_cases hc:c=43
    · subst hc
      have hD:f8 (fV ⟨b,false,0⟩):=jh (jH (jh (jH (C:=⟨b,false,0⟩) hr)))
      have hl:(ga ⟨b,false,0⟩).l.length=(dF ⟨b,false,0⟩).l.length:=by unfold ga;rw[jm]
      rw[if_neg (show ¬ (((43:Int)!=43)=true) from by decide),if_neg (show ¬ (((43:Int)!=43)=true) from by decide),nR hD,qZ hD,ri hD,y3,hl]
      rcases hd with rfl|rfl
      · rw[if_pos (show((0:Int)==0)=true from rfl),if_neg (show ¬ ((0:Int)==1)=true from by decide)]
      · rw[if_neg (show ¬ ((1:Int)==0)=true from by decide),if_pos (show((1:Int)==1)=true from rfl)]
    · rw[if_pos (by simpa using hc),if_pos (by simpa using hc)]
  · rfl
open Go.RowKit
theorem RC.nrow{α:Type}{base sz n c:Nat}{e:TypeId}{R:World→α→List Value→Prop}{B:Option Addr}{xs:List α}         (h:RC w0 m A cp full w g C)(ho:aZ base e sz R w (.slice B n c) xs)(ht:(194==e)=false) : g∉ob B:=by
  obtain⟨k,h1,_⟩:=h.cell
  exact dJ h1 ho ht
theorem RC.fld2(h:RC w0 m A cp full w g C) : w.cell? ⟨g,2,none⟩=some (.bool C.sh):=by
  obtain⟨k,h1,_⟩:=h.cell
  rw[bD h1]
  rfl
def Ci (w0:World)(m:Md)(A:Option Addr)(cp:Nat)(full:List Int)(g:Nat)(C':ap)(r:dl)(w:World)(e:Ending)(w':World) : Prop:=e = .returned (.agg #[.int .u16 r.file,.int .u16 r.record,.int .u16 r.count,.slice none 0 0])∧eR r.file∧eR r.record∧eR r.count∧RC w0 m A cp full w' g C'∧aI [g] w w'
theorem oU(h : -1≤x∧x≤255) : 0≤Int.tdiv x 2∧Int.tdiv x 2≤127:=by
  by_cases h0:x = -1
  · subst h0;decide
  · rw[Int.tdiv_eq_ediv_of_nonneg (by omega)]
    omega
variable {R:ap × List dl}
theorem jJ{one:Int→ap→Int × ap × dl}{n:Nat}{s:Int}  {L:List dl}  (h3:(C.e=0∧C.l.length≤n∧aX one n s C L=R)∨(C.e≠0∧R.1=C))(hc:0<C.l.length)(he:C.e=0)(hlt:(one s C).2.1.l.length<C.l.length) :
    ((one s C).2.1.e=0∧(one s C).2.1.l.length≤n-1∧aX one (n-1) (one s C).1 (one s C).2.1 (L++[(one s C).2.2])=R)∨((one s C).2.1.e≠0∧R.1=(one s C).2.1):=by
  rcases h3 with⟨_,hn,hR⟩|⟨h,_⟩
  · obtain⟨k,rfl⟩ : ∃ k,n=k+1:=⟨n-1,by omega⟩
    unfold aX at hR
    rw[if_pos (by rw[he];simpa using hc)] at hR
    by_cases hz:(one s C).2.1.e=0
    · rw[if_neg (by rw[hz];decide)] at hR
      exact .inl ⟨hz,by omega,hR⟩
    · rw[if_pos (by simpa using hz)] at hR
      exact .inr ⟨hz,by rw[← hR]⟩
  · exact absurd he h
theorem gq{one:Int→ap→Int × ap × dl}{n:Nat}{s:Int}  {L:List dl}  (h3:(C.e=0∧C.l.length≤n∧aX one n s C L=R)∨(C.e≠0∧R.1=C))(hq:(decide (0<((C.l.length:Nat) : Int))&&C.e==0)=false) : R.1.e=C.e∧(C.e=0→R.2=L):=by
  rcases h3 with⟨he,hn,hR⟩|⟨h,h2⟩
  · rw[iJ one n s C L hq] at hR
    rw[← hR]
    exact⟨rfl,fun _=>rfl⟩
  · rw[h2]
    exact⟨rfl,fun h3=>absurd h3 h⟩
def gP (R:ap × List dl)(w:World)(e:Ending)(w':World) : Prop:=∃ A2 n2 c2,e = .returned (.tuple #[.slice A2 n2 c2,.int .i64 (bB R.1.e)])∧(bB R.1.e=0→aZ w.heap.size 98 4 (bH true) w' (.slice A2 n2 c2) R.2)∧aI [] w w'
theorem nz{f:FuncId}{args:Array Value}   (h:Calls Tryz.prog f args w (gP R w))(h0:bB R.1.e=0) : Calls Tryz.prog f args w (fun e w'=>∃ v,e = .returned (.tuple #[v,.int .i64 0])∧aZ w.heap.size 98 4 (bH true) w' v R.2∧aI [] w w'):=by
  refine h.mono ?_
  rintro e w' ⟨A2,n2,c2,rfl,h1,h2⟩
  exact⟨_,by rw[h0],h1 h0,h2⟩
theorem lB{f:FuncId}{args:Array Value}   (h:Calls Tryz.prog f args w (gP R w)) : Calls Tryz.prog f args w (fun e w'=>∃ A2 n2 c2,e = .returned (.tuple #[.slice A2 n2 c2,.int .i64 (bB R.1.e)])∧aI [] w w'):=by
  refine h.mono ?_
  rintro e w' ⟨A2,n2,c2,rfl,h1,h2⟩
  exact⟨A2,n2,c2,rfl,h2⟩
theorem Ch(hC:RC w0 m A cp full w g C) : Calls Tryz.prog 225 #[vP g 0] w (Ci w0 m A cp full g (dR C) (aW C) w):=by
 have hr:f8 C:=RC.rng hC
 refine en 42 Tryz.func225 rfl<|sg<|aK #[vW 0,vW 0,vW 0,nS] fun N O b i a=>aL 1<|?_
 refine ay<|m3 (eK (RC.upd hC a aE (aI.step (RC.u hC) a))) fun P c j Q=>Pl 1<|aL 4<|L0<|fR (p:=⟨g,2,none⟩) (v:=.bool ((C.bytesC 1).sh)) (RC.fld2 c)<|Pl 1<|ay<|m2 (bf ((!((C.bytesC 1).sh))) 5 c) fun R k l=>aL 3<|ay<|m2 (bf ((C.byteV==6)) 9 k) fun S n o=>?_
 refine gM n fun x26 q r=>?_
 refine aL 1<|ay<|m3 (d7 r) fun T s t U=>Pl 1<|aL 3<|ay<|m2 (bf ((decide (0<x26.wordV))) 6 s) fun V y z=>nl<|tn<|aq 1<|ay<|m3 (d7 y) fun W B D X=>Pl 1<|aL 3<|ay<|m2 (bf ((decide ((((x26.wordsC 1).need (decide (0<x26.wordV)) 6).wordV)≤9999))) 7 B) fun Y E F=>?_
 refine gM E fun x43 G H=>?_
 refine aL 1<|ay<|m3 (d7 H) fun Z I J a0=>Pl 1<|aL 3<|ay<|m2 (bf ((decide (0<x43.wordV))) 5 I) fun a1 K L=>nl<|tn<|aq 4<|?_
 have d:=u1 j (u1 l (u1 o (u1 t (u1 z (u1 D (u1 F (u1 J L im) im) im) im) im) im) im) im
 have e:=nb (RC.lt hC) lr b
 refine aG (bj d (Ne.symm e) i) #[vW x26.wordV,vW (((x26.wordsC 1).need (decide (0<x26.wordV)) 6).wordV),vW x43.wordV,nS] fun a2 M f=>ss<|D3 M<|?_
 subst G q
 have e1:dR C=(((((((((C.bytesC 1).need (!((C.bytesC 1).sh)) 5).need (C.byteV==6) 9).wordsC 1).need (decide (0<(((C.bytesC 1).need (!((C.bytesC 1).sh)) 5).need (C.byteV==6) 9).wordV)) 6).wordsC 1).need (decide (((((((C.bytesC 1).need (!((C.bytesC 1).sh)) 5).need (C.byteV==6) 9).wordsC 1).need (decide (0<(((C.bytesC 1).need (!((C.bytesC 1).sh)) 5).need (C.byteV==6) 9).wordV)) 6).wordV)≤9999)) 7).wordsC 1).need (decide (0<(((((((C.bytesC 1).need (!((C.bytesC 1).sh)) 5).need (C.byteV==6) 9).wordsC 1).need (decide (0<(((C.bytesC 1).need (!((C.bytesC 1).sh)) 5).need (C.byteV==6) 9).wordV)) 6).wordsC 1).need (decide (((((((C.bytesC 1).need (!((C.bytesC 1).sh)) 5).need (C.byteV==6) 9).wordsC 1).need (decide (0<(((C.bytesC 1).need (!((C.bytesC 1).sh)) 5).need (C.byteV==6) 9).wordV)) 6).wordV)≤9999)) 7).wordV)) 5):=by rw[← xa hr];rfl
 have e2:(aW C).file=(((C.bytesC 1).need (!((C.bytesC 1).sh)) 5).need (C.byteV==6) 9).wordV:=by show(jd C).wordV=_;rw[← yj];rfl
 have e3:(aW C).record=(((((C.bytesC 1).need (!((C.bytesC 1).sh)) 5).need (C.byteV==6) 9).wordsC 1).need (decide (0<(((C.bytesC 1).need (!((C.bytesC 1).sh)) 5).need (C.byteV==6) 9).wordV)) 6).wordV:=by show(jO C).wordV=_;rw[← xZ hr];rfl
 have e4:(aW C).count=(((((((C.bytesC 1).need (!((C.bytesC 1).sh)) 5).need (C.byteV==6) 9).wordsC 1).need (decide (0<(((C.bytesC 1).need (!((C.bytesC 1).sh)) 5).need (C.byteV==6) 9).wordV)) 6).wordsC 1).need (decide (((((((C.bytesC 1).need (!((C.bytesC 1).sh)) 5).need (C.byteV==6) 9).wordsC 1).need (decide (0<(((C.bytesC 1).need (!((C.bytesC 1).sh)) 5).need (C.byteV==6) 9).wordV)) 6).wordV)≤9999)) 7).wordV:=by show(o4 C).wordV=_;rw[← zB hr];rfl
 have h:=ue a (us d f) b
 unfold Ci
 rw[e1,e2,e3,e4]
 exact⟨rfl,cM (by omega),cM (by omega),cM (by omega),(RC.upd K f (aa e aE) (hC.u.trans' h (fun x hx=>.inr (by simp at hx;subst hx;exact hC.new)))),h⟩
theorem yw(hsl:aV m w (.slice A b.length cp) b)(hb:b.length≤1048576) :
    Calls Tryz.prog 179 #[vI 0,vB 20,.slice A b.length cp] w (gP (aX dj b.length 0 ⟨b,false,0⟩ []) w):=by
 have hln:(b.length:Int)≤1048576:=by omega
 refine en 108 Tryz.func179 rfl<|aq 2<|aL 2<|L0<|cY #[.slice A b.length cp,vI 0,.bool false,vI 0] fun d U E a8 F=>ah 1<|sq<|go<|Pl 1<|dk 1<|sq<|bk<|?_
 have V:RC w _ A cp b U d (ap.mk b false 0):=⟨hsl,F,E,⟨0,a8,Nat.zero_le _,rfl⟩,by omega⟩
 refine je (fun x=>[(0,vI 0),(1,vB 20),(6,nS),(7,vI 0),(8,vP d 0),(9,.slice x.2.2.2.1 x.2.2.1.length x.2.2.2.2.1),(10,vI x.2.2.2.2.2)]) (fun(x:Nat × ap × List dl × Option Addr × Nat × Int) w'=>aI [] w w'∧U.heap.size≤w'.heap.size∧RC w m A cp b w' d x.2.1∧aZ w.heap.size 98 4 (bH true) w' (.slice x.2.2.2.1 x.2.2.1.length x.2.2.2.2.1) x.2.2.1∧(0≤x.2.2.2.2.2)∧(x.2.1.e=0→x.2.2.2.2.2≤245)∧(x.2.2.1.length+x.2.1.l.length≤b.length)∧((x.2.1.e=0∧x.2.1.l.length≤x.1∧aX dj x.1 x.2.2.2.2.2 x.2.1 x.2.2.1=aX dj b.length 0 ⟨b,false,0⟩ [])∨(x.2.1.e≠0∧(aX dj b.length 0 ⟨b,false,0⟩ []).1=x.2.1))) (fun x=>x.2.1.l.length) (b.length,(ap.mk b false 0),[],none,0,0) ⟨F,lr,V,(aZ.nil w.heap.size _ _ (bH true) _),(by(try dsimp only);omega),(fun _=>(show(0:Int)≤245 from by decide)),(by(try dsimp only);simp),.inl ⟨rfl,Nat.le_refl _,rfl⟩⟩ ?_
 rintro⟨n,C,L,B,cq,s⟩ W ⟨a9,G,ab,ad,ae,af,aj,ak⟩
 refine gi [(0,vI 0),(1,vB 20),(6,nS),(7,vI 0),(8,vP d 0),(9,.slice B L.length cq),(10,vI s)] ?_
 have a:RC w m A cp b W d C:=ab
 have hlC:=RC.clen a
 have hrC:f8 C:=RC.rng a
 have i:aZ w.heap.size 98 4 (bH true) W (.slice B L.length cq) L:=ad
 have aY:0≤s:=ae
 have b0:C.e=0→s≤245:=af
 have b1:L.length+C.l.length≤b.length:=aj
 have H:(C.e=0∧C.l.length≤n∧aX dj n s C L=aX dj b.length 0 ⟨b,false,0⟩ [])∨(C.e≠0∧(aX dj b.length 0 ⟨b,false,0⟩ []).1=C):=ak
 refine sq<|aq 1<|ay<|m1 (jT a) fun b2 c=>?_
 have b3:=RC.clen a
 refine Pl 2<|cu 6 [20] 26 (((decide (0<(C.l.length:Int)))&&(C.e==0))) (fun K X=>?_) ?_
 refine bl 20 ((decide (0<(C.l.length:Int)))) (fun j=>?_) (fun j=>?_)
 have al:=of_decide_eq_true j
 refine Pl 3<|?_
 exact L1<|fR (p:=⟨d,3,none⟩) (v:=vI C.e) (RC.fld (RC.upd a c aE (aI.step (RC.u a) c)))<|Pl 2<|ce X (C.e==0) (by rw[j];rfl)
 have al:=of_decide_eq_false j
 exact Pl 6<|ce X false (by rw[j];rfl)
 refine nt<|?_
 have I:=aJ a9 c
 refine cb (((decide (0<(C.l.length:Int)))&&(C.e==0))) (fun f=>?_) (fun f=>?_)
 have J:=(b7 f).1
 have M:=(b7 f).2
 have b4:=of_decide_eq_true J
 have b5:=ag M
 refine bu<|bk<|aq 1<|aK #[vW 0,vW 0,vW 0,nS] fun b8 b9 k an N=>aG an #[vW 0,vW 0,vW 0,nS] fun ba ao O=>nt<|sq<|aq 6<|nl<|tn<|c0<|aq 1<|?_
 have Y:=ud N O k
 have r:=aJ c Y
 refine ay<|m5 (Ch (RC.upd a r aE (aI.step (RC.u a) r))) fun bb ar aw az aA t=>?_
 obtain⟨bc,bd⟩:=ar
 obtain⟨be,bg⟩:=aw
 obtain⟨bh,bm⟩:=az
 have P:=nb (RC.lt V) (le G c.size) k
 refine aG (bj t (Ne.symm P) ao) #[vW ((aW C).file),vW ((aW C).record),vW ((aW C).count),nS] fun bo Z y=>dk 2<|c0<|aq 1<|bp (s+2)<|Pl 1<|aC Z 2<|bp ((aW C).count)<|bp (2*((aW C).count))<|bp ((s+2)+(2*((aW C).count)))<|ah 1<|go<|Pl 3<|?_
 have Q:=us t y
 have a0:=ud I (ue Y Q k) E
 refine ay<|m2 (bf ((decide (((s+2)+(2*((aW C).count)))≤245))) 5 (RC.upd aA y (aa P aE) a0)) fun bq aF o=>?_
 refine gM aF fun x68 aH a1=>?_
 refine nt<|go<|Pl 1<|?_
 refine L0<|cm (bj o (Ne.symm P) Z)<|L0<|cX (m:=1) (e:=98) #[vW ((aW C).file),vW ((aW C).record),vW ((aW C).count),nS] fun br bs bt aN z=>?_
 have aO:=ma (R:=bH true) (x:=(dl.mk ((aW C).file) ((aW C).record) ((aW C).count) ([]))) aN rfl ⟨_,rfl,(aT.nil true _ _ _ _),cM (x:=(aW C).file) (by omega),cM (x:=(aW C).record) (by omega),cM (x:=(aW C).count) (by omega)⟩
 have a2:=aJ o z
 have a3:=ue r (u1 Q a2 im) (le c.size k)
 have a4:=au i a3 (fun x hx=>(aa (fun e=>(RC.nrow a i (by decide)) (e▸hx)) aE)) (bH.upd16 a3 (av (RC.safe a _ (by decide)) aM))
 refine L0<|j7 (xs:=L) (ys:=([(dl.mk ((aW C).file) ((aW C).record) ((aW C).count) ([]))])) (.agg #[vW 0,vW 0,vW 0,nS]) 4 32 a4 aO (by simp) bH.ones (fun w' hv=>bH.upd16 hv (d6 (dP _ a4 (by decide)) aM)) (by(try simp only[bM,ax]);omega) (le (le (le (le (le (le (le (le F.size G) c.size) N.size) O.size) t.size) y.size) o.size) z.size) fun aP aQ bw aR S=>Pl 1<|nl<|bn<|?_
 subst aH
 have hC2:(dj s C).2.1=((dR C).need (decide (((s+2)+(2*((aW C).count)))≤245)) 5):=by show fb s C=_;(try simp only[fb,fh,← Int.add_assoc,f,J,M,bi]);all_goals rfl
 have hM2:[(dj s C).2.2]=[(dl.mk ((aW C).file) ((aW C).record) ((aW C).count) ([]))]:=by show[aW C]=_;(try simp only[fb,fh,← Int.add_assoc,f,J,M,bi]);all_goals rfl
 have hS2:(dj s C).1=((s+2)+(2*((aW C).count))):=by(try (show fh s C=_));(try simp only[fh,← Int.add_assoc]);all_goals rfl
 have hlt:=ms s C (by omega)
 have h9:=jJ (one:=dj) H (by omega) (by omega) hlt
 rw[hC2,hM2,hS2] at h9
 rw[hC2] at hlt
 have a5:=ut a0 (ut (aI.mono (S':=(d :: (ob B++[]))) a2 (ac im aD)) S (am il aD)) (ac (nr E) (am (aU i lr) aD))
 have a6:=ue r (u1 Q o im) (le c.size k)
 exact gK ((n-1),((dR C).need (decide (((s+2)+(2*((aW C).count)))≤245)) 5),(L++[(dl.mk ((aW C).file) ((aW C).record) ((aW C).count) ([]))]),aP,aQ,((s+2)+(2*((aW C).count)))) ⟨a5,(le (le (le (le (le (le (le (le G c.size) N.size) O.size) t.size) y.size) o.size) z.size) S.size),(RC.upd a1 (ut (aI.mono (S':=(ob B++[])) z aD) S (am il aD)) (bA (RC.nrow a1 (au i a6 (fun x hx=>(aa (fun e=>(RC.nrow a i (by decide)) (e▸hx)) aE)) (bH.upd16 a6 (av (RC.safe a _ (by decide)) aM))) (by decide)) aE) a5),aR,(by(try dsimp only);omega),(by(try dsimp only);intro he;have hk:=(ft (by decide) he).2;simp only[decide_eq_true_eq] at hk;omega),(by(try dsimp only);simp only[bM];omega),h9⟩ (by omega)
 refine xt<|tx<|tx<|bx<|tn<|sq<|aq 3<|?_
 have T:=RC.upd a c aE (aI.step (RC.u a) c)
 refine L0<|fR (p:=⟨d,3,none⟩) (v:=vI C.e) (RC.fld T)<|ah 1<|cb ((C.e==2)) (fun q=>?_) (fun q=>?_)
 have aS:=ag q
 refine aB 2<|b6<|rr (.tuple #[nS,vI 5])<|?_
 obtain⟨jd,jO⟩:=gq H f
 have hw:bB (aX dj b.length 0 ⟨b,false,0⟩ []).1.e=5:=by unfold bB;rw[jd,if_pos q]
 refine⟨none,0,0,by rw[hw],fun h=>absurd (hw.symm.trans h) (by decide),I⟩
 have aS:=ai q
 refine bu<|sq<|Rg 7 (fun w'=>w'.cell? ⟨d,3,none⟩=some (vI C.e)) fun bz D=>?_
 refine bv (RC.fld (RC.upd T D aE (aI.step (RC.u T) D))) fun g=>Rt 0 g<|Rt 1 g<|Rt 2 g<|Rt 3 g<|Rl 4 g (fun _ hs=>hs)<|Rt 5 g<|Rt 6 g<|re<|tn<|rt<|rr (.tuple #[.slice B L.length cq,vI C.e])<|?_
 obtain⟨jd,jO⟩:=gq H f
 have hw:bB (aX dj b.length 0 ⟨b,false,0⟩ []).1.e=C.e:=by unfold bB;rw[jd,if_neg (by rw[q];decide)]
 have a7:=aJ c D
 refine⟨_,_,_,by rw[hw],fun h=>by rw[jO (hw.symm.trans h)];exact(au i a7 (fun x hx=>aE) (bH.upd16 a7 aM)),(aJ I D)⟩
theorem zf(hsl:aV m w (.slice A b.length cp) b)(hb:b.length≤1048576) :
    Calls Tryz.prog 179 #[vI 1,vB 20,.slice A b.length cp] w (gP (aX bQ b.length 0 ⟨b,false,0⟩ []) w):=by
 have hln:(b.length:Int)≤1048576:=by omega
 refine en 108 Tryz.func179 rfl<|aq 2<|aL 2<|L0<|cY #[.slice A b.length cp,vI 0,.bool false,vI 0] fun f aj M bg N=>ah 1<|sq<|go<|Pl 1<|dk 1<|sq<|bk<|?_
 have Z:RC w _ A cp b aj f (ap.mk b false 0):=⟨hsl,N,M,⟨0,bg,Nat.zero_le _,rfl⟩,by omega⟩
 refine je (fun x=>[(0,vI 1),(1,vB 20),(6,nS),(7,vI 0),(8,vP f 0),(9,.slice x.2.2.2.1 x.2.2.1.length x.2.2.2.2.1),(10,vI x.2.2.2.2.2)]) (fun(x:Nat × ap × List dl × Option Addr × Nat × Int) w'=>aI [] w w'∧aj.heap.size≤w'.heap.size∧RC w m A cp b w' f x.2.1∧aZ w.heap.size 98 4 (bH true) w' (.slice x.2.2.2.1 x.2.2.1.length x.2.2.2.2.1) x.2.2.1∧(0≤x.2.2.2.2.2)∧(x.2.1.e=0→x.2.2.2.2.2≤245)∧(x.2.2.1.length+x.2.1.l.length≤b.length)∧((x.2.1.e=0∧x.2.1.l.length≤x.1∧aX bQ x.1 x.2.2.2.2.2 x.2.1 x.2.2.1=aX bQ b.length 0 ⟨b,false,0⟩ [])∨(x.2.1.e≠0∧(aX bQ b.length 0 ⟨b,false,0⟩ []).1=x.2.1))) (fun x=>x.2.1.l.length) (b.length,(ap.mk b false 0),[],none,0,0) ⟨N,lr,Z,(aZ.nil w.heap.size _ _ (bH true) _),(by(try dsimp only);omega),(fun _=>(show(0:Int)≤245 from by decide)),(by(try dsimp only);simp),.inl ⟨rfl,Nat.le_refl _,rfl⟩⟩ ?_
 rintro⟨n,C,L,B,cq,s⟩ ak ⟨bh,r,bm,bo,bq,br,bs,bt⟩
 refine gi [(0,vI 1),(1,vB 20),(6,nS),(7,vI 0),(8,vP f 0),(9,.slice B L.length cq),(10,vI s)] ?_
 have a:RC w m A cp b ak f C:=bm
 have hlC:=RC.clen a
 have hrC:f8 C:=RC.rng a
 have d:aZ w.heap.size 98 4 (bH true) ak (.slice B L.length cq) L:=bo
 have c6:0≤s:=bq
 have c7:C.e=0→s≤245:=br
 have c8:L.length+C.l.length≤b.length:=bs
 have O:(C.e=0∧C.l.length≤n∧aX bQ n s C L=aX bQ b.length 0 ⟨b,false,0⟩ [])∨(C.e≠0∧(aX bQ b.length 0 ⟨b,false,0⟩ []).1=C):=bt
 refine sq<|aq 1<|ay<|m1 (jT a) fun c9 c=>?_
 have ca:=RC.clen a
 refine Pl 2<|cu 6 [20] 26 (((decide (0<(C.l.length:Int)))&&(C.e==0))) (fun K al=>?_) ?_
 refine bl 20 ((decide (0<(C.l.length:Int)))) (fun z=>?_) (fun z=>?_)
 have bw:=of_decide_eq_true z
 refine Pl 3<|?_
 exact L1<|fR (p:=⟨f,3,none⟩) (v:=vI C.e) (RC.fld (RC.upd a c aE (aI.step (RC.u a) c)))<|Pl 2<|ce al (C.e==0) (by rw[z];rfl)
 have bw:=of_decide_eq_false z
 exact Pl 6<|ce al false (by rw[z];rfl)
 refine nt<|?_
 have D:=aJ bh c
 refine cb (((decide (0<(C.l.length:Int)))&&(C.e==0))) (fun g=>?_) (fun g=>?_)
 have E:=(b7 g).1
 have F:=(b7 g).2
 have cc:=of_decide_eq_true E
 have cd:=ag F
 refine bu<|bk<|aq 1<|aK #[vW 0,vW 0,vW 0,nS] fun P cf j a0 G=>aG a0 #[vW 0,vW 0,vW 0,nS] fun cg an k=>nt<|sq<|aq 6<|nl<|tn<|c1<|aq 1<|?_
 have ao:=ud G k j
 have t:=aJ c ao
 refine ay<|m3 (eK (RC.upd a t aE (aI.step (RC.u a) t))) fun ch H i ci=>bp C.byteV<|Pl 1<|aL 2<|L0<|Oe (vI (Int.tmod C.byteV 2)) (vI (C.byteV%2)) (congrArg (Value.int .i64) (Int.tmod_eq_emod_of_nonneg (by omega)))<|Pl 2<|cu 3 [41] 44 ((((C.byteV%2)==1)&&(decide (3≤C.byteV)))) (fun K ar=>?_) ?_
 refine bl 41 (((C.byteV%2)==1)) (fun I=>?_) (fun I=>?_)
 have bz:=ag I
 exact Pl 3<|ce ar (decide (3≤C.byteV)) (by rw[I];rfl)
 have bz:=ai I
 exact Pl 3<|ce ar false (by rw[I];rfl)
 refine Pl 1<|?_
 have aw:=ud D (uz ao i) M
 refine bl 45 ((((C.byteV%2)==1)&&(decide (3≤C.byteV)))) (fun o=>?_) (fun o=>?_)
 have a1:=(b7 o).1
 have a2:=(b7 o).2
 have cj:=ag a1
 have ck:=of_decide_eq_true a2
 refine Pl 2<|L1<|Oc<|m1 (jT H) fun cl y=>?_
 have cn:=RC.clen H
 refine Pl 2<|?_
 refine ay<|m2 (bf ((decide (C.byteV≤(((C.bytesC 1).l.length:Nat) : Int)))) 5 (RC.upd H y aE (aI.step (RC.u H) y))) fun co bC Q=>?_
 refine gM bC fun x66 bD bE=>?_
 refine aL 1<|ay<|m3 (eK bE) fun cr bF S cs=>Pl 1<|aL 3<|ay<|m2 (bf ((x66.byteV==6)) 9 bF) fun ct bG T=>nl<|tn<|go<|Pl 2<|bp (C.byteV-1)<|?_
 have cv:=oU (x:=(C.byteV-1)) (by omega)
 refine L0<|Oe (vI (IntKind.i64.wrap (Int.tdiv (C.byteV-1) 2))) (vI (Int.tdiv (C.byteV-1) 2)) (congrArg (Value.int .i64) (mF (by omega) (by omega)))<|ay<|qk (i4 (n:=(Int.tdiv (C.byteV-1) 2)) (by omega) bG) fun aA aC cw aF cx cy bI a3=>?_
 refine gM bI fun x82 bJ aH=>?_
 refine Pl 1<|?_
 have aN:=uz y (u1 Q (u1 S (u1 T a3 im) im) im)
 have a4:=u1 i aN im
 have aP:=nb (RC.lt Z) (le r c.size) j
 refine L0<|bY (bj a4 (Ne.symm aP) an) 3 #[vW 0,vW 0,vW 0,.slice aA ((((x66.bytesC 1).need (x66.byteV==6) 9).wordsR (Int.tdiv (C.byteV-1) 2)).length) aC] fun cz bK a5=>nt<|go<|Pl 1<|L0<|cm bK<|L0<|cX (m:=1) (e:=98) #[vW 0,vW 0,vW 0,.slice aA ((((x66.bytesC 1).need (x66.byteV==6) 9).wordsR (Int.tdiv (C.byteV-1) 2)).length) aC] fun cA cB cC bL a6=>?_
 have a7:=aJ a5 a6
 have bN:=ma (R:=bH true) (x:=(dl.mk 0 0 0 (((x66.bytesC 1).need (x66.byteV==6) 9).wordsR (Int.tdiv (C.byteV-1) 2)))) bL rfl ⟨_,rfl,((au aF a7 (fun x hx=>(aa (fun e=>(aO (az a0) (le (le (le (le (le k.size i.size) y.size) Q.size) S.size) T.size) aF) (e▸hx)) aE)) (fun _ _ h=>h))).rd,cM (x:=0) (by omega),cM (x:=0) (by omega),cM (x:=0) (by omega)⟩
 have aQ:=ue t (us a4 a7) (le c.size j)
 have aR:=au d aQ (fun x hx=>(aa (fun e=>(RC.nrow a d (by decide)) (e▸hx)) aE)) (bH.upd16 aQ (av (RC.safe a _ (by decide)) aM))
 refine L0<|j7 (xs:=L) (ys:=([(dl.mk 0 0 0 (((x66.bytesC 1).need (x66.byteV==6) 9).wordsR (Int.tdiv (C.byteV-1) 2)))])) (.agg #[vW 0,vW 0,vW 0,nS]) 4 32 aR bN (by simp) bH.ones (fun w' hv=>bH.upd16 hv (d6 (dP _ aR (by decide)) aM)) (by(try simp only[bM,ax]);omega) (le (le (le (le (le (le (le (le (le (le (le (le N.size r) c.size) G.size) k.size) i.size) y.size) Q.size) S.size) T.size) a3.size) a5.size) a6.size) fun bO bP cD bR aS=>Pl 1<|nl<|bn<|?_
 subst bJ bD
 have hC2:(bQ s C).2.1=(((((C.bytesC 1).need (decide (C.byteV≤(((C.bytesC 1).l.length:Nat) : Int))) 5).bytesC 1).need (((C.bytesC 1).need (decide (C.byteV≤(((C.bytesC 1).l.length:Nat) : Int))) 5).byteV==6) 9).wordsC (Int.tdiv (C.byteV-1) 2)):=by show fu C=_;(try simp only[fu,fv,ff,iy,g,E,F,o,a1,a2,bi]);all_goals rfl
 have hM2:[(bQ s C).2.2]=[(dl.mk 0 0 0 (((((C.bytesC 1).need (decide (C.byteV≤(((C.bytesC 1).l.length:Nat) : Int))) 5).bytesC 1).need (((C.bytesC 1).need (decide (C.byteV≤(((C.bytesC 1).l.length:Nat) : Int))) 5).byteV==6) 9).wordsR (Int.tdiv (C.byteV-1) 2)))]:=by show[fv C]=_;(try simp only[fu,fv,ff,iy,g,E,F,o,a1,a2,bi]);all_goals rfl
 have hS2:(bQ s C).1=s:=by(try (show s=_));(try simp only[fh,← Int.add_assoc]);all_goals rfl
 have hlt:=ju s C (by omega)
 have h9:=jJ (one:=bQ) O (by omega) (by omega) hlt
 rw[hC2,hM2,hS2] at h9
 rw[hC2] at hlt
 have aT:=ut (aI.mono (S':=(P :: (ob B++[]))) a7 (ac im aD)) aS (am il aD)
 have aW:=ut aw (ut (aI.mono (S':=(f :: (P :: (ob B++[])))) aN (ac im aD)) aT (ac im (am il aD))) (ac (nr M) (ac (ni D.size j) (am (aU d lr) aD)))
 have aY:=uz t a4
 exact gK ((n-1),(((((C.bytesC 1).need (decide (C.byteV≤(((C.bytesC 1).l.length:Nat) : Int))) 5).bytesC 1).need (((C.bytesC 1).need (decide (C.byteV≤(((C.bytesC 1).l.length:Nat) : Int))) 5).byteV==6) 9).wordsC (Int.tdiv (C.byteV-1) 2)),(L++[(dl.mk 0 0 0 (((((C.bytesC 1).need (decide (C.byteV≤(((C.bytesC 1).l.length:Nat) : Int))) 5).bytesC 1).need (((C.bytesC 1).need (decide (C.byteV≤(((C.bytesC 1).l.length:Nat) : Int))) 5).byteV==6) 9).wordsR (Int.tdiv (C.byteV-1) 2)))]),bO,bP,s) ⟨aW,(le (le (le (le (le (le (le (le (le (le (le (le r c.size) G.size) k.size) i.size) y.size) Q.size) S.size) T.size) a3.size) a5.size) a6.size) aS.size),(RC.upd aH aT (aa aP (bA (RC.nrow aH (au d aY (fun x hx=>(aa (fun e=>(RC.nrow a d (by decide)) (e▸hx)) aE)) (bH.upd16 aY (av (RC.safe a _ (by decide)) aM))) (by decide)) aE)) aW),bR,(by(try dsimp only);omega),(by(try dsimp only);intro he;omega),(by(try dsimp only);simp only[bM];omega),h9⟩ (by omega)
 refine Pl 5<|ay<|m2 (bf (false) 5 H) fun cE bS U=>aL 1<|ay<|m3 (eK bS) fun cF bT V cG=>Pl 1<|aL 3<|ay<|m2 (bf (((((C.bytesC 1).need false 5).byteV)==6)) 9 bT) fun cH bU W=>?_
 refine gM bU fun X bV bW=>?_
 refine nt<|go<|Pl 2<|bp (C.byteV-1)<|?_
 have cI:=oU (x:=(C.byteV-1)) (by omega)
 refine L0<|Oe (vI (IntKind.i64.wrap (Int.tdiv (C.byteV-1) 2))) (vI (Int.tdiv (C.byteV-1) 2)) (congrArg (Value.int .i64) (mF (by omega) (by omega)))<|ay<|qk (i4 (n:=(Int.tdiv (C.byteV-1) 2)) (by omega) bW) fun b0 b1 cJ b2 cK cL b3 a8=>Pl 1<|?_
 have b4:=u1 U (u1 V (u1 W a8 im) im) im
 have a9:=u1 i b4 im
 have b5:=nb (RC.lt Z) (le r c.size) j
 refine L0<|bY (bj a9 (Ne.symm b5) an) 3 #[vW 0,vW 0,vW 0,.slice b0 ((X.wordsR (Int.tdiv (C.byteV-1) 2)).length) b1] fun cN bX ab=>nt<|go<|Pl 1<|L0<|cm bX<|L0<|cX (m:=1) (e:=98) #[vW 0,vW 0,vW 0,.slice b0 ((X.wordsR (Int.tdiv (C.byteV-1) 2)).length) b1] fun cO cP cQ bZ ad=>?_
 have ae:=aJ ab ad
 have c0:=ma (R:=bH true) (x:=(dl.mk 0 0 0 (X.wordsR (Int.tdiv (C.byteV-1) 2)))) bZ rfl ⟨_,rfl,((au b2 ae (fun x hx=>(aa (fun e=>(aO (az a0) (le (le (le (le k.size i.size) U.size) V.size) W.size) b2) (e▸hx)) aE)) (fun _ _ h=>h))).rd,cM (x:=0) (by omega),cM (x:=0) (by omega),cM (x:=0) (by omega)⟩
 have b8:=ue t (us a9 ae) (le c.size j)
 have b9:=au d b8 (fun x hx=>(aa (fun e=>(RC.nrow a d (by decide)) (e▸hx)) aE)) (bH.upd16 b8 (av (RC.safe a _ (by decide)) aM))
 refine L0<|j7 (xs:=L) (ys:=([(dl.mk 0 0 0 (X.wordsR (Int.tdiv (C.byteV-1) 2)))])) (.agg #[vW 0,vW 0,vW 0,nS]) 4 32 b9 c0 (by simp) bH.ones (fun w' hv=>bH.upd16 hv (d6 (dP _ b9 (by decide)) aM)) (by(try simp only[bM,ax]);omega) (le (le (le (le (le (le (le (le (le (le (le N.size r) c.size) G.size) k.size) i.size) U.size) V.size) W.size) a8.size) ab.size) ad.size) fun c2 c3 cR c4 ba=>Pl 1<|nl<|bn<|?_
 subst bV
 have hC2:(bQ s C).2.1=(((((C.bytesC 1).need false 5).bytesC 1).need ((((C.bytesC 1).need false 5).byteV)==6) 9).wordsC (Int.tdiv (C.byteV-1) 2)):=by show fu C=_;(try simp only[fu,fv,ff,iy,g,E,F,o,bi]);all_goals rfl
 have hM2:[(bQ s C).2.2]=[(dl.mk 0 0 0 (((((C.bytesC 1).need false 5).bytesC 1).need ((((C.bytesC 1).need false 5).byteV)==6) 9).wordsR (Int.tdiv (C.byteV-1) 2)))]:=by show[fv C]=_;(try simp only[fu,fv,ff,iy,g,E,F,o,bi]);all_goals rfl
 have hS2:(bQ s C).1=s:=by(try (show s=_));(try simp only[fh,← Int.add_assoc]);all_goals rfl
 have hlt:=ju s C (by omega)
 have h9:=jJ (one:=bQ) O (by omega) (by omega) hlt
 rw[hC2,hM2,hS2] at h9
 rw[hC2] at hlt
 have bb:=ut (aI.mono (S':=(P :: (ob B++[]))) ae (ac im aD)) ba (am il aD)
 have bc:=ut aw (ut (aI.mono (S':=(f :: (P :: (ob B++[])))) b4 (ac im aD)) bb (ac im (am il aD))) (ac (nr M) (ac (ni D.size j) (am (aU d lr) aD)))
 have bd:=uz t a9
 exact gK ((n-1),(((((C.bytesC 1).need false 5).bytesC 1).need ((((C.bytesC 1).need false 5).byteV)==6) 9).wordsC (Int.tdiv (C.byteV-1) 2)),(L++[(dl.mk 0 0 0 (((((C.bytesC 1).need false 5).bytesC 1).need ((((C.bytesC 1).need false 5).byteV)==6) 9).wordsR (Int.tdiv (C.byteV-1) 2)))]),c2,c3,s) ⟨bc,(le (le (le (le (le (le (le (le (le (le (le r c.size) G.size) k.size) i.size) U.size) V.size) W.size) a8.size) ab.size) ad.size) ba.size),(RC.upd b3 bb (aa b5 (bA (RC.nrow b3 (au d bd (fun x hx=>(aa (fun e=>(RC.nrow a d (by decide)) (e▸hx)) aE)) (bH.upd16 bd (av (RC.safe a _ (by decide)) aM))) (by decide)) aE)) bc),c4,(by(try dsimp only);omega),(by(try dsimp only);intro he;omega),(by(try dsimp only);simp only[bM];omega),h9⟩ (by omega)
 refine xt<|tx<|tx<|bx<|tn<|sq<|aq 3<|?_
 have af:=RC.upd a c aE (aI.step (RC.u a) c)
 refine L0<|fR (p:=⟨f,3,none⟩) (v:=vI C.e) (RC.fld af)<|ah 1<|cb ((C.e==2)) (fun J=>?_) (fun J=>?_)
 have c5:=ag J
 refine aB 2<|b6<|rr (.tuple #[nS,vI 5])<|?_
 obtain⟨jd,jO⟩:=gq O g
 have hw:bB (aX bQ b.length 0 ⟨b,false,0⟩ []).1.e=5:=by unfold bB;rw[jd,if_pos J]
 refine⟨none,0,0,by rw[hw],fun h=>absurd (hw.symm.trans h) (by decide),D⟩
 have c5:=ai J
 refine bu<|sq<|Rg 7 (fun w'=>w'.cell? ⟨f,3,none⟩=some (vI C.e)) fun cS Y=>?_
 refine bv (RC.fld (RC.upd af Y aE (aI.step (RC.u af) Y))) fun q=>Rt 0 q<|Rt 1 q<|Rt 2 q<|Rt 3 q<|Rl 4 q (fun _ hs=>hs)<|Rt 5 q<|Rt 6 q<|re<|tn<|rt<|rr (.tuple #[.slice B L.length cq,vI C.e])<|?_
 obtain⟨jd,jO⟩:=gq O g
 have hw:bB (aX bQ b.length 0 ⟨b,false,0⟩ []).1.e=C.e:=by unfold bB;rw[jd,if_neg (by rw[J];decide)]
 have be:=aJ c Y
 refine⟨_,_,_,by rw[hw],fun h=>by rw[jO (hw.symm.trans h)];exact(au d be (fun x hx=>aE) (bH.upd16 be aM)),(aJ D Y)⟩
theorem yQ(hsl:aV m w (.slice A b.length cp) b)(hb:b.length≤1048576) :
    Calls Tryz.prog 179 #[vI dir,vB 21,.slice A b.length cp] w (gP (aX dr b.length 0 ⟨b,false,0⟩ []) w):=by
 have hln:(b.length:Int)≤1048576:=by omega
 refine en 108 Tryz.func179 rfl<|aq 2<|aL 2<|L0<|cY #[.slice A b.length cp,vI 0,.bool false,vI 0] fun d a3 N aN O=>ah 1<|sq<|go<|Pl 1<|dk 1<|sq<|bk<|?_
 have a4:RC w _ A cp b a3 d (ap.mk b false 0):=⟨hsl,O,N,⟨0,aN,Nat.zero_le _,rfl⟩,by omega⟩
 refine je (fun x=>[(0,vI dir),(1,vB 21),(6,nS),(7,vI 0),(8,vP d 0),(9,.slice x.2.2.2.1 x.2.2.1.length x.2.2.2.2.1),(10,vI x.2.2.2.2.2)]) (fun(x:Nat × ap × List dl × Option Addr × Nat × Int) w'=>aI [] w w'∧a3.heap.size≤w'.heap.size∧RC w m A cp b w' d x.2.1∧aZ w.heap.size 98 4 (bH true) w' (.slice x.2.2.2.1 x.2.2.1.length x.2.2.2.2.1) x.2.2.1∧(0≤x.2.2.2.2.2)∧(x.2.1.e=0→x.2.2.2.2.2≤245)∧(x.2.2.1.length+x.2.1.l.length≤b.length)∧((x.2.1.e=0∧x.2.1.l.length≤x.1∧aX dr x.1 x.2.2.2.2.2 x.2.1 x.2.2.1=aX dr b.length 0 ⟨b,false,0⟩ [])∨(x.2.1.e≠0∧(aX dr b.length 0 ⟨b,false,0⟩ []).1=x.2.1))) (fun x=>x.2.1.l.length) (b.length,(ap.mk b false 0),[],none,0,0) ⟨O,lr,a4,(aZ.nil w.heap.size _ _ (bH true) _),(by(try dsimp only);omega),(fun _=>(show(0:Int)≤245 from by decide)),(by(try dsimp only);simp),.inl ⟨rfl,Nat.le_refl _,rfl⟩⟩ ?_
 rintro⟨n,C,L,B,cq,s⟩ a5 ⟨aP,P,aQ,aR,aS,aT,aY,b0⟩
 refine gi [(0,vI dir),(1,vB 21),(6,nS),(7,vI 0),(8,vP d 0),(9,.slice B L.length cq),(10,vI s)] ?_
 have a:RC w m A cp b a5 d C:=aQ
 have hlC:=RC.clen a
 have hrC:f8 C:=RC.rng a
 have j:aZ w.heap.size 98 4 (bH true) a5 (.slice B L.length cq) L:=aR
 have bs:0≤s:=aS
 have bt:C.e=0→s≤245:=aT
 have bw:L.length+C.l.length≤b.length:=aY
 have Q:(C.e=0∧C.l.length≤n∧aX dr n s C L=aX dr b.length 0 ⟨b,false,0⟩ [])∨(C.e≠0∧(aX dr b.length 0 ⟨b,false,0⟩ []).1=C):=b0
 refine sq<|aq 1<|ay<|m1 (jT a) fun bz c=>?_
 have bC:=RC.clen a
 refine Pl 2<|cu 6 [20] 26 (((decide (0<(C.l.length:Int)))&&(C.e==0))) (fun K a6=>?_) ?_
 refine bl 20 ((decide (0<(C.l.length:Int)))) (fun r=>?_) (fun r=>?_)
 have b1:=of_decide_eq_true r
 refine Pl 3<|?_
 exact L1<|fR (p:=⟨d,3,none⟩) (v:=vI C.e) (RC.fld (RC.upd a c aE (aI.step (RC.u a) c)))<|Pl 2<|ce a6 (C.e==0) (by rw[r];rfl)
 have b1:=of_decide_eq_false r
 exact Pl 6<|ce a6 false (by rw[r];rfl)
 refine nt<|?_
 have F:=aJ aP c
 refine cb (((decide (0<(C.l.length:Int)))&&(C.e==0))) (fun g=>?_) (fun g=>?_)
 have S:=(b7 g).1
 have T:=(b7 g).2
 have bD:=of_decide_eq_true S
 have bE:=ag T
 refine bu<|bk<|aq 1<|aK #[vW 0,vW 0,vW 0,nS] fun U bF k a7 V=>aG a7 #[vW 0,vW 0,vW 0,nS] fun bG b2 G=>nt<|sq<|aq 6<|nl<|tn<|c0<|aq 1<|?_
 have a8:=ud V G k
 have H:=aJ c a8
 refine ay<|m5 (Ch (RC.upd a H aE (aI.step (RC.u a) H))) fun bI b3 b4 b5 b8 t=>?_
 obtain⟨bJ,bK⟩:=b3
 obtain⟨bL,bN⟩:=b4
 obtain⟨bP,bQ⟩:=b5
 have y:=nb (RC.lt a4) (le P c.size) k
 refine aG (bj t (Ne.symm y) b2) #[vW ((aW C).file),vW ((aW C).record),vW ((aW C).count),nS] fun bR b9 I=>dk 2<|c1<|sq<|Rg 9 (fun w'=>w'.cell? ⟨U,2,none⟩=some (vW ((aW C).count))) fun bS z=>?_
 have a9:=ub z b9
 refine bv (ae a9 rfl) fun o=>Rt 0 o<|Rt 1 o<|Rl 2 o (fun _ hs=>hs)<|Rr 3 o (vI ((aW C).count)) (fun _ _=>bO (vI (IntKind.i64.wrap ((aW C).count))) (by kernel_rfl) (congrArg (Value.int .i64) (i64_in (by omega))))<|Rr 4 o (vI (2*((aW C).count))) (fun _ _=>bO (vI (IntKind.i64.wrap (2*((aW C).count)))) (by kernel_rfl) (congrArg (Value.int .i64) (IntWalk.i64_in _ (by omega))))<|Rt 5 o<|?_
 have ab:=aJ I z
 have W:=us t ab
 have ad:=ud F (ue a8 W k) N
 have J:=RC.upd b8 ab (aa y aE) ad
 refine R0 6 rfl<|Oc<|m1 (jT J) fun bT f=>?_
 have bU:=RC.clen J
 have af:=ub f a9
 refine bv (ae af rfl) fun ba=>Rt 7 ba<|?_
 refine R0 8 rfl<|Oc<|m2 (bf ((decide ((2*((aW C).count))≤(((dR C).l.length:Nat) : Int)))) 5 (RC.upd J f aE (aI.step (RC.u J) f))) fun bV bb q=>?_
 refine gM bb fun x93 bc bd=>?_
 have X:=bj q (Ne.symm y) af
 refine bv (ae X rfl) fun bW=>re<|tn<|go<|Pl 2<|aC X 2<|bp ((aW C).count)<|ay<|qk (i4 (n:=(aW C).count) (by omega) bd) fun aj ak bX al bZ c2 an D=>Pl 1<|?_
 refine L0<|bY (bj D (Ne.symm y) X) 3 #[vW ((aW C).file),vW ((aW C).record),vW ((aW C).count),.slice aj ((x93.wordsR ((aW C).count)).length) ak] fun c3 be Y=>nt<|go<|Pl 1<|L0<|cm be<|L0<|cX (m:=1) (e:=98) #[vW ((aW C).file),vW ((aW C).record),vW ((aW C).count),.slice aj ((x93.wordsR ((aW C).count)).length) ak] fun c4 c5 c6 bg Z=>?_
 have a0:=aJ Y Z
 have bh:=ma (R:=bH true) (x:=(dl.mk ((aW C).file) ((aW C).record) ((aW C).count) (x93.wordsR ((aW C).count)))) bg rfl ⟨_,rfl,((au al a0 (fun x hx=>(aa (fun e=>(aO (az a7) (le (le (le (le (le G.size t.size) I.size) z.size) f.size) q.size) al) (e▸hx)) aE)) (fun _ _ h=>h))).rd,cM (x:=(aW C).file) (by omega),cM (x:=(aW C).record) (by omega),cM (x:=(aW C).count) (by omega)⟩
 have ao:=uz f (ui q (us D a0))
 have ar:=ue H (ut W ao (ac im (ac im aD))) (le c.size k)
 have aw:=au j ar (fun x hx=>(aa (fun e=>(RC.nrow a j (by decide)) (e▸hx)) aE)) (bH.upd16 ar (av (RC.safe a _ (by decide)) aM))
 refine L0<|j7 (xs:=L) (ys:=([(dl.mk ((aW C).file) ((aW C).record) ((aW C).count) (x93.wordsR ((aW C).count)))])) (.agg #[vW 0,vW 0,vW 0,nS]) 4 32 aw bh (by simp) bH.ones (fun w' hv=>bH.upd16 hv (d6 (dP _ aw (by decide)) aM)) (by(try simp only[bM,ax]);omega) (le (le (le (le (le (le (le (le (le (le (le (le O.size P) c.size) V.size) G.size) t.size) I.size) z.size) f.size) q.size) D.size) Y.size) Z.size) fun bm bo c7 bq a1=>Pl 1<|nl<|bn<|?_
 subst bc
 have hC2:(dr s C).2.1=(((dR C).need (decide ((2*((aW C).count))≤(((dR C).l.length:Nat) : Int))) 5).wordsC ((aW C).count)):=by show jX C=_;(try simp only[jX,kg,oD,g,S,T,bi]);all_goals rfl
 have hM2:[(dr s C).2.2]=[(dl.mk ((aW C).file) ((aW C).record) ((aW C).count) (((dR C).need (decide ((2*((aW C).count))≤(((dR C).l.length:Nat) : Int))) 5).wordsR ((aW C).count)))]:=by show[kg C]=_;(try simp only[jX,kg,oD,g,S,T,bi]);all_goals rfl
 have hS2:(dr s C).1=s:=by(try (show s=_));(try simp only[fh,← Int.add_assoc]);all_goals rfl
 have hlt:=mr s C (by omega)
 have h9:=jJ (one:=dr) Q (by omega) (by omega) hlt
 rw[hC2,hM2,hS2] at h9
 rw[hC2] at hlt
 have aA:=ut ad (ut (aI.mono (S':=(d :: (U :: (ob B++[])))) ao (ac im (ac im aD))) a1 (am il aD)) (ac (nr N) (ac (ni F.size k) (am (aU j lr) aD)))
 have aF:=ue H (u1 W (uz f (u1 q D im)) im) (le c.size k)
 exact gK ((n-1),(((dR C).need (decide ((2*((aW C).count))≤(((dR C).l.length:Nat) : Int))) 5).wordsC ((aW C).count)),(L++[(dl.mk ((aW C).file) ((aW C).record) ((aW C).count) (((dR C).need (decide ((2*((aW C).count))≤(((dR C).l.length:Nat) : Int))) 5).wordsR ((aW C).count)))]),bm,bo,s) ⟨aA,(le (le (le (le (le (le (le (le (le (le (le (le P c.size) V.size) G.size) t.size) I.size) z.size) f.size) q.size) D.size) Y.size) Z.size) a1.size),(RC.upd an (ut (aI.mono (S':=(U :: (ob B++[]))) a0 (ac im aD)) a1 (am il aD)) (aa y (bA (RC.nrow an (au j aF (fun x hx=>(aa (fun e=>(RC.nrow a j (by decide)) (e▸hx)) aE)) (bH.upd16 aF (av (RC.safe a _ (by decide)) aM))) (by decide)) aE)) aA),bq,(by(try dsimp only);omega),(by(try dsimp only);intro he;omega),(by(try dsimp only);simp only[bM];omega),h9⟩ (by omega)
 refine xt<|tx<|tx<|bx<|tn<|sq<|aq 3<|?_
 have a2:=RC.upd a c aE (aI.step (RC.u a) c)
 refine L0<|fR (p:=⟨d,3,none⟩) (v:=vI C.e) (RC.fld a2)<|ah 1<|cb ((C.e==2)) (fun E=>?_) (fun E=>?_)
 have br:=ag E
 refine aB 2<|b6<|rr (.tuple #[nS,vI 5])<|?_
 obtain⟨jd,jO⟩:=gq Q g
 have hw:bB (aX dr b.length 0 ⟨b,false,0⟩ []).1.e=5:=by unfold bB;rw[jd,if_pos E]
 refine⟨none,0,0,by rw[hw],fun h=>absurd (hw.symm.trans h) (by decide),F⟩
 have br:=ai E
 refine bu<|sq<|Rg 7 (fun w'=>w'.cell? ⟨d,3,none⟩=some (vI C.e)) fun c8 M=>?_
 refine bv (RC.fld (RC.upd a2 M aE (aI.step (RC.u a2) M))) fun i=>Rt 0 i<|Rt 1 i<|Rt 2 i<|Rt 3 i<|Rl 4 i (fun _ hs=>hs)<|Rt 5 i<|Rt 6 i<|re<|tn<|rt<|rr (.tuple #[.slice B L.length cq,vI C.e])<|?_
 obtain⟨jd,jO⟩:=gq Q g
 have hw:bB (aX dr b.length 0 ⟨b,false,0⟩ []).1.e=C.e:=by unfold bB;rw[jd,if_neg (by rw[E];decide)]
 have aH:=aJ c M
 refine⟨_,_,_,by rw[hw],fun h=>by rw[jO (hw.symm.trans h)];exact(au j aH (fun x hx=>aE) (bH.upd16 aH aM)),(aJ F M)⟩
theorem ph(h:aV m w v b)(hb:b.length≤1048576) :
    Calls Tryz.prog 179 #[.int .i64 0,.int .u8 20,v] w (gP (aX dj b.length 0 ⟨b,false,0⟩ []) w):=by
  obtain⟨A,cp,rfl,_,_⟩:=h.shape
  exact yw h hb
theorem oW(h:aV m w v b)(hb:b.length≤1048576) :
    Calls Tryz.prog 179 #[.int .i64 1,.int .u8 20,v] w (gP (aX bQ b.length 0 ⟨b,false,0⟩ []) w):=by
  obtain⟨A,cp,rfl,_,_⟩:=h.shape
  exact zf h hb
theorem p5(h:aV m w v b)(hb:b.length≤1048576) :
    Calls Tryz.prog 179 #[.int .i64 dir,.int .u8 21,v] w (gP (aX dr b.length 0 ⟨b,false,0⟩ []) w):=by
  obtain⟨A,cp,rfl,_,_⟩:=h.shape
  exact yQ h hb
open Go.RowKit
theorem iu(h:bB x=0) : x=0:=by
  unfold bB at h
  split at h
  · cases h
  · exact h
theorem lg(h:¬ bB x=0) : (x != 0)=true:=by
  rw[bne_iff_ne]
  rintro rfl
  exact h rfl
theorem jg:((0:Int)!=0)=false:=rfl
theorem yf(hsl:aV m w (.slice A b.length cp) b)(hb:b.length≤1048576) :
    Calls Tryz.prog 112 #[vI 0,vB 20,.slice A b.length cp] w (cN (.slice A b.length cp) b (di dj iS 20 b) w):=by
 have hln:(b.length:Int)≤1048576:=by omega
 have hcp:b.length≤cp:=by obtain⟨_,_,hv,h1,_⟩:=aT.shape hsl;injection hv with _ _ h3;omega
 have hrb:=aV.range hsl
 refine en 101 Tryz.func112 rfl<|sg<|aK mZ fun ab ac i g j=>ah 1<|sq<|aB 6<|c0<|bu<|sq<|aB 6<|c0<|bu<|sq<|aB 3<|cb (((b.length:Int)==0)) (fun a=>?_) (fun a=>?_)
 have L:=ag a
 refine aq 1<|aG g mZ fun ad M N=>ah 1<|b6<|ck M (vI 2)<|?_
 exact cI (y:=(aS.zero,2)) (by unfold di ei dc iS;(try simp only[a,bi,jg,reduceIte])<;>rfl) (bE (ud j N i))
 have L:=ai a
 refine bu<|aq 1<|?_
 have t:=aV.old hsl j
 refine fo (aV.at_ t 0 (by omega)) fun O Q R S ae=>L0<|lc b.length 0 R (by omega)<|L0<|fR (p:=⟨O,Q+0,none⟩) (v:=vB (b.getD 0 0)) S<|bp (b.getD 0 0)<|Pl 1<|aL 3<|cu 3 [36] 39 (((decide (9≤(b.getD 0 0)))&&(decide ((b.getD 0 0)≤251)))) (fun K D=>?_) ?_
 refine bl 36 ((decide (9≤(b.getD 0 0)))) (fun l=>?_) (fun l=>?_)
 have T:=of_decide_eq_true l
 exact Pl 3<|ce D (decide ((b.getD 0 0)≤251)) (by rw[l];rfl)
 have T:=of_decide_eq_false l
 exact Pl 3<|ce D false (by rw[l];rfl)
 refine ah 1<|sq<|aB 6<|c1<|go<|Pl 3<|cu 3 [48] 51 (((decide (7≤(b.getD 0 0)))&&(decide ((b.getD 0 0)≤245)))) (fun K E=>?_) ?_
 refine bl 48 ((decide (7≤(b.getD 0 0)))) (fun o=>?_) (fun o=>?_)
 have U:=of_decide_eq_true o
 exact Pl 3<|ce E (decide ((b.getD 0 0)≤245)) (by rw[o];rfl)
 have U:=of_decide_eq_false o
 exact Pl 3<|ce E false (by rw[o];rfl)
 refine Pl 1<|cu 4 [52] 56 ((((decide (7≤(b.getD 0 0)))&&(decide ((b.getD 0 0)≤245)))&&(((b.getD 0 0)%7)==0))) (fun K F=>?_) ?_
 refine bl 52 (((decide (7≤(b.getD 0 0)))&&(decide ((b.getD 0 0)≤245)))) (fun q=>?_) (fun q=>?_)
 have V:=(b7 q).1
 have W:=(b7 q).2
 have af:=of_decide_eq_true V
 have aj:=of_decide_eq_true W
 exact Pl 1<|L1<|Oe (vI (Int.tmod (b.getD 0 0) 7)) (vI ((b.getD 0 0)%7)) (congrArg (Value.int .i64) (Int.tmod_eq_emod_of_nonneg (by omega)))<|Pl 2<|ce F (((b.getD 0 0)%7)==0) (by rw[q];rfl)
 exact Pl 4<|ce F false (by rw[q];rfl)
 refine ah 1<|sq<|aB 6<|c0<|bu<|sq<|sq<|go<|ah 2<|cb ((!(((decide (7≤(b.getD 0 0)))&&(decide ((b.getD 0 0)≤245)))&&(((b.getD 0 0)%7)==0)))) (fun d=>?_) (fun d=>?_)
 have f:(((decide (7≤(b.getD 0 0)))&&(decide ((b.getD 0 0)≤245)))&&(((b.getD 0 0)%7)==0))=false:=by simpa only[Bool.not_eq_true',Bool.not_eq_false'] using d
 refine aq 1<|aG g mZ fun ak X Y=>ah 1<|b6<|ck X (vI 5)<|?_
 exact cI (y:=(aS.zero,5)) (by unfold di ei dc iS;(try simp only[a,d,f,bi,jg,reduceIte])<;>rfl) (bE (ud j Y i))
 have f:(((decide (7≤(b.getD 0 0)))&&(decide ((b.getD 0 0)≤245)))&&(((b.getD 0 0)%7)==0))=true:=by simpa only[Bool.not_eq_true',Bool.not_eq_false'] using d
 have k:=(b7 f).1
 have r:=(b7 f).2
 have q32naa:=(b7 k).1
 have q32nab:=(b7 k).2
 have q32naap:=of_decide_eq_true q32naa
 have q32nabp:=of_decide_eq_true q32nab
 have q32nbp:=ag r
 refine bu<|sq<|aq 3<|bp ((b.getD 0 0)+1)<|ah 1<|cb ((decide ((b.length:Int)<((b.getD 0 0)+1)))) (fun h=>?_) (fun h=>?_)
 have Z:=of_decide_eq_true h
 refine aq 1<|aG g mZ fun al a0 a1=>ah 1<|b6<|ck a0 (vI 2)<|?_
 exact cI (y:=(aS.zero,2)) (by unfold di ei dc iS;(try simp only[a,d,f,k,q32naa,q32nab,r,h,bi,jg,reduceIte])<;>rfl) (bE (ud j a1 i))
 have Z:=of_decide_eq_false h
 refine bu<|aq 4<|bp ((b.getD 0 0)+1)<|ny (gl (P:=Tryz.prog) 27 5 1 Tryz.underlying27 rfl rfl A b.length cp (lo:=1) (up:=((b.getD 0 0)+1)) 1 ((((b.getD 0 0)+1)).toNat) (by omega) (by omega) (by omega) (by omega) (by omega)) fun u hrun43 G=>L0<|gr (.slice u (((((b.getD 0 0)+1)).toNat)-1) (cp-1)) (eW (kl:=.i64) (kh:=.i64) (lo:=1) (hi:=((b.getD 0 0)+1)) (A:=A) (n:=b.length) (c:=cp) rfl Tryz.underlying27 (by kernel_rfl) (by kernel_rfl) (by kernel_rfl) (hrun43 _ _ _))<|?_
 by_cases hE:bB (aX dj (((b.take ((((b.getD 0 0)+1)).toNat)).drop 1)).length 0 ⟨((b.take ((((b.getD 0 0)+1)).toNat)).drop 1),false,0⟩ []).1.e=0
 refine ay (args:=#[vI 0,vB 20,.slice u (((((b.getD 0 0)+1)).toNat)-1) (cp-1)])<|e2 (nz (ph (G _ _ _ _ _ t) (by rw[List.length_drop,List.length_take];omega)) hE) fun am an z B=>?_
 obtain⟨a2,a3,rfl,ao,ap⟩:=aT.shape z.rd
 refine ah 5<|sq<|aB 2<|c0<|bu<|sq<|sq<|go<|Pl 3<|bp ((b.getD 0 0)+1)<|ah 1<|?_
 have H:=aJ j B
 refine cb ((decide (((b.getD 0 0)+1)<(b.length:Int)))) (fun s=>?_) (fun s=>?_)
 have a4:=of_decide_eq_true s
 refine aq 1<|?_
 refine aG (ub B g) mZ fun ar a5 a6=>ah 1<|b6<|ck a5 (vI 3)<|?_
 have hE0:(aX dj (((b.take ((((b.getD 0 0)+1)).toNat)).drop 1)).length 0 ⟨((b.take ((((b.getD 0 0)+1)).toNat)).drop 1),false,0⟩ []).1.e=0:=iu hE
 exact cI (y:=(aS.zero,3)) (by unfold di ei dc iS;(try simp only[a,d,f,k,q32naa,q32nab,r,h,s,bi,hE0,jg,reduceIte])<;>rfl) (bE (ud H a6 i))
 have a4:=of_decide_eq_false s
 refine bu<|aq 3<|?_
 have I:=ub B g
 refine aG I (mG 20 0 0 0 0 0 0 0 0 0 0 0 nS nS nS (.slice a2 ((aX dj (((b.take ((((b.getD 0 0)+1)).toNat)).drop 1)).length 0 ⟨((b.take ((((b.getD 0 0)+1)).toNat)).drop 1),false,0⟩ []).2.length) a3) 0 0 0 0 0 nS) fun aw a7 C=>ah 1<|rt<|ck a7 (vI 0)<|?_
 have hE0:(aX dj (((b.take ((((b.getD 0 0)+1)).toNat)).drop 1)).length 0 ⟨((b.take ((((b.getD 0 0)+1)).toNat)).drop 1),false,0⟩ []).1.e=0:=iu hE
 exact cI (y:=((aS.mk 20 0 0 0 0 0 0 0 0 0 0 0 [] [] [] (aX dj (((b.take ((((b.getD 0 0)+1)).toNat)).drop 1)).length 0 ⟨((b.take ((((b.getD 0 0)+1)).toNat)).drop 1),false,0⟩ []).2 0 0 0 0 0 []),0)) (by unfold di ei dc iS;(try simp only[a,d,f,k,q32naa,q32nab,r,h,s,bi,hE0,jg,reduceIte])<;>rfl) ⟨_,rfl,⟨_,_,_,_,_,rfl,aT.nil ..,aT.nil ..,(fun _ _ _=>aT.nil ..),((au z C (fun x hx=>(aa (fun e=>(aO (az g) lr z) (e▸hx)) aE)) (bH.upd16 C (av (b9 I (by decide)) aM)))).rd,aT.nil ..,(cP (by omega))⟩,(ud H C i)⟩
 refine ay (args:=#[vI 0,vB 20,.slice u (((((b.getD 0 0)+1)).toNat)-1) (cp-1)])<|(lB (ph (G _ _ _ _ _ t) (by rw[List.length_drop,List.length_take];omega))).mono ?_
 rintro _ ax ⟨aA,aC,aD,rfl,J⟩
 refine⟨_,rfl,?_⟩
 have hE1:(bB (aX dj (((b.take ((((b.getD 0 0)+1)).toNat)).drop 1)).length 0 ⟨((b.take ((((b.getD 0 0)+1)).toNat)).drop 1),false,0⟩ []).1.e != 0)=true:=by simpa using hE
 refine ah 5<|sq<|aB 2<|ct hE1<|aq 2<|?_
 refine aG (ub J g) mZ fun aF a8 a9=>ah 1<|b6<|ck a8 (vI (bB (aX dj (((b.take ((((b.getD 0 0)+1)).toNat)).drop 1)).length 0 ⟨((b.take ((((b.getD 0 0)+1)).toNat)).drop 1),false,0⟩ []).1.e))<|?_
 have hE3:((aX dj (((b.take ((((b.getD 0 0)+1)).toNat)).drop 1)).length 0 ⟨((b.take ((((b.getD 0 0)+1)).toNat)).drop 1),false,0⟩ []).1.e != 0)=true:=lg hE
 exact cI (y:=(aS.zero,bB (aX dj (((b.take ((((b.getD 0 0)+1)).toNat)).drop 1)).length 0 ⟨((b.take ((((b.getD 0 0)+1)).toNat)).drop 1),false,0⟩ []).1.e)) (by unfold di ei dc iS;(try simp only[a,d,f,k,q32naa,q32nab,r,h,hE1,bi,hE3,jg,reduceIte])<;>rfl) (bE (ud j (uz J a9) i))
theorem yX(hsl:aV m w (.slice A b.length cp) b)(hb:b.length≤1048576) :
    Calls Tryz.prog 112 #[vI 1,vB 20,.slice A b.length cp] w (cN (.slice A b.length cp) b (di bQ iF 20 b) w):=by
 have hln:(b.length:Int)≤1048576:=by omega
 have hcp:b.length≤cp:=by obtain⟨_,_,hv,h1,_⟩:=aT.shape hsl;injection hv with _ _ h3;omega
 have hrb:=aV.range hsl
 refine en 101 Tryz.func112 rfl<|sg<|aK mZ fun a6 a7 i g j=>ah 1<|sq<|aB 6<|c0<|bu<|sq<|aB 6<|c0<|bu<|sq<|aB 3<|cb (((b.length:Int)==0)) (fun a=>?_) (fun a=>?_)
 have I:=ag a
 refine aq 1<|aG g mZ fun a8 J L=>ah 1<|b6<|ck J (vI 2)<|?_
 exact cI (y:=(aS.zero,2)) (by unfold di ei dc iF;(try simp only[a,bi,jg,reduceIte])<;>rfl) (bE (ud j L i))
 have I:=ai a
 refine bu<|aq 1<|?_
 have s:=aV.old hsl j
 refine fo (aV.at_ s 0 (by omega)) fun M N O Q a9=>L0<|lc b.length 0 O (by omega)<|L0<|fR (p:=⟨M,N+0,none⟩) (v:=vB (b.getD 0 0)) Q<|bp (b.getD 0 0)<|Pl 1<|aL 3<|cu 3 [36] 39 (((decide (9≤(b.getD 0 0)))&&(decide ((b.getD 0 0)≤251)))) (fun K C=>?_) ?_
 refine bl 36 ((decide (9≤(b.getD 0 0)))) (fun k=>?_) (fun k=>?_)
 have R:=of_decide_eq_true k
 exact Pl 3<|ce C (decide ((b.getD 0 0)≤251)) (by rw[k];rfl)
 have R:=of_decide_eq_false k
 exact Pl 3<|ce C false (by rw[k];rfl)
 refine ah 1<|sq<|aB 6<|c0<|bu<|sq<|sq<|go<|ah 6<|c1<|go<|Pl 3<|cu 3 [65] 68 (((decide (4≤(b.getD 0 0)))&&(decide ((b.getD 0 0)≤245)))) (fun K D=>?_) ?_
 refine bl 65 ((decide (4≤(b.getD 0 0)))) (fun l=>?_) (fun l=>?_)
 have S:=of_decide_eq_true l
 exact Pl 3<|ce D (decide ((b.getD 0 0)≤245)) (by rw[l];rfl)
 have S:=of_decide_eq_false l
 exact Pl 3<|ce D false (by rw[l];rfl)
 refine ah 1<|sq<|aB 2<|cb ((!((decide (4≤(b.getD 0 0)))&&(decide ((b.getD 0 0)≤245))))) (fun d=>?_) (fun d=>?_)
 have f:((decide (4≤(b.getD 0 0)))&&(decide ((b.getD 0 0)≤245)))=false:=by simpa only[Bool.not_eq_true',Bool.not_eq_false'] using d
 refine aq 1<|aG g mZ fun ab T U=>ah 1<|b6<|ck T (vI 5)<|?_
 exact cI (y:=(aS.zero,5)) (by unfold di ei dc iF;(try simp only[a,d,f,bi,jg,reduceIte])<;>rfl) (bE (ud j U i))
 have f:((decide (4≤(b.getD 0 0)))&&(decide ((b.getD 0 0)≤245)))=true:=by simpa only[Bool.not_eq_true',Bool.not_eq_false'] using d
 have o:=(b7 f).1
 have q:=(b7 f).2
 have q30nap:=of_decide_eq_true o
 have q30nbp:=of_decide_eq_true q
 refine bu<|sq<|aq 3<|bp ((b.getD 0 0)+1)<|ah 1<|cb ((decide ((b.length:Int)<((b.getD 0 0)+1)))) (fun h=>?_) (fun h=>?_)
 have V:=of_decide_eq_true h
 refine aq 1<|aG g mZ fun ac W X=>ah 1<|b6<|ck W (vI 2)<|?_
 exact cI (y:=(aS.zero,2)) (by unfold di ei dc iF;(try simp only[a,d,f,o,q,h,bi,jg,reduceIte])<;>rfl) (bE (ud j X i))
 have V:=of_decide_eq_false h
 refine bu<|aq 4<|bp ((b.getD 0 0)+1)<|ny (gl (P:=Tryz.prog) 27 5 1 Tryz.underlying27 rfl rfl A b.length cp (lo:=1) (up:=((b.getD 0 0)+1)) 1 ((((b.getD 0 0)+1)).toNat) (by omega) (by omega) (by omega) (by omega) (by omega)) fun t hrun41 E=>L0<|gr (.slice t (((((b.getD 0 0)+1)).toNat)-1) (cp-1)) (eW (kl:=.i64) (kh:=.i64) (lo:=1) (hi:=((b.getD 0 0)+1)) (A:=A) (n:=b.length) (c:=cp) rfl Tryz.underlying27 (by kernel_rfl) (by kernel_rfl) (by kernel_rfl) (hrun41 _ _ _))<|?_
 by_cases hE:bB (aX bQ (((b.take ((((b.getD 0 0)+1)).toNat)).drop 1)).length 0 ⟨((b.take ((((b.getD 0 0)+1)).toNat)).drop 1),false,0⟩ []).1.e=0
 refine ay (args:=#[vI 1,vB 20,.slice t (((((b.getD 0 0)+1)).toNat)-1) (cp-1)])<|e2 (nz (oW (E _ _ _ _ _ s) (by rw[List.length_drop,List.length_take];omega)) hE) fun ad ae u z=>?_
 obtain⟨Y,Z,rfl,af,aj⟩:=aT.shape u.rd
 refine ah 5<|sq<|aB 2<|c0<|bu<|sq<|sq<|go<|Pl 3<|bp ((b.getD 0 0)+1)<|ah 1<|?_
 have F:=aJ j z
 refine cb ((decide (((b.getD 0 0)+1)<(b.length:Int)))) (fun r=>?_) (fun r=>?_)
 have a0:=of_decide_eq_true r
 refine aq 1<|?_
 refine aG (ub z g) mZ fun ak a1 a2=>ah 1<|b6<|ck a1 (vI 3)<|?_
 have hE0:(aX bQ (((b.take ((((b.getD 0 0)+1)).toNat)).drop 1)).length 0 ⟨((b.take ((((b.getD 0 0)+1)).toNat)).drop 1),false,0⟩ []).1.e=0:=iu hE
 exact cI (y:=(aS.zero,3)) (by unfold di ei dc iF;(try simp only[a,d,f,o,q,h,r,bi,hE0,jg,reduceIte])<;>rfl) (bE (ud F a2 i))
 have a0:=of_decide_eq_false r
 refine bu<|aq 3<|?_
 have G:=ub z g
 refine aG G (mG 20 0 0 0 0 0 0 0 0 0 0 0 nS nS nS (.slice Y ((aX bQ (((b.take ((((b.getD 0 0)+1)).toNat)).drop 1)).length 0 ⟨((b.take ((((b.getD 0 0)+1)).toNat)).drop 1),false,0⟩ []).2.length) Z) 0 0 0 0 0 nS) fun al a3 B=>ah 1<|rt<|ck a3 (vI 0)<|?_
 have hE0:(aX bQ (((b.take ((((b.getD 0 0)+1)).toNat)).drop 1)).length 0 ⟨((b.take ((((b.getD 0 0)+1)).toNat)).drop 1),false,0⟩ []).1.e=0:=iu hE
 exact cI (y:=((aS.mk 20 0 0 0 0 0 0 0 0 0 0 0 [] [] [] (aX bQ (((b.take ((((b.getD 0 0)+1)).toNat)).drop 1)).length 0 ⟨((b.take ((((b.getD 0 0)+1)).toNat)).drop 1),false,0⟩ []).2 0 0 0 0 0 []),0)) (by unfold di ei dc iF;(try simp only[a,d,f,o,q,h,r,bi,hE0,jg,reduceIte])<;>rfl) ⟨_,rfl,⟨_,_,_,_,_,rfl,aT.nil ..,aT.nil ..,(fun _ _ _=>aT.nil ..),((au u B (fun x hx=>(aa (fun e=>(aO (az g) lr u) (e▸hx)) aE)) (bH.upd16 B (av (b9 G (by decide)) aM)))).rd,aT.nil ..,(cP (by omega))⟩,(ud F B i)⟩
 refine ay (args:=#[vI 1,vB 20,.slice t (((((b.getD 0 0)+1)).toNat)-1) (cp-1)])<|(lB (oW (E _ _ _ _ _ s) (by rw[List.length_drop,List.length_take];omega))).mono ?_
 rintro _ am ⟨an,ao,ap,rfl,H⟩
 refine⟨_,rfl,?_⟩
 have hE1:(bB (aX bQ (((b.take ((((b.getD 0 0)+1)).toNat)).drop 1)).length 0 ⟨((b.take ((((b.getD 0 0)+1)).toNat)).drop 1),false,0⟩ []).1.e != 0)=true:=by simpa using hE
 refine ah 5<|sq<|aB 2<|ct hE1<|aq 2<|?_
 refine aG (ub H g) mZ fun ar a4 a5=>ah 1<|b6<|ck a4 (vI (bB (aX bQ (((b.take ((((b.getD 0 0)+1)).toNat)).drop 1)).length 0 ⟨((b.take ((((b.getD 0 0)+1)).toNat)).drop 1),false,0⟩ []).1.e))<|?_
 have hE3:((aX bQ (((b.take ((((b.getD 0 0)+1)).toNat)).drop 1)).length 0 ⟨((b.take ((((b.getD 0 0)+1)).toNat)).drop 1),false,0⟩ []).1.e != 0)=true:=lg hE
 exact cI (y:=(aS.zero,bB (aX bQ (((b.take ((((b.getD 0 0)+1)).toNat)).drop 1)).length 0 ⟨((b.take ((((b.getD 0 0)+1)).toNat)).drop 1),false,0⟩ []).1.e)) (by unfold di ei dc iF;(try simp only[a,d,f,o,q,h,hE1,bi,hE3,jg,reduceIte])<;>rfl) (bE (ud j (uz H a5) i))
theorem zW(hd:dir=0∨dir=1)(hsl:aV m w (.slice A b.length cp) b)(hb:b.length≤1048576) :
    Calls Tryz.prog 112 #[vI dir,vB 21,.slice A b.length cp] w (cN (.slice A b.length cp) b (di dr jj 21 b) w):=by
 have hln:(b.length:Int)≤1048576:=by omega
 have hcp:b.length≤cp:=by obtain⟨_,_,hv,h1,_⟩:=aT.shape hsl;injection hv with _ _ h3;omega
 have hrb:=aV.range hsl
 have g:((dir != 0)&&(dir != 1))=false:=by rcases hd with rfl | rfl<;>rfl
 refine en 101 Tryz.func112 rfl<|sg<|aK mZ fun a7 a8 j h k=>ah 1<|sq<|aq 3<|cu 3 [14] 17 (((dir != 0)&&(dir != 1))) (fun K D=>?_) ?_
 refine bl 14 ((dir != 0)) (fun l=>?_) (fun l=>?_)
 have J:=aA l
 exact Pl 3<|ce D (dir != 1) (by rw[l];rfl)
 have J:=aF l
 exact Pl 3<|ce D false (by rw[l];rfl)
 refine nt<|cf g<|bu<|sq<|aB 6<|c0<|bu<|sq<|aB 3<|cb (((b.length:Int)==0)) (fun a=>?_) (fun a=>?_)
 have L:=ag a
 refine aq 1<|aG h mZ fun a9 M N=>ah 1<|b6<|ck M (vI 2)<|?_
 exact cI (y:=(aS.zero,2)) (by unfold di ei dc jj;(try simp only[g,a,bi,jg,reduceIte])<;>rfl) (bE (ud k N j))
 have L:=ai a
 refine bu<|aq 1<|?_
 have t:=aV.old hsl k
 refine fo (aV.at_ t 0 (by omega)) fun O Q R S ab=>L0<|lc b.length 0 R (by omega)<|L0<|fR (p:=⟨O,Q+0,none⟩) (v:=vB (b.getD 0 0)) S<|bp (b.getD 0 0)<|Pl 1<|aL 3<|cu 3 [36] 39 (((decide (9≤(b.getD 0 0)))&&(decide ((b.getD 0 0)≤251)))) (fun K E=>?_) ?_
 refine bl 36 ((decide (9≤(b.getD 0 0)))) (fun o=>?_) (fun o=>?_)
 have T:=of_decide_eq_true o
 exact Pl 3<|ce E (decide ((b.getD 0 0)≤251)) (by rw[o];rfl)
 have T:=of_decide_eq_false o
 exact Pl 3<|ce E false (by rw[o];rfl)
 refine ah 1<|sq<|aB 6<|c0<|bu<|sq<|sq<|go<|ah 6<|c0<|bu<|sq<|aB 2<|cb ((!((decide (9≤(b.getD 0 0)))&&(decide ((b.getD 0 0)≤251))))) (fun d=>?_) (fun d=>?_)
 have f:((decide (9≤(b.getD 0 0)))&&(decide ((b.getD 0 0)≤251)))=false:=by simpa only[Bool.not_eq_true',Bool.not_eq_false'] using d
 refine aq 1<|aG h mZ fun ac U V=>ah 1<|b6<|ck U (vI 5)<|?_
 exact cI (y:=(aS.zero,5)) (by unfold di ei dc jj;(try simp only[g,a,d,f,bi,jg,reduceIte])<;>rfl) (bE (ud k V j))
 have f:((decide (9≤(b.getD 0 0)))&&(decide ((b.getD 0 0)≤251)))=true:=by simpa only[Bool.not_eq_true',Bool.not_eq_false'] using d
 have q:=(b7 f).1
 have r:=(b7 f).2
 have q30nap:=of_decide_eq_true q
 have q30nbp:=of_decide_eq_true r
 refine bu<|sq<|aq 3<|bp ((b.getD 0 0)+1)<|ah 1<|cb ((decide ((b.length:Int)<((b.getD 0 0)+1)))) (fun i=>?_) (fun i=>?_)
 have W:=of_decide_eq_true i
 refine aq 1<|aG h mZ fun ad X Y=>ah 1<|b6<|ck X (vI 2)<|?_
 exact cI (y:=(aS.zero,2)) (by unfold di ei dc jj;(try simp only[g,a,d,f,q,r,i,bi,jg,reduceIte])<;>rfl) (bE (ud k Y j))
 have W:=of_decide_eq_false i
 refine bu<|aq 4<|bp ((b.getD 0 0)+1)<|ny (gl (P:=Tryz.prog) 27 5 1 Tryz.underlying27 rfl rfl A b.length cp (lo:=1) (up:=((b.getD 0 0)+1)) 1 ((((b.getD 0 0)+1)).toNat) (by omega) (by omega) (by omega) (by omega) (by omega)) fun u hrun41 F=>L0<|gr (.slice u (((((b.getD 0 0)+1)).toNat)-1) (cp-1)) (eW (kl:=.i64) (kh:=.i64) (lo:=1) (hi:=((b.getD 0 0)+1)) (A:=A) (n:=b.length) (c:=cp) rfl Tryz.underlying27 (by kernel_rfl) (by kernel_rfl) (by kernel_rfl) (hrun41 _ _ _))<|?_
 by_cases hE:bB (aX dr (((b.take ((((b.getD 0 0)+1)).toNat)).drop 1)).length 0 ⟨((b.take ((((b.getD 0 0)+1)).toNat)).drop 1),false,0⟩ []).1.e=0
 refine ay (args:=#[vI dir,vB 21,.slice u (((((b.getD 0 0)+1)).toNat)-1) (cp-1)])<|e2 (nz (p5 (F _ _ _ _ _ t) (by rw[List.length_drop,List.length_take];omega)) hE) fun ae af z B=>?_
 obtain⟨Z,a0,rfl,aj,ak⟩:=aT.shape z.rd
 refine ah 5<|sq<|aB 2<|c0<|bu<|sq<|sq<|go<|Pl 3<|bp ((b.getD 0 0)+1)<|ah 1<|?_
 have G:=aJ k B
 refine cb ((decide (((b.getD 0 0)+1)<(b.length:Int)))) (fun s=>?_) (fun s=>?_)
 have a1:=of_decide_eq_true s
 refine aq 1<|?_
 refine aG (ub B h) mZ fun al a2 a3=>ah 1<|b6<|ck a2 (vI 3)<|?_
 have hE0:(aX dr (((b.take ((((b.getD 0 0)+1)).toNat)).drop 1)).length 0 ⟨((b.take ((((b.getD 0 0)+1)).toNat)).drop 1),false,0⟩ []).1.e=0:=iu hE
 exact cI (y:=(aS.zero,3)) (by unfold di ei dc jj;(try simp only[g,a,d,f,q,r,i,s,bi,hE0,jg,reduceIte])<;>rfl) (bE (ud G a3 j))
 have a1:=of_decide_eq_false s
 refine bu<|aq 3<|?_
 have H:=ub B h
 refine aG H (mG 21 0 0 0 0 0 0 0 0 0 0 0 nS nS nS (.slice Z ((aX dr (((b.take ((((b.getD 0 0)+1)).toNat)).drop 1)).length 0 ⟨((b.take ((((b.getD 0 0)+1)).toNat)).drop 1),false,0⟩ []).2.length) a0) 0 0 0 0 0 nS) fun am a4 C=>ah 1<|rt<|ck a4 (vI 0)<|?_
 have hE0:(aX dr (((b.take ((((b.getD 0 0)+1)).toNat)).drop 1)).length 0 ⟨((b.take ((((b.getD 0 0)+1)).toNat)).drop 1),false,0⟩ []).1.e=0:=iu hE
 exact cI (y:=((aS.mk 21 0 0 0 0 0 0 0 0 0 0 0 [] [] [] (aX dr (((b.take ((((b.getD 0 0)+1)).toNat)).drop 1)).length 0 ⟨((b.take ((((b.getD 0 0)+1)).toNat)).drop 1),false,0⟩ []).2 0 0 0 0 0 []),0)) (by unfold di ei dc jj;(try simp only[g,a,d,f,q,r,i,s,bi,hE0,jg,reduceIte])<;>rfl) ⟨_,rfl,⟨_,_,_,_,_,rfl,aT.nil ..,aT.nil ..,(fun _ _ _=>aT.nil ..),((au z C (fun x hx=>(aa (fun e=>(aO (az h) lr z) (e▸hx)) aE)) (bH.upd16 C (av (b9 H (by decide)) aM)))).rd,aT.nil ..,(cP (by omega))⟩,(ud G C j)⟩
 refine ay (args:=#[vI dir,vB 21,.slice u (((((b.getD 0 0)+1)).toNat)-1) (cp-1)])<|(lB (p5 (F _ _ _ _ _ t) (by rw[List.length_drop,List.length_take];omega))).mono ?_
 rintro _ an ⟨ao,ap,ar,rfl,I⟩
 refine⟨_,rfl,?_⟩
 have hE1:(bB (aX dr (((b.take ((((b.getD 0 0)+1)).toNat)).drop 1)).length 0 ⟨((b.take ((((b.getD 0 0)+1)).toNat)).drop 1),false,0⟩ []).1.e != 0)=true:=by simpa using hE
 refine ah 5<|sq<|aB 2<|ct hE1<|aq 2<|?_
 refine aG (ub I h) mZ fun aw a5 a6=>ah 1<|b6<|ck a5 (vI (bB (aX dr (((b.take ((((b.getD 0 0)+1)).toNat)).drop 1)).length 0 ⟨((b.take ((((b.getD 0 0)+1)).toNat)).drop 1),false,0⟩ []).1.e))<|?_
 have hE3:((aX dr (((b.take ((((b.getD 0 0)+1)).toNat)).drop 1)).length 0 ⟨((b.take ((((b.getD 0 0)+1)).toNat)).drop 1),false,0⟩ []).1.e != 0)=true:=lg hE
 exact cI (y:=(aS.zero,bB (aX dr (((b.take ((((b.getD 0 0)+1)).toNat)).drop 1)).length 0 ⟨((b.take ((((b.getD 0 0)+1)).toNat)).drop 1),false,0⟩ []).1.e)) (by unfold di ei dc jj;(try simp only[g,a,d,f,q,r,i,hE1,bi,hE3,jg,reduceIte])<;>rfl) (bE (ud k (uz I a6) j))
theorem vC(hd:dir=0∨dir=1)(hc:¬ c=20∧¬ c=21) :
    Calls Tryz.prog 112 #[vI dir,vB c,.slice A b.length cp] w (cN (.slice A b.length cp) b (aS.zero,4) w):=by
 have g:((dir != 0)&&(dir != 1))=false:=by rcases hd with rfl | rfl<;>rfl
 have e2:((c != 20)&&(c != 21))=true:=by simp[hc.1,hc.2]
 refine en 101 Tryz.func112 rfl<|sg<|aK mZ fun o p h i j=>ah 1<|sq<|aq 3<|cu 3 [14] 17 (((dir != 0)&&(dir != 1))) (fun K e=>?_) ?_
 refine bl 14 ((dir != 0)) (fun a=>?_) (fun a=>?_)
 have k:=aA a
 exact Pl 3<|ce e (dir != 1) (by rw[a];rfl)
 have k:=aF a
 exact Pl 3<|ce e false (by rw[a];rfl)
 refine nt<|cf g<|bu<|sq<|aq 3<|cu 3 [21] 24 (((c != 20)&&(c != 21))) (fun K f=>?_) ?_
 refine bl 21 ((c != 20)) (fun d=>?_) (fun d=>?_)
 have l:=aA d
 exact Pl 3<|ce f (c != 21) (by rw[d];rfl)
 have l:=aF d
 exact Pl 3<|ce f false (by rw[d];rfl)
 refine nt<|ct e2<|aq 1<|aG i mZ fun q m n=>ah 1<|b6<|ck m (vI 4)<|?_
 exact bE (ud j n h)
theorem y6(hd:¬ (dir=0∨dir=1)) :
    Calls Tryz.prog 112 #[vI dir,vB c,.slice A b.length cp] w (cN (.slice A b.length cp) b (aS.zero,1) w):=by
 have e:((dir != 0)&&(dir != 1))=true:=by simp;omega
 refine en 101 Tryz.func112 rfl<|sg<|aK mZ fun l m f g h=>ah 1<|sq<|aq 3<|cu 3 [14] 17 (((dir != 0)&&(dir != 1))) (fun K d=>?_) ?_
 refine bl 14 ((dir != 0)) (fun a=>?_) (fun a=>?_)
 have i:=aA a
 exact Pl 3<|ce d (dir != 1) (by rw[a];rfl)
 have i:=aF a
 exact Pl 3<|ce d false (by rw[a];rfl)
 refine nt<|ct e<|aq 1<|aG g mZ fun n j k=>ah 1<|b6<|ck j (vI 1)<|?_
 exact bE (ud h k f)
theorem tE(hd:dir=0∨dir=1)(hc:¬ c=20∧¬ c=21) : ak bg dir c b=(aS.zero,4):=by
  unfold ak bg
  rw[if_pos hd,if_neg (by simpa using hc.1),if_neg (by simpa using hc.2)]
theorem xo(hd:¬ (dir=0∨dir=1)) : ak form dir c b=(aS.zero,1):=by
  unfold ak
  rw[if_neg hd]
theorem kK(hc:B8 c)(h:aV m w v b)(hb:b.length≤1048576) :
    Calls Tryz.prog 112 #[.int .i64 dir,.int .u8 c,v] w (cN v b (ak bg dir c b) w):=by
  have hr:=aV.range h
  obtain⟨A,cp,rfl,_,_⟩:=h.shape
  by_cases hd:dir=0∨dir=1
  · by_cases a:c=20
    · subst a
      rcases hd with rfl|rfl
      · rw[tP hr];exact yf h hb
      · rw[tD hr];exact yX h hb
    · by_cases d:c=21
      · subst d
        rw[zE hd hr];exact zW hd h hb
      · rw[tE hd ⟨a,d⟩];exact vC hd ⟨a,d⟩
  · rw[xo hd];exact y6 hd
end Go.Proofs.YtdkhbcefkfgbdaaGreat
