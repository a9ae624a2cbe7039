/- Contracts of functions, part CSascTells4. -/
import Derived.Test.YtdkhbcefkfgbdaaGreatCSascTells1
import Derived.Test.YtdkhbcefkfgbdaaGreatCSascTells2
import Derived.Test.YtdkhbcefkfgbdaaGreatCSascTells3
set_option linter.unusedVariables false
set_option linter.unusedSimpArgs false
set_option maxRecDepth 100000
set_option maxHeartbeats 4000000
namespace Go.Proofs.YtdkhbcefkfgbdaaGreat
open Go.RowKit
variable {k:Nat}{xs:List Int}
theorem pV{a b:Nat}(h:2*k+1<xs.length)(ha:a=2*k)(hb:b=2*k+1)(hr:∀ x,x∈xs→0≤x∧x<256) : co (xs.drop (2*k))=[(((256*xs.getD a 0)%65536)+xs.getD b 0)%65536]++co (xs.drop (2*(k+1))):=by
  subst ha hb
  rw[List.drop_eq_getElem_cons (show 2*k<xs.length by omega),List.drop_eq_getElem_cons h]
  have h1:=hr _ (List.getElem_mem (show 2*k<xs.length by omega))
  have h2:=hr _ (List.getElem_mem h)
  have e1:xs.getD (2*k) 0=xs[2*k]:=by rw[List.getD_eq_getElem?_getD,List.getElem?_eq_getElem (by omega)];rfl
  have e2:xs.getD (2*k+1) 0=xs[2*k+1]:=by rw[List.getD_eq_getElem?_getD,List.getElem?_eq_getElem h];rfl
  rw[e1,e2]
  show(xs[2*k]*256+xs[2*k+1]) :: co (xs.drop (2*k+1+1))=_
  rw[show 2*k+1+1=2*(k+1) by omega,show((256*xs[2*k])%65536+xs[2*k+1])%65536=xs[2*k]*256+xs[2*k+1] by omega]
  rfl
theorem pU{L:List Int}  (h:L++co (xs.drop (2*k))=co xs)(h1:¬ 2*k+1<xs.length)(h2:xs.length%2=0) : L=c5 xs:=by
  have hd:xs.drop (2*k)=[]:=List.drop_eq_nil_of_le (by omega)
  rw[hd] at h
  unfold c5
  rw[if_pos h2,← h]
  simp[co]
variable {A:Option Addr}{cp:Nat}{m:Md}{w:World}
theorem v5(h:aX m w (.slice A xs.length cp) xs)(hn:xs.length≤1048576) : Calls Tryz.prog 224 #[.slice A xs.length cp] w (rL xs w):=by
 have hr:=aX.range h
 refine en 33 Tryz.func224 rfl<|aq 1<|db 1<|sq<|aq 2<|L0<|Oe (vI (Int.tmod (xs.length:Int) 2)) (vI ((xs.length:Int)%2)) (congrArg (Value.int .i64) (Int.tmod_eq_emod_of_nonneg (by omega)))<|ap 1<|cb ((((xs.length:Int)%2)==1)) (fun f=>?_) (fun f=>?_)
 have v:=ak f
 refine az 1<|bj<|rr nS<|?_
 have hs:c5 xs=[]:=by unfold c5;rw[if_neg (by have:=ak f;omega)]
 exact⟨_,rfl,by rw[hs];exact aW.nil ..,(aE.refl [] _)⟩
 have v:=au f
 refine bz<|sq<|az 1<|bk<|gw (fun x=>[(0,.slice A xs.length cp),(2,nS),(3,.slice x.2.2.1 x.2.1.length x.2.2.2),(4,vI ((2*x.1:Nat) : Int))]) (fun(x:Nat × List Int × Option Addr × Nat) w'=>aE [] w w'∧iV w.heap.size w' (.slice x.2.2.1 x.2.1.length x.2.2.2) x.2.1∧(2*x.1≤xs.length)∧(x.2.1++co (xs.drop (2*x.1))=co xs)∧(x.2.1.length=x.1)) (fun x=>xs.length-2*x.1) (0,[],none,0) ⟨aE.refl _ _,(aW.nil w.heap.size _ _ qG _),(by(try dsimp only);omega),rfl,rfl⟩ ?_
 rintro⟨k,L,B,cq⟩ y ⟨g,z,C,D,E⟩
 refine f5 [(0,.slice A xs.length cp),(2,nS),(3,.slice B L.length cq),(4,vI ((2*k:Nat) : Int))] ?_
 have i:iV w.heap.size y (.slice B L.length cq) L:=z
 have T:2*k≤xs.length:=C
 have U:L++co (xs.drop (2*k))=co xs:=D
 have V:L.length=k:=E
 have hL:L++co (xs.drop (2*k))=co xs:=by assumption
 refine sq<|aq 1<|be (((2*k:Nat) : Int)+1)<|ap 3<|cb ((decide ((((2*k:Nat) : Int)+1)<(xs.length:Int)))) (fun j=>?_) (fun j=>?_)
 have F:=of_decide_eq_true j
 refine bz<|sq<|bk<|?_
 have o:=aX.old h g
 refine eF (aX.at_ o (2*k) (by omega)) fun G H p q W=>eF (aX.at_ o (((((2*k:Nat) : Int)+1)).toNat) (by omega)) fun I J r s X=>Rg 17 (fun w'=>w'.cell? ⟨G,H+2*k,none⟩=some (vB (xs.getD (2*k) 0))∧w'.cell? ⟨I,J+((((2*k:Nat) : Int)+1)).toNat,none⟩=some (vB (xs.getD (((((2*k:Nat) : Int)+1)).toNat) 0))) fun Y d=>bA ⟨(uc d q),(uc d s)⟩ fun c=>Rt 0 c<|Rt 1 c<|Rt 2 c<|nG 3 c xs.length (2*k) ((2*k:Nat) : Int) rfl p (by omega)<|Rl 4 c (fun _ hs=>hs.1)<|Rr 5 c (vW (xs.getD (2*k) 0)) (fun _ _=>c9 (vW (IntKind.u16.wrap (xs.getD (2*k) 0))) (by kernel_rfl) (congrArg (Value.int .u16) (ly (by omega))))<|Rt 6 c<|Rt 7 c<|Rt 8 c<|Rr 9 c (vI (((2*k:Nat) : Int)+1)) (fun _ _=>c9 (vI (IntKind.i64.wrap (((2*k:Nat) : Int)+1))) (by kernel_rfl) (congrArg (Value.int .i64) (IntWalk.i64_in _ (by omega))))<|nG 10 c xs.length (((((2*k:Nat) : Int)+1)).toNat) (((2*k:Nat) : Int)+1) (by omega) r (by omega)<|Rl 11 c (fun _ hs=>hs.2)<|Rr 12 c (vW (xs.getD (((((2*k:Nat) : Int)+1)).toNat) 0)) (fun _ _=>c9 (vW (IntKind.u16.wrap (xs.getD (((((2*k:Nat) : Int)+1)).toNat) 0))) (by kernel_rfl) (congrArg (Value.int .u16) (ly (by omega))))<|Rt 13 c<|R0 14 rfl<|eX (m:=1) (e:=37) #[vW ((((256*(xs.getD (2*k) 0))%65536)+(xs.getD (((((2*k:Nat) : Int)+1)).toNat) 0))%65536)] fun Z a0 K M l=>?_
 have N:=tC K (xs:=[((((256*(xs.getD (2*k) 0))%65536)+(xs.getD (((((2*k:Nat) : Int)+1)).toNat) 0))%65536)]) (by as_aux_lemma=>kernel_rfl) (aF (by omega) cm) (by(try simp only[List.length_cons,List.length_nil]);omega) M
 have n:=aN d l
 refine bA ⟨(uc n q),(uc n s)⟩ fun a1=>?_
 refine R0 15 rfl<|rV oC (xs:=L) (ys:=([((((256*(xs.getD (2*k) 0))%65536)+(xs.getD (((((2*k:Nat) : Int)+1)).toNat) 0))%65536)])) (vW 0) 2 (al i n (fun x hx=>av) (fun _ _ h=>h)) (N).rd (by(try simp only[d8,aQ]);omega) (le (le g.size d.size) l.size) fun O P a2 Q R=>?_
 have t:=ut (aN (aN g d) l) R (aB (bC i lr) aA)
 have u:=aX.old h t
 exact bA ⟨(cB u p (2*k) (by omega)),(cB u r (((((2*k:Nat) : Int)+1)).toNat) (by omega))⟩ fun S=>Rt 16 S<|re<|bn<|tn<|go<|Pl 1<|be (((2*k:Nat) : Int)+2)<|Pl 1<|nl<|ed ((k+1),(L++[((((256*(xs.getD (2*k) 0))%65536)+(xs.getD (((((2*k:Nat) : Int)+1)).toNat) 0))%65536)]),O,P) ⟨t,Q,(by(try dsimp only);omega),(by(try dsimp only);rw[← hL,pV (k:=k) (a:=2*k) (b:=(((2*k:Nat) : Int)+1).toNat) (by omega) rfl (by omega) hr,List.append_assoc]),(by(try dsimp only);simp only[d8];omega)⟩ (by omega)
 have F:=of_decide_eq_false j
 refine xt<|tx<|tx<|bx<|tn<|az 2<|rt<|rr (.slice B L.length cq)<|?_
 have hs:L=c5 xs:=pU hL (by omega) (by omega)
 exact⟨_,rfl,by rw[← hs];exact i,g⟩
variable {v:Value}
theorem tX(h:aX m w v xs)(hn:xs.length≤1048576) : Calls Tryz.prog 224 #[v] w (rL xs w):=by
  obtain⟨A,cp,rfl,_,_⟩:=h.shape
  exact v5 h hn
variable {a n:Int}
theorem oB(ha:0≤a∧a<65536)(hn : -1048576≤n∧n≤1048576) : Calls Tryz.prog 222 #[vW a,vI n] w (bW (.bool (cK a n)) w):=by
 refine en 16 Tryz.func222 rfl<|az 1<|sq<|aq 3<|ea 3 [7] 10 7 (decide (n<1)) (decide (65536<n)) (fun K c d=>?_) ?_
 have g:=of_decide_eq_false d
 exact Pl 3<|ce c _ rfl
 refine nt<|cb (((decide (n<1))||(decide (65536<n)))) (fun b=>?_) (fun b=>?_)
 refine az 1<|bj<|rr (.bool false)<|?_
 have hq:=b
 have hs:cK a n=false:=by unfold cK;simp only[Bool.or_eq_true,decide_eq_true_eq] at hq;simp only[Bool.and_eq_false_iff,decide_eq_false_iff_not];omega
 rw[hs]
 exact⟨rfl,(aE.refl [] _)⟩
 have e:=(ci b).1
 have f:=(ci b).2
 have h:=of_decide_eq_false e
 have i:=of_decide_eq_false f
 refine bz<|aq 1<|be a<|Pl 1<|be (a+n)<|ap 2<|rt<|rr (.bool (decide ((a+n)≤65536)))<|?_
 have hs:cK a n=(decide ((a+n)≤65536)):=by unfold cK;rw[Bool.eq_iff_iff];simp only[Bool.and_eq_true,decide_eq_true_eq];omega
 rw[hs]
 exact⟨rfl,(aE.refl [] _)⟩
open Go.RowKit
def xg (A:Option Addr)(cp:Nat)(full:List Int)(k:Nat)(C:ah) : Array Value:=#[.slice A full.length cp,.int .i64 ((k:Nat) : Int),.bool C.sh,.int .i64 C.e]
structure RC (w0:World) (m:Md) (A:Option Addr) (cp:Nat) (full:List Int) (w:World) (g:Nat) (C:ah) : Prop where
  src:aX m w0 (.slice A full.length cp) full
  u:aE [] w0 w
  new:w0.heap.size≤g
  cell:∃ k:Nat,w.heap[g]? = some (.cells (xg A cp full k C) 194 (0,0))∧k≤full.length∧C.l=full.drop k
  len:full.length≤1048576
variable {C:ah}{full:List Int}{g:Nat}{w0:World}
theorem RC.upd{w':World}   {S:List Nat}(h:RC w0 m A cp full w g C)(hu:aE S w w')(hg:g∉S)(U:aE [] w0 w') : RC w0 m A cp full w' g C:=by
  obtain⟨h1,h2,h3,⟨k,h4,h5,h6⟩,h7⟩:=h
  exact⟨h1,U,h3,⟨k,hu.blk hg h4,h5,h6⟩,h7⟩
theorem RC.rd(h:RC w0 m A cp full w g C) : aX m w (.slice A full.length cp) full:=aX.old h.src h.u
theorem RC.rng(h:RC w0 m A cp full w g C) : ∀ x,x∈C.l→0≤x∧x<256:=fun x hx=>by
  obtain⟨k,_,_,h2⟩:=h.cell
  rw[h2] at hx
  exact aX.range h.src x (List.mem_of_mem_drop hx)
variable {ok:Bool}{x:Int}
theorem t9(C:ah)   (h:(ok || (C.e != 0))=true) : C.need ok x=C:=by
  unfold ah.need
  rw[if_neg]
  rintro⟨h1,rfl⟩
  rw[h1] at h
  cases h
theorem tf(C:ah)   (h:(ok || (C.e != 0))=false) : C.need ok x = { C with e:=x }:=by
  simp only[Bool.or_eq_false_iff,bne_eq_false_iff_eq] at h
  unfold ah.need
  rw[if_pos ⟨h.2,h.1⟩]
def u6 (w0:World)(m:Md)(A:Option Addr)(cp:Nat)(full:List Int)(g:Nat)(C:ah)(w:World)(e:Ending)(w':World) : Prop:=e = .returned (.tuple #[])∧RC w0 m A cp full w' g C∧aE [g] w w'
theorem aR(ok:Bool)(x:Int)(hC:RC w0 m A cp full w g C) :
    Calls Tryz.prog 168 #[vP g 0,.bool ok,vI x] w (u6 w0 m A cp full g (C.need ok x) w):=by
 obtain⟨hsrc,hU,hnew,⟨k,hB,hk,hl⟩,hlen⟩:=hC
 refine en 18 Tryz.func168 rfl<|sq<|aq 2<|ea 6 [7] 13 7 ok (C.e != 0) (fun K c h=>?_) ?_
 exact Pl 3<|L1<|cS hB 3<|Pl 2<|ce c _ rfl
 refine nt<|cb ((ok || (C.e != 0))) (fun a=>?_) (fun a=>?_)
 refine bj<|rr (.tuple #[])<|?_
 rw[t9 C a]
 exact⟨rfl,⟨hsrc,hU.trans' (aE.mono (S':=[g]) (aE.refl [] _) aA) (fun x hx=>.inr (by simp at hx;subst hx;exact hnew)),hnew,⟨k,hB,hk,hl⟩,hlen⟩,(aE.mono (S':=[g]) (aE.refl [] _) aA)⟩
 have i:=(ci a).1
 have d:=(ci a).2
 have j:=aJ d
 refine bz<|go<|Pl 4<|L0<|bD hB 3 #[.slice A full.length cp,vI (k:Int),.bool C.sh,vI x] fun l f b=>nl<|rm (.tuple #[])<|?_
 rw[tf C a]
 exact⟨rfl,⟨hsrc,hU.trans' b (fun x hx=>.inr (by simp at hx;subst hx;exact hnew)),hnew,⟨k,f,hk,hl⟩,hlen⟩,b⟩
theorem i4(hk:k≤full.length)(hl:C.l=full.drop k) : C.fails n=((C.sh || decide (n<0))||decide ((((full.length:Nat) : Int)-((k:Nat) : Int))<n)):=by
  unfold ah.fails
  rw[hl,List.length_drop,show((full.length-k:Nat) : Int)=((full.length:Nat) : Int)-((k:Nat) : Int) by omega]
def tB (w0:World)(m:Md)(A:Option Addr)(cp:Nat)(full:List Int)(g:Nat)(C:ah)(n:Int)(w:World)(e:Ending)(w':World) : Prop:=∃ A2 n2 c2,e = .returned (.slice A2 n2 c2)∧(∀ m' w'',aX m' w'' (.slice A full.length cp) full→aX m' w'' (.slice A2 n2 c2) (C.bytesR n))∧RC w0 m A cp full w' g (C.bytesC n)∧aE [g] w w'
theorem sP{l:List Int}{a b:Nat}(hl:l=full.drop k)(h:b=k+a) : l.drop a=full.drop b:=by
  rw[hl,List.drop_drop,h]
theorem ot(hk:k≤full.length)(hl:C.l=full.drop k)(hf:C.fails n=false)(a b:Nat)(ha:(a:Int)=k)(hb:(b:Int)=(k:Int)+n) : (full.take b).drop a=C.bytesR n:=by
  obtain rfl:a=k:=by omega
  unfold ah.bytesR
  rw[hf,hl,List.drop_take]
  show _=(full.drop a).take n.toNat
  rw[show b-a=n.toNat by omega]
theorem nn(hn : -1048576≤n∧n≤2097152)(hC:RC w0 m A cp full w g C) :
    Calls Tryz.prog 169 #[vP g 0,vI n] w (tB w0 m A cp full g C n w):=by
 obtain⟨hsrc,hU,hnew,⟨k,hB,hk,hl⟩,hlen⟩:=hC
 have hcp:full.length≤cp:=by obtain⟨_,_,hv,h1,_⟩:=aI.shape hsrc;injection hv with _ _ h3;omega
 refine en 64 Tryz.func169 rfl<|az 1<|sq<|sq<|Rg 22 (fun w'=>w'.cell? ⟨g,2,none⟩=some (.bool C.sh)∧w'.cell? ⟨g,0,none⟩=some (.slice A full.length cp)∧w'.cell? ⟨g,1,none⟩=some (vI (k:Int))) fun a4 i=>?_
 have d:=ub i hB
 refine bA ⟨(am d rfl),(am d rfl),(am d rfl)⟩ fun a=>Rt 0 a<|Rt 1 a<|Rt 2 a<|Rl 3 a (fun _ hs=>hs.1)<|Rt 4 a<|vq 9 (C.sh) (fun j=>?_) (fun j=>?_)
 refine Ro 5 a<|Ro 6 a<|Rt 7 a<|Rt 8 a<|Ro 9 a<|Ro 10 a<|Ro 11 a<|Ro 12 a<|Ro 13 a<|Ro 14 a<|Ro 15 a<|Ro 16 a<|Ro 17 a<|Ro 18 a<|Ro 19 a<|Ro 20 a<|Rt 21 a<|re<|tn<|c1<|aq 3<|L0<|bD d 2 #[.slice A full.length cp,vI (k:Int),.bool true,vI C.e] fun a5 q D=>aL 4<|aH q 0<|Pl 3<|L0<|bD q 1 #[.slice A full.length cp,vI (full.length:Int),.bool true,vI C.e] fun E F G=>aL 1<|?_
 have r:=u1 (u1 (aE.mono (S':=[g]) i aA) D im) G im
 have H:RC w0 m A cp full E g { C with l:=[],sh:=true }:=⟨hsrc,hU.trans' r (fun x hx=>.inr (by simp at hx;subst hx;exact hnew)),hnew,⟨full.length,F,Nat.le_refl _,List.drop_length.symm⟩,hlen⟩
 refine ax<|m2 (aR false 2 H) fun a6 I J=>db 1<|bj<|rr nS<|?_
 have hf:C.fails n=true:=by rw[i4 (n:=n) hk hl,j];rfl
 have e1:C.bytesR n=[]:=by unfold ah.bytesR;rw[hf];rfl
 have e2:C.bytesC n=ah.need { C with l:=[],sh:=true } false 2:=by unfold ah.bytesC;rw[hf];rfl
 exact⟨none,0,0,rfl,fun _ _ _=>by rw[e1];exact aI.nil ..,by rw[e2];exact I,(u1 r J im)⟩
 refine Rt 5 a<|Rt 6 a<|Rt 7 a<|Rt 8 a<|vq 13 ((decide (n<0))) (fun f=>?_) (fun f=>?_)
 have K:=of_decide_eq_true f
 refine Ro 9 a<|Ro 10 a<|Ro 11 a<|Ro 12 a<|Ro 13 a<|Ro 14 a<|Ro 15 a<|Ro 16 a<|Ro 17 a<|Ro 18 a<|Ro 19 a<|Ro 20 a<|Rt 21 a<|re<|tn<|c1<|aq 3<|L0<|bD d 2 #[.slice A full.length cp,vI (k:Int),.bool true,vI C.e] fun a7 s L=>aL 4<|aH s 0<|Pl 3<|L0<|bD s 1 #[.slice A full.length cp,vI (full.length:Int),.bool true,vI C.e] fun M N O=>?_
 refine aL 1<|?_
 have t:=u1 (u1 (aE.mono (S':=[g]) i aA) L im) O im
 have Q:RC w0 m A cp full M g { C with l:=[],sh:=true }:=⟨hsrc,hU.trans' t (fun x hx=>.inr (by simp at hx;subst hx;exact hnew)),hnew,⟨full.length,N,Nat.le_refl _,List.drop_length.symm⟩,hlen⟩
 refine ax<|m2 (aR false 2 Q) fun a8 R S=>db 1<|bj<|rr nS<|?_
 have hf:C.fails n=true:=by rw[i4 (n:=n) hk hl,j,f];rfl
 have e1:C.bytesR n=[]:=by unfold ah.bytesR;rw[hf];rfl
 have e2:C.bytesC n=ah.need { C with l:=[],sh:=true } false 2:=by unfold ah.bytesC;rw[hf];rfl
 exact⟨none,0,0,rfl,fun _ _ _=>by rw[e1];exact aI.nil ..,by rw[e2];exact R,(u1 t S im)⟩
 have K:=of_decide_eq_false f
 refine Rt 9 a<|Rt 10 a<|Rt 11 a<|Rt 12 a<|Rl 13 a (fun _ hs=>hs.2.1)<|Rt 14 a<|Rt 15 a<|Rt 16 a<|Rt 17 a<|Rl 18 a (fun _ hs=>hs.2.2)<|Rr 19 a (vI ((full.length:Int)-(k:Int))) (fun _ _=>c9 (vI (IntKind.i64.wrap ((full.length:Int)-(k:Int)))) (by kernel_rfl) (congrArg (Value.int .i64) (IntWalk.i64_in _ (by omega))))<|Rt 20 a<|Rt 21 a<|re<|tn<|cb ((decide (((full.length:Int)-(k:Int))<n))) (fun o=>?_) (fun o=>?_)
 have T:=of_decide_eq_true o
 refine aq 3<|L0<|bD d 2 #[.slice A full.length cp,vI (k:Int),.bool true,vI C.e] fun a9 u U=>aL 4<|aH u 0<|Pl 3<|L0<|bD u 1 #[.slice A full.length cp,vI (full.length:Int),.bool true,vI C.e] fun V W X=>nt<|aq 1<|?_
 have v:=u1 (u1 (aE.mono (S':=[g]) i aA) U im) X im
 have Y:RC w0 m A cp full V g { C with l:=[],sh:=true }:=⟨hsrc,hU.trans' v (fun x hx=>.inr (by simp at hx;subst hx;exact hnew)),hnew,⟨full.length,W,Nat.le_refl _,List.drop_length.symm⟩,hlen⟩
 refine ax<|m2 (aR false 2 Y) fun aa Z a0=>db 1<|bj<|rr nS<|?_
 have hf:C.fails n=true:=by rw[i4 (n:=n) hk hl,j,f,o];rfl
 have e1:C.bytesR n=[]:=by unfold ah.bytesR;rw[hf];rfl
 have e2:C.bytesC n=ah.need { C with l:=[],sh:=true } false 2:=by unfold ah.bytesC;rw[hf];rfl
 exact⟨none,0,0,rfl,fun _ _ _=>by rw[e1];exact aI.nil ..,by rw[e2];exact Z,(u1 v a0 im)⟩
 have T:=of_decide_eq_false o
 refine bz<|aq 4<|aH d 1<|Pl 1<|be ((k:Int)+n)<|Pl 2<|L0<|bD d 1 #[.slice A full.length cp,vI ((k:Int)+n),.bool C.sh,vI C.e] fun ab a1 a2=>nt<|sq<|Rg 16 (fun w'=>w'.cell? ⟨g,0,none⟩=some (.slice A full.length cp)∧w'.cell? ⟨g,1,none⟩=some (vI ((k:Int)+n))) fun ac y=>?_
 have p:=ub y a1
 refine bA ⟨(am p rfl),(am p rfl)⟩ fun b=>Rt 0 b<|Rt 1 b<|Rt 2 b<|Rl 3 b (fun _ hs=>hs.1)<|Rt 4 b<|Rt 5 b<|Rt 6 b<|Rl 7 b (fun _ hs=>hs.2)<|Rt 8 b<|Rr 9 b (vI (((k:Int)+n)-n)) (fun _ _=>c9 (vI (IntKind.i64.wrap (((k:Int)+n)-n))) (by kernel_rfl) (congrArg (Value.int .i64) (IntWalk.i64_in _ (by omega))))<|Rt 10 b<|Rt 11 b<|Rt 12 b<|Rl 13 b (fun _ hs=>hs.2)<|jR (e9 (P:=Tryz.prog) 27 5 1 Tryz.underlying27 rfl rfl A full.length cp (lo:=(((k:Int)+n)-n)) (up:=((k:Int)+n)) (((((k:Int)+n)-n)).toNat) ((((k:Int)+n)).toNat) (by omega) (by omega) (by omega) (by omega) (by omega)) fun z hrun69 a3=>Rr 14 b (.slice z (((((k:Int)+n)).toNat)-(((((k:Int)+n)-n)).toNat)) (cp-(((((k:Int)+n)-n)).toNat))) (fun _ _=>de (kl:=.i64) (kh:=.i64) (lo:=(((k:Int)+n)-n)) (hi:=((k:Int)+n)) (A:=A) (n:=full.length) (c:=cp) rfl Tryz.underlying27 (by kernel_rfl) (by kernel_rfl) (by kernel_rfl) (hrun69 _ _ _))<|Rt 15 b<|re<|tn<|rt<|rr (.slice z (((((k:Int)+n)).toNat)-(((((k:Int)+n)-n)).toNat)) (cp-(((((k:Int)+n)-n)).toNat)))<|?_
 have hf:C.fails n=false:=by rw[i4 (n:=n) hk hl,j,f,o];rfl
 have B:=aN (u1 (aE.mono (S':=[g]) i aA) a2 im) y
 have e2:C.bytesC n = { C with l:=C.l.drop n.toNat }:=by unfold ah.bytesC;rw[hf];rfl
 exact⟨_,_,_,rfl,fun m' w'' h=>by have:=a3 m' _ _ w'' full h;rw[ot hk hl hf _ _ (by omega) (by omega)] at this;exact this,by rw[e2];exact⟨hsrc,hU.trans' B (fun x hx=>.inr (by simp at hx;subst hx;exact hnew)),hnew,⟨((k:Int)+n).toNat,(by unfold xg;rw[show(((((k:Int)+n).toNat:Nat) : Int))=(k:Int)+n by omega];exact p),by omega,sP hl (by omega)⟩,hlen⟩,B⟩
def t4 (w0:World)(m:Md)(A:Option Addr)(cp:Nat)(full:List Int)(g:Nat)(C:ah)(n:Int)(w:World)(e:Ending)(w':World) : Prop:=∃ A2 c2,e = .returned (.slice A2 (C.bytesR n).length c2)∧(∀ m' w'',aX m' w'' (.slice A full.length cp) full→aX m' w'' (.slice A2 (C.bytesR n).length c2) (C.bytesR n))∧RC w0 m A cp full w' g (C.bytesC n)∧aE [g] w w'
theorem eQ(hn : -1048576≤n∧n≤2097152)(hC:RC w0 m A cp full w g C) : Calls Tryz.prog 169 #[.pointer (some ⟨g,0,none⟩),.int .i64 n] w (t4 w0 m A cp full g C n w):=by
  refine(nn hn hC).mono ?_
  rintro e w' ⟨A2,n2,c2,rfl,h1,h2,h3⟩
  obtain⟨_,_,hv,_⟩:=aI.shape (h1 m w0 hC.src)
  injection hv with _ e2 _
  subst e2
  exact⟨A2,c2,rfl,h1,h2,h3⟩
theorem sT(hk:k≤full.length)(hl:C.l=full.drop k) : ((full.length:Nat) : Int)-((k:Nat) : Int)=((C.l.length:Nat) : Int):=by
  rw[hl,List.length_drop]
  omega
theorem gC(hC:RC w0 m A cp full w g C) :
    Calls Tryz.prog 177 #[vP g 0] w (bW (vI (C.l.length:Int)) w):=by
 obtain⟨hsrc,hU,hnew,⟨k,hB,hk,hl⟩,hlen⟩:=hC
 have hcp:full.length≤1048576:=hlen
 refine en 13 Tryz.func177 rfl<|az 1<|sq<|Rg 11 (fun w'=>w'.cell? ⟨g,0,none⟩=some (.slice A full.length cp)∧w'.cell? ⟨g,1,none⟩=some (vI (k:Int))) fun d b=>?_
 have c:=ub b hB
 refine bA ⟨(am c rfl),(am c rfl)⟩ fun a=>Rt 0 a<|Rt 1 a<|Rt 2 a<|Rl 3 a (fun _ hs=>hs.1)<|Rt 4 a<|Rt 5 a<|Rt 6 a<|Rt 7 a<|Rl 8 a (fun _ hs=>hs.2)<|Rr 9 a (vI ((full.length:Int)-(k:Int))) (fun _ _=>c9 (vI (IntKind.i64.wrap ((full.length:Int)-(k:Int)))) (by kernel_rfl) (congrArg (Value.int .i64) (IntWalk.i64_in _ (by omega))))<|Rt 10 a<|re<|tn<|rt<|rr (vI ((full.length:Int)-(k:Int)))<|?_
 rw[sT hk hl]
 exact⟨rfl,b⟩
theorem ki(hC:RC w0 m A cp full w g C) :
    Calls Tryz.prog 173 #[vP g 0] w (u6 w0 m A cp full g C.endC w):=by
 refine en 7 Tryz.func173 rfl<|go<|Pl 2<|ax<|m1 (gC hC) fun e a=>?_
 have b:=RC.upd hC a av (aE.step (RC.u hC) a)
 refine Pl 1<|ax<|m2 (aR (((C.l.length:Int)==0)) 3 b) fun f c d=>nl<|rm (.tuple #[])<|?_
 exact⟨rfl,c,(u1 (aE.mono (S':=[g]) a aA) d im)⟩
theorem RC.clen(h:RC w0 m A cp full w g C) : C.l.length≤1048576:=by
  obtain⟨k,_,_,h2⟩:=h.cell
  have:=h.len
  rw[h2,List.length_drop]
  omega
theorem pQ(h:((((C.bytesR 1).length:Nat) : Int)==0)=true) : C.byteV=0:=by
  have hz:C.bytesR 1=[]:=List.eq_nil_of_length_eq_zero (by have:=ak h;omega)
  unfold ah.byteV
  rw[hz]
  rfl
def nu (w0:World)(m:Md)(A:Option Addr)(cp:Nat)(full:List Int)(g:Nat)(q:IntKind)(M x:Int)(C:ah)(w:World)(e:Ending)(w':World) : Prop:=e = .returned (.int q x)∧RC w0 m A cp full w' g C∧aE [g] w w'∧0≤x∧x<M
theorem dk(hC:RC w0 m A cp full w g C) :
    Calls Tryz.prog 167 #[vP g 0] w (nu w0 m A cp full g .u8 256 C.byteV (C.bytesC 1) w):=by
 refine en 12 Tryz.func167 rfl<|aq 1<|aL 1<|ax<|nc (eQ (n:=1) (by omega) hC) fun k l o d b c=>?_
 have q:=Nat.le_trans (ah.bytesR_le C 1) (RC.clen hC)
 refine ap 1<|sq<|az 3<|cb ((((C.bytesR 1).length:Int)==0)) (fun a=>?_) (fun a=>?_)
 have e:=ak a
 exact az 1<|bj<|rr (vB 0)<|⟨by rw[pQ a],b,c,l0 (RC.rng hC)⟩
 have e:=au a
 exact bz<|aq 1<|eF (aX.at_ (d _ _ (RC.rd b)) 0 (by omega)) fun f h i j r=>L0<|hM ((C.bytesR 1).length) 0 i (by omega)<|L0<|dC (p:=⟨f,h+0,none⟩) (v:=vB ((C.bytesR 1).getD 0 0)) j<|ap 1<|rt<|rr (vB ((C.bytesR 1).getD 0 0))<|⟨rfl,b,c,l0 (RC.rng hC)⟩
theorem pp(hk:k≤full.length)(hl:C.l=full.drop k)(h:(decide (n<0)||decide (((full.length:Nat) : Int)<n))=true) : C.wordsR n=c5 (C.bytesR (-1))∧C.wordsC n=C.bytesC (-1):=by
  have hb:C.wbad n=true:=by
    unfold ah.wbad
    simp only[Bool.or_eq_true,decide_eq_true_eq] at h ⊢
    rw[hl,List.length_drop]
    omega
  have hf:C.fails (-1)=true:=by
    unfold ah.fails
    simp
  constructor
  · unfold ah.wordsR ah.bytesR
    rw[hb,hf]
    rfl
  · unfold ah.wordsC
    rw[hb]
    rfl
theorem rz(hk:k≤full.length)(hl:C.l=full.drop k)(h:(decide (n<0)||decide (((full.length:Nat) : Int)<n))=false) : C.wordsR n=c5 (C.bytesR (n+n))∧C.wordsC n=C.bytesC (n+n):=by
  simp only[Bool.or_eq_false_iff,decide_eq_false_iff_not] at h
  by_cases hw:((C.l.length:Int)<n)
  · have hb:C.wbad n=true:=by
      unfold ah.wbad
      simp only[Bool.or_eq_true,decide_eq_true_eq]
      omega
    have hf:C.fails (-1)=true:=by
      unfold ah.fails
      simp
    have hf2:C.fails (n+n)=true:=by
      unfold ah.fails
      simp only[Bool.or_eq_true,decide_eq_true_eq]
      omega
    constructor
    · unfold ah.wordsR ah.bytesR
      rw[hb,hf2]
      rfl
    · unfold ah.wordsC
      rw[hb]
      unfold ah.bytesC
      rw[hf2,hf]
      rfl
  · have hb:C.wbad n=false:=by
      unfold ah.wbad
      simp only[Bool.or_eq_false_iff,decide_eq_false_iff_not]
      omega
    constructor
    · unfold ah.wordsR
      rw[hb,show 2*n=n+n by omega]
      rfl
    · unfold ah.wordsC
      rw[hb,show 2*n=n+n by omega]
      rfl
def sZ (w0:World)(m:Md)(A:Option Addr)(cp:Nat)(full:List Int)(g:Nat)(C:ah)(n:Int)(w:World)(e:Ending)(w':World) : Prop:=∃ v,e = .returned v∧iV w.heap.size w' v (C.wordsR n)∧RC w0 m A cp full w' g (C.wordsC n)∧aE [g] w w'
theorem ff(hn : -1048576≤n∧n≤1048576)(hC:RC w0 m A cp full w g C) :
    Calls Tryz.prog 174 #[vP g 0,vI n] w (sZ w0 m A cp full g C n w):=by
 have hC0:=hC
 obtain⟨hsrc,hU,hnew,⟨k,hB,hk,hl⟩,hlen⟩:=hC0
 refine en 25 Tryz.func174 rfl<|az 1<|sq<|aq 3<|ea 8 [7] 15 7 (decide (n<0)) (decide ((full.length:Int)<n)) (fun K i j=>?_) ?_
 have D:=of_decide_eq_false j
 exact Pl 4<|L1<|cS hB 0<|Pl 3<|ce i _ rfl
 refine nt<|cb (((decide (n<0))||(decide ((full.length:Int)<n)))) (fun a=>?_) (fun a=>?_)
 refine aq 1<|?_
 have l:=RC.upd hC (aE.refl [] _) av (aE.step hC.u (aE.refl [] _))
 refine ax<|nc (eQ (n:=-1) (by omega) l) fun E F G o b f=>?_
 have H:=Nat.le_trans (ah.bytesR_le C (-1)) (RC.clen hC)
 refine ax<|tv (tX (o _ _ (RC.rd b)) (by omega)) fun p q I r J L c=>ap 1<|bj<|rr (.slice p ((c5 (C.bytesR (-1))).length) q)<|?_
 have hw:=pp hk hl a
 exact⟨_,rfl,by rw[hw.1];exact(aW.weaken r f.size),by rw[hw.2];exact(RC.upd b c av (aE.step (RC.u b) c)),(aN f c)⟩
 have s:=(ci a).1
 have t:=(ci a).2
 have M:=of_decide_eq_false s
 have N:=of_decide_eq_false t
 refine bz<|aq 3<|be (n+n)<|?_
 have v:=RC.upd hC (aE.refl [] _) av (aE.step hC.u (aE.refl [] _))
 refine ax<|nc (eQ (n:=(n+n)) (by omega) v) fun O P Q x d h=>?_
 have R:=Nat.le_trans (ah.bytesR_le C (n+n)) (RC.clen hC)
 refine ax<|tv (tX (x _ _ (RC.rd d)) (by omega)) fun y z S B T U e=>ap 1<|rt<|rr (.slice y ((c5 (C.bytesR (n+n))).length) z)<|?_
 have hw:=rz hk hl a
 exact⟨_,rfl,by rw[hw.1];exact(aW.weaken B h.size),by rw[hw.2];exact(RC.upd d e av (aE.step (RC.u d) e)),(aN h e)⟩
theorem ql(h:((((C.wordsR 1).length:Nat) : Int)==0)=true) : C.wordV=0:=by
  have hz:C.wordsR 1=[]:=List.eq_nil_of_length_eq_zero (by have:=ak h;omega)
  unfold ah.wordV
  rw[hz]
  rfl
theorem ca(hC:RC w0 m A cp full w g C) :
    Calls Tryz.prog 170 #[vP g 0] w (nu w0 m A cp full g .u16 65536 C.wordV (C.wordsC 1) w):=by
 refine en 12 Tryz.func170 rfl<|aq 1<|aL 1<|ax<|lv (ff (n:=1) (by omega) hC) fun k l o d q r b c=>ap 1<|sq<|az 3<|cb ((((C.wordsR 1).length:Int)==0)) (fun a=>?_) (fun a=>?_)
 have e:=ak a
 exact az 1<|bj<|rr (vW 0)<|⟨by rw[ql a],b,c,bF (RC.rng hC)⟩
 have e:=au a
 exact bz<|aq 1<|eF (ez.at_ (d).rd 0 (by omega)) fun f h i j s=>L0<|hM ((C.wordsR 1).length) 0 i (by omega)<|L0<|dC (p:=⟨f,h+0,none⟩) (v:=vW ((C.wordsR 1).getD 0 0)) j<|ap 1<|rt<|rr (vW ((C.wordsR 1).getD 0 0))<|⟨rfl,b,c,bF (RC.rng hC)⟩
theorem eU{G:Prop}(h:RC w0 m A cp full w g C)(k:∀ x,C=x→RC w0 m A cp full w g x→G) : G:=k C rfl h
open Go.RowKit
theorem qk(hx:0≤x∧x<65536) : dy x=((decide (x≤4)||(decide (10≤x)&&decide (x≤18)))||x==20):=by
  unfold dy
  rw[Bool.eq_iff_iff]
  simp only[decide_eq_true_eq,List.mem_cons,List.not_mem_nil,or_false,Bool.or_eq_true,Bool.and_eq_true,beq_iff_eq]
  omega
theorem kj(hx:0≤x∧x<256) : da x=((((decide (1≤x)&&decide (x≤6))||x==8)||x==10)||x==11):=by
  unfold da
  rw[Bool.eq_iff_iff]
  simp only[decide_eq_true_eq,List.mem_cons,List.not_mem_nil,or_false,Bool.or_eq_true,Bool.and_eq_true,beq_iff_eq]
  omega
theorem vX(hx:0≤x∧x<65536) : Calls Tryz.prog 176 #[vW x] w (bW (.bool (dy x)) w):=by
 refine en 17 Tryz.func176 rfl<|aq 1<|aL 3<|cu 7 [5] 12 (((decide (x≤4))||((decide (10≤x))&&(decide (x≤18))))) (fun K b=>?_) ?_
 refine bl 5 ((decide (x≤4))) (fun a=>?_) (fun a=>?_)
 have c:=of_decide_eq_true a
 exact Pl 7<|ce b true (by rw[a];rfl)
 have c:=of_decide_eq_false a
 refine Pl 3<|cY 3 [8] 11 8 (decide (10≤x)) (decide (x≤18)) (fun K d e=>?_) ?_
 have g:=of_decide_eq_true e
 exact Pl 3<|ce d _ rfl
 exact Pl 1<|ce b ((decide (10≤x))&&(decide (x≤18))) (by rw[a];rfl)
 refine Pl 1<|ea 3 [13] 16 13 ((decide (x≤4))||((decide (10≤x))&&(decide (x≤18)))) (x==20) (fun K f h=>?_) ?_
 exact Pl 3<|ce f _ rfl
 refine ap 1<|rt<|rr (.bool (((decide (x≤4))||((decide (10≤x))&&(decide (x≤18))))||(x==20)))<|?_
 rw[qk hx]
 have hs:((decide (x≤4)||(decide (10≤x)&&decide (x≤18)))||x==20)=(((decide (x≤4))||((decide (10≤x))&&(decide (x≤18))))||(x==20)):=by(try simp only[Bool.true_or,Bool.false_or,Bool.true_and,Bool.false_and,Bool.or_true,Bool.or_false]);all_goals rfl
 rw[hs]
 exact⟨rfl,(aE.refl [] _)⟩
theorem s0(hx:0≤x∧x<256) : Calls Tryz.prog 165 #[vB x] w (bW (.bool (da x)) w):=by
 refine en 21 Tryz.func165 rfl<|aq 1<|aL 3<|cY 3 [5] 8 5 (decide (1≤x)) (decide (x≤6)) (fun K a b=>?_) ?_
 have f:=of_decide_eq_true b
 exact Pl 3<|ce a _ rfl
 refine Pl 1<|ea 3 [9] 12 9 ((decide (1≤x))&&(decide (x≤6))) (x==8) (fun K c g=>?_) ?_
 exact Pl 3<|ce c _ rfl
 refine Pl 1<|ea 3 [13] 16 13 (((decide (1≤x))&&(decide (x≤6)))||(x==8)) (x==10) (fun K d h=>?_) ?_
 exact Pl 3<|ce d _ rfl
 refine Pl 1<|ea 3 [17] 20 17 ((((decide (1≤x))&&(decide (x≤6)))||(x==8))||(x==10)) (x==11) (fun K e i=>?_) ?_
 exact Pl 3<|ce e _ rfl
 refine ap 1<|rt<|rr (.bool (((((decide (1≤x))&&(decide (x≤6)))||(x==8))||(x==10))||(x==11)))<|?_
 rw[kj hx]
 have hs:((((decide (1≤x)&&decide (x≤6))||x==8)||x==10)||x==11)=(((((decide (1≤x))&&(decide (x≤6)))||(x==8))||(x==10))||(x==11)):=by(try simp only[Bool.true_or,Bool.false_or,Bool.true_and,Bool.false_and,Bool.or_true,Bool.or_false]);all_goals rfl
 rw[hs]
 exact⟨rfl,(aE.refl [] _)⟩
variable {dir:Int}
theorem ge{sub v:Int}:fd dir sub v=if sub==1 then (v==0 || v==65280) else if sub==3 then v%256==0 else if dir==1&&(sub==2 || (decide (11≤sub)&&decide (sub≤18))) then true else v==0:=by
  unfold fd
  by_cases h1:sub=1
  · subst h1
    rfl
  by_cases h3:sub=3
  · subst h3
    rfl
  have e1:(sub==1)=false:=by simpa using h1
  have e3:(sub==3)=false:=by simpa using h3
  rw[e1,e3,Bool.and_comm]
  rfl
theorem vZ{sub v:Int}  (hv:0≤v∧v<65536) : Calls Tryz.prog 178 #[vI dir,vW sub,vW v] w (bW (.bool (fd dir sub v)) w):=by
 refine en 39 Tryz.func178 rfl<|az 1<|sq<|bk<|az 3<|cb ((sub==1)) (fun a=>?_) (fun a=>?_)
 have h:=ak a
 refine aq 3<|ea 3 [12] 15 12 (v==0) (v==65280) (fun K i j=>?_) ?_
 have r:=au j
 exact Pl 3<|ce i _ rfl
 refine ap 1<|rt<|br<|tr<|rr (.bool ((v==0)||(v==65280)))<|?_
 have hs:fd dir sub v=((v==0)||(v==65280)):=by
   rw[ge]
   (try simp only[a,bq,reduceIte])
   all_goals rfl
 rw[hs]
 exact⟨rfl,(aE.refl [] _)⟩
 have h:=au a
 refine az 3<|cb ((sub==3)) (fun b=>?_) (fun b=>?_)
 have k:=ak b
 refine aq 1<|L0<|Oe (vW (Int.tmod v 256)) (vW (v%256)) (congrArg (Value.int .u16) (Int.tmod_eq_emod_of_nonneg (by omega)))<|ap 2<|rt<|br<|tr<|rr (.bool ((v%256)==0))<|?_
 have hs:fd dir sub v=((v%256)==0):=by
   rw[ge]
   (try simp only[a,b,bq,reduceIte])
   all_goals rfl
 rw[hs]
 exact⟨rfl,(aE.refl [] _)⟩
 have k:=au b
 refine aq 3<|cu 11 [25] 36 (((dir==1)&&((sub==2)||((decide (11≤sub))&&(decide (sub≤18)))))) (fun K f=>?_) ?_
 refine bl 25 ((dir==1)) (fun c=>?_) (fun c=>?_)
 have l:=ak c
 refine Pl 3<|cu 7 [28] 35 (((sub==2)||((decide (11≤sub))&&(decide (sub≤18))))) (fun K g=>?_) ?_
 refine bl 28 ((sub==2)) (fun d=>?_) (fun d=>?_)
 have m:=ak d
 exact Pl 7<|ce g true (by rw[d];rfl)
 have m:=au d
 refine Pl 3<|cY 3 [31] 34 31 (decide (11≤sub)) (decide (sub≤18)) (fun K n o=>?_) ?_
 have s:=of_decide_eq_true o
 exact Pl 3<|ce n _ rfl
 exact Pl 1<|ce g ((decide (11≤sub))&&(decide (sub≤18))) (by rw[d];rfl)
 exact Pl 1<|ce f ((sub==2)||((decide (11≤sub))&&(decide (sub≤18)))) (by rw[c];rfl)
 have l:=au c
 exact Pl 11<|ce f false (by rw[c];rfl)
 refine ap 1<|cb (((dir==1)&&((sub==2)||((decide (11≤sub))&&(decide (sub≤18)))))) (fun e=>?_) (fun e=>?_)
 have p:=(aS e).1
 have q:=(aS e).2
 refine az 1<|rt<|br<|tr<|rr (.bool true)<|?_
 have hs:fd dir sub v=true:=by
   rw[ge]
   (try simp only[a,b,e,p,q,bq,reduceIte])
   all_goals rfl
 rw[hs]
 exact⟨rfl,(aE.refl [] _)⟩
 refine sk<|bn<|tn<|az 3<|rt<|rr (.bool (v==0))<|?_
 have hs:fd dir sub v=(v==0):=by
   rw[ge]
   (try simp only[a,b,e,bq,reduceIte])
   all_goals rfl
 rw[hs]
 exact⟨rfl,(aE.refl [] _)⟩
open Go.RowKit
theorem RC.lt(h:RC w0 m A cp full w g C) : g<w.heap.size:=by
  obtain⟨k,h1,_⟩:=h.cell
  exact ag h1
theorem RC.fld(h:RC w0 m A cp full w g C) : w.cell? ⟨g,3,none⟩=some (.int .i64 C.e):=by
  obtain⟨k,h1,_⟩:=h.cell
  rw[bR h1]
  rfl
theorem RC.safe(h:RC w0 m A cp full w g C)(D:List TypeId)(hD:194∉D) : bS true D [g] w:=by
  obtain⟨k,h1,_⟩:=h.cell
  exact bS.one h1 hD
variable {c:Int}
theorem qI(h:(((c==3)||(c==4))||(c==23))=true) : aZ 1 c C=some (c3 c C):=by
  unfold aZ
  by_cases h1:(c==3 || c==4)=true
  · rw[if_pos h1]
    rfl
  · rw[if_neg h1]
    have h2:c=23:=by
      simp only[Bool.or_eq_true,beq_iff_eq] at h h1
      omega
    subst h2
    rfl
theorem oI{m:Int}:((n%2==0&&decide (0<n))&&decide (n≤m))=ip n m:=by
  unfold ip
  rw[Bool.eq_iff_iff]
  simp only[Bool.and_eq_true,decide_eq_true_eq,beq_iff_eq]
  omega
theorem ox{k:Int}:(a==2*k+2)=(2+2*k==a):=by
  rw[Bool.eq_iff_iff]
  simp only[beq_iff_eq]
  omega
theorem dY:decide (0<x)=decide (1≤x):=by
  rw[Bool.eq_iff_iff]
  simp only[decide_eq_true_eq]
  omega
theorem jE{most:Int}(ha:0≤a∧a<65536)(hC:RC w0 m A cp full w g C) :
    Calls Tryz.prog 175 #[vP g 0,vW a,vI most] w (nu w0 m A cp full g .i64 65536 C.wordV (bB C a most) w):=by
 have hrng:=bF (RC.rng hC)
 refine en 26 Tryz.func175 rfl<|aq 1<|aL 1<|ax<|m3 (ca hC) fun q d e r=>be C.wordV<|ap 1<|aq 4<|cY 4 [14] 18 14 (decide (0<C.wordV)) (decide (C.wordV≤most)) (fun K f h=>?_) ?_
 have s:=of_decide_eq_true h
 exact Pl 4<|ce f _ rfl
 refine ax<|m2 (aR (((decide (0<C.wordV))&&(decide (C.wordV≤most)))) 5 d) fun i j k=>?_
 refine eU j fun x19 l c=>?_
 refine aL 3<|ax<|m1 (oB (a:=a) (n:=C.wordV) (w:=i) (by omega) (by omega)) fun t b=>?_
 refine ax<|m2 (aR ((cK a C.wordV)) 7 (RC.upd c b av (aE.step (RC.u c) b))) fun v o p=>db 2<|rt<|rr (vI C.wordV)<|?_
 subst l
 have e1:bB C a most=((C.wordsC 1).need (decide (0<C.wordV)&&decide (C.wordV≤most)) 5).need (cK a C.wordV) 7:=by unfold bB;rw[← dY]
 rw[e1]
 exact⟨rfl,o,(u1 e (u1 k (uz b p) im) im),hrng⟩
theorem aI.upd0{α:Type}  {e:TypeId}{sz:Nat}{R R':World→α→List Value→Prop}   {xs:List α}(h:aI m e sz R w v xs)(hR:∀ x cs,R w x cs→R' w x cs) : aI m e sz R' w v xs:=by
  obtain⟨A,c,rfl,h1,h2,h0,h3⟩:=h
  refine⟨A,c,rfl,h1,h2,h0,fun hp=>?_⟩
  obtain⟨b,off,cells,t,fr,rfl,hb,ht,hx⟩:=h3 hp
  exact⟨b,off,cells,t,fr,rfl,hb,ht,fun j x hj=>by obtain⟨cs,hl,hr,hc⟩:=hx j x hj;exact⟨cs,hl,hR _ _ hr,hc⟩⟩
def mu (v0:Value)(b:List Int)(w:World)(o:Obj)(cs:List Value) : Prop:=∃ A n c,cs=[.int .u8 o.id,.slice A n c]∧(∀ m' w',aX m' w' v0 b→aX m' w' (.slice A n c) o.value)∧B8 o.id
variable {b:List Int}{v0:Value}
theorem mu.ones(x:Obj)(cs:List Value)(h:mu v0 b w x cs) : ∀ v,v∈cs→v.oneCell'=true:=by
  obtain⟨A,n,c,rfl,h2,_⟩:=h
  intro u hu
  simp at hu
  rcases hu with rfl|rfl<;>rfl
def bE (v0:Value)(b:List Int)(w:World)(cs:List Value)(M:b7) : Prop :=
  ∃ vw vb vd vr vo,cs=fl M vw vb vd vr vo∧ez true w vw M.words∧iK true w vb M.bits∧(∀ m' w',aX m' w' v0 b→aX m' w' vd M.data)∧oD true w vr M.recs∧aI true 100 2 (mu v0 b) w vo M.objects∧io M
variable {M:b7}{cs:List Value}
theorem bE.rd(h:bE v0 b w cs M)(hb:aX m w v0 b) : aU false w cs M:=by
  obtain⟨vw,vb,vd,vr,vo,h0,h1,h2,h3,h4,h5,h6⟩:=h
  exact⟨vw,vb,vd,vr,vo,h0,aI.any h1 fun _ _ q=>q,aI.any h2 fun _ _ q=>q,aI.any (h3 _ _ hb) fun _ _ q=>q,aI.any h4 fun r cs ⟨v,a,b,c⟩=>⟨v,a,aI.any b fun _ _ q=>q,c⟩,aI.any h5 fun r cs ⟨A,n,k,a,b,c⟩=>⟨_,a,aI.any (b _ _ hb) fun _ _ q=>q,c⟩,h6⟩
theorem bE.rdt(h:bE v0 b w cs M)(hb:aX true w v0 b) : aU true w cs M:=by
  obtain⟨vw,vb,vd,vr,vo,h0,h1,h2,h3,h4,h5,h6⟩:=h
  exact⟨vw,vb,vd,vr,vo,h0,h1,h2,h3 _ _ hb,h4,aI.upd0 h5 fun r cs ⟨A,n,k,a,b,c⟩=>⟨_,a,b _ _ hb,c⟩,h6⟩
theorem bE.sub{v1:Value}{b1:List Int}    (h:bE v1 b1 w cs M)(hv:∀ m' w',aX m' w' v0 b→aX m' w' v1 b1) : bE v0 b w cs M:=by
  obtain⟨vw,vb,vd,vr,vo,h0,h1,h2,h3,h4,h5,h6⟩:=h
  exact⟨vw,vb,vd,vr,vo,h0,h1,h2,fun m' w' q=>h3 _ _ (hv _ _ q),h4,aI.upd0 h5 fun r cs ⟨A,n,k,a,b,c⟩=>⟨A,n,k,a,fun m' w' q=>b _ _ (hv _ _ q),c⟩,h6⟩
theorem bE.upd{w':World}   {S:List Nat}(h:bE v0 b w cs M)(hu:aE S w w')(hs:bS true er S w) : bE v0 b w' cs M:=by
  obtain⟨vw,vb,vd,vr,vo,h0,h1,h2,h3,h4,h5,h6⟩:=h
  exact⟨vw,vb,vd,vr,vo,h0,ez.upd' h1 hu (hs.sub (by decide)),iK.upd' h2 hu (hs.sub (by decide)),h3,oD.upd' h4 hu hs,aI.upd h5 hu (hs.sub (by decide)) (fun _ _ q=>q),h6⟩
theorem bE.zero(v0:Value)(b:List Int)(w:World) : bE v0 b w jt.toList b7.zero:=by
  obtain⟨vw,vb,vd,vr,vo,h0,h1,h2,h3,h4,h5,h6⟩:=aU.zero true w
  exact⟨_,_,_,_,_,rfl,aI.nil ..,aI.nil ..,(fun _ _ _=>aI.nil ..),aI.nil ..,aI.nil ..,h6⟩
theorem bE.size{cs:Array Value}  (h:bE v0 b w cs.toList M) : cs.size=22:=by
  obtain⟨vw,vb,vd,vr,vo,h0,_⟩:=h
  rw[← Array.length_toList,h0]
  rfl
theorem bE.one{w2:World}  {cs:Array Value}  (h:bE v0 b w cs.toList M)(hb:aX m w2 v0 b) : cs.all (·.oneCell')=true:=by
  obtain⟨vw,vb,vd,vr,vo,h0,h1,h2,h3,h4,h5,h6⟩:=h
  rw[← Array.all_toList,h0]
  obtain⟨_,_,rfl,_⟩:=h1
  obtain⟨_,_,rfl,_⟩:=h2
  obtain⟨_,_,rfl,_⟩:=h3 _ _ hb
  obtain⟨_,_,rfl,_⟩:=h4
  obtain⟨_,_,rfl,_⟩:=h5
  rfl
def cz (v0:Value)(b:List Int)(res:b7 × Int)(w:World)(e:Ending)(w':World) : Prop:=∃ cs,e = .returned (.tuple #[.agg cs,.int .i64 res.2])∧bE v0 b w' cs.toList res.1∧aE [] w w'
variable {W:World}
theorem cM{c:ah}  {cs:Array Value}(h0:c.endC.e=0)(h:bE v0 b W cs.toList M)(hu:aE [] w W) : cz v0 b (bp M c) w (.returned (.tuple #[.agg cs,.int .i64 0])) W:=by
  unfold bp
  rw[if_pos h0]
  exact⟨cs,rfl,h,hu⟩
theorem cn{c:ah}  (h0:¬ c.endC.e=0)(hu:aE [] w W) : cz v0 b (bp M c) w (.returned (.tuple #[.agg jt,.int .i64 c.endC.e])) W:=by
  unfold bp
  rw[if_neg h0]
  exact⟨jt,rfl,bE.zero ..,hu⟩
theorem bo(hu:aE [] w W) : cz v0 b (b7.zero,x) w (.returned (.tuple #[.agg jt,.int .i64 x])) W:=⟨jt,rfl,bE.zero ..,hu⟩
theorem kn(hcode:B8 c)(hsl:aX m w (.slice A b.length cp) b)(hb:b.length≤1048576) :
    Calls Tryz.prog 110 #[vI 0,vB c,.slice A b.length cp] w (cz (.slice A b.length cp) b (aj aZ 0 c b) w):=by
 obtain⟨hcode1,hcode2⟩:=hcode
 have hln:(b.length:Int)≤1048576:=by omega
 refine en 221 Tryz.func110 rfl<|sg<|aK mZ fun aF dP U J d=>ap 1<|sq<|az 6<|c0<|bz<|aq 2<|L0<|dF #[.slice A b.length cp,vI 0,.bool false,vI 0] fun q dQ g r i=>Pl 1<|aL 2<|aK mZ fun L dR f V cr=>aD V (mC c) fun aM E W=>?_
 refine nt<|?_
 have aO:=ud cr W f
 have N:=aN i aO
 have l:=aN d N
 have F:RC w _ A cp b aM q (ah.mk b false 0):=⟨hsl,l,(Nat.le_trans d.size g),⟨0,(ub aO r),Nat.zero_le _,rfl⟩,by omega⟩
 refine sn (fun x=>[(6,vP aF 0),(8,vP q 0),(9,vP L 0)]) (fun(x:ah × Array Value × b7) w'=>aE [q,L] aM w'∧RC w m A cp b w' q x.1∧w'.heap[L]? = some (.cells x.2.1 45 (0,0))∧bE (.slice A b.length cp) b w' x.2.1.toList x.2.2∧(aj aZ 0 c b=bp x.2.2 x.1)) ?_ ?_
 rintro⟨C,cs,M⟩ X ⟨aP,ct,cv,cw,cx⟩
 refine f5 [(6,vP aF 0),(8,vP q 0),(9,vP L 0)] ?_
 have aQ:RC w m A cp b X q C:=ct
 have cy:X.heap[L]? = some (.cells cs 45 (0,0)):=cv
 have Q:bE (.slice A b.length cp) b X cs.toList M:=cw
 have Y:=bE.size Q
 have aS:aj aZ 0 c b=bp M C:=cx
 refine aq 1<|ax<|m2 (ki aQ) fun dS Z a0=>nt<|sq<|aq 3<|L0<|dC (p:=⟨q,3,none⟩) (v:=vI C.endC.e) (RC.fld Z)<|ap 1<|?_
 have a1:=u1 aP a0 im
 have aU:=ut l a1 (ac (ni d.size g) (ac (ni (le d.size i.size) f) aA))
 refine cb ((C.endC.e != 0)) (fun a2=>?_) (fun a2=>?_)
 have a3:=ay a2
 refine sq<|Rg 7 (fun w'=>w'.cell? ⟨q,3,none⟩=some (vI C.endC.e)) fun dT R=>?_
 have aW:=RC.upd Z R av (aE.step (RC.u Z) R)
 refine bA (RC.fld aW) fun O=>Rt 0 O<|Rt 1 O<|Rt 2 O<|Rt 3 O<|Rl 4 O (fun _ hs=>hs)<|?_
 refine R0 5 rfl<|j5 (ub (ut N (aN a1 R) (ac (nr g) (ac (ni i.size f) aA))) J) mZ fun dU cA aY=>?_
 have b0:=ud aU (uz R aY) U
 refine bA (RC.fld (RC.upd aW aY (aa (Ne.symm (nb (ag J) lr g)) av) b0)) fun cB=>Rt 6 cB<|re<|tn<|bj<|c8 cA (vI C.endC.e)<|?_
 rw[aS]
 exact cn a3 b0
 have a3:=aJ a2
 refine bz<|sg<|?_
 refine L0<|cJ (hz:=(by rw[Y];exact b6)) (aV a0 (Ne.symm (nb (ag r) lr f)) cy)<|?_
 refine aD (hz:=(by rw[Y];exact b6)) (hv:=(bE.size Q)) (h1:=(bE.one Q hsl)) (ub (ut N a1 (ac (nr g) (ac (ni i.size f) aA))) J) (cs) fun dV cC b1=>ap 1<|rt<|eu 22 Y cC (vI 0)<|?_
 rw[aS]
 exact cM a3 (bE.upd Q (us a0 b1) (ai (RC.safe aQ _ (by decide)) (ai (aT (ub (ut N aP (ac (nr g) (ac (ni i.size f) aA))) J) (by decide)) aC))) (ud aU b1 U)
 refine bk<|az 15<|c0<|aq 3<|ea 3 [68] 71 68 (c==3) (c==4) (fun K cD cE=>?_) ?_
 have dW:=au cE
 exact Pl 3<|ce cD _ rfl
 refine ap 1<|cb (((c==3)||(c==4))) (fun k=>?_) (fun k=>?_)
 refine aq 1<|ax<|m3 (ca F) fun dX cF b2 dY=>Pl 1<|?_
 have S:=nb (ag r) lr f
 refine L0<|bD (aV b2 (Ne.symm S) E) 2 (mG c 0 ((ah.mk b false 0).wordV) 0 0 0 0 0 0 0 0 0 nS nS nS nS 0 0 0 0 0 nS) fun dZ b3 b4=>nt<|go<|Pl 2<|aH b3 2<|?_
 have b5:=us b2 b4
 have b8:=ut l b5 (ac (ni d.size g) (ac (ni (le d.size i.size) f) aA))
 refine ax<|m3 (jE (a:=(ah.mk b false 0).wordV) (most:=125) (by omega) (RC.upd cF b4 (aa S av) b8)) fun e0 cK b9 e1=>?_
 refine eU cK fun cL cS cT=>?_
 refine L0<|vm (((ah.mk b false 0).wordsC 1).wordV)<|Pl 1<|?_
 refine L0<|bD (aV b9 (Ne.symm S) b3) 3 (mG c 0 ((ah.mk b false 0).wordV) (((ah.mk b false 0).wordsC 1).wordV) 0 0 0 0 0 0 0 0 nS nS nS nS 0 0 0 0 0 nS) fun e2 cU ba=>nl<|bn<|?_
 have bb:=us b9 ba
 exact jn (cL,_,(b7.mk c 0 ((ah.mk b false 0).wordV) (((ah.mk b false 0).wordsC 1).wordV) 0 0 0 0 0 0 0 0 [] [] [] [] 0 0 0 0 0 [])) ⟨(ut b5 bb (ac im (ac im aA))),(RC.upd cT ba (aa S av) (ut b8 bb (ac (ni d.size g) (ac (ni (le d.size i.size) f) aA)))),cU,⟨_,_,_,_,_,rfl,aI.nil ..,aI.nil ..,(fun _ _ _=>aI.nil ..),aI.nil ..,aI.nil ..,(bT (by omega))⟩,by subst cS;unfold aj aZ bO c3 dc cG ck cH cI jQ;(try simp only[k,bq,cR,cN,cO,cQ,cP,reduceIte,oI,ox])<;>rfl⟩
 have z:=(ci k).1
 have B:=(ci k).2
 have e3:=au z
 have e4:=au B
 refine az 3<|cb ((c==6)) (fun o=>?_) (fun o=>?_)
 have cV:=ak o
 refine aq 1<|ax<|m3 (ca F) fun e5 cW bc e6=>Pl 1<|?_
 have T:=nb (ag r) lr f
 refine L0<|bD (aV bc (Ne.symm T) E) 2 (mG c 0 ((ah.mk b false 0).wordV) 0 0 0 0 0 0 0 0 0 nS nS nS nS 0 0 0 0 0 nS) fun e7 cX bd=>nt<|go<|Pl 1<|?_
 have bf:=us bc bd
 have bg:=ut l bf (ac (ni d.size g) (ac (ni (le d.size i.size) f) aA))
 refine ax<|m3 (ca (RC.upd cW bd (aa T av) bg)) fun e8 cY bh e9=>Pl 1<|?_
 refine L0<|bD (aV bh (Ne.symm T) cX) 4 (mG c 0 ((ah.mk b false 0).wordV) 0 (((ah.mk b false 0).wordsC 1).wordV) 0 0 0 0 0 0 0 nS nS nS nS 0 0 0 0 0 nS) fun eb d0 bi=>nl<|bn<|?_
 have bm:=us bh bi
 exact jn ((((ah.mk b false 0).wordsC 1).wordsC 1),_,(b7.mk c 0 ((ah.mk b false 0).wordV) 0 (((ah.mk b false 0).wordsC 1).wordV) 0 0 0 0 0 0 0 [] [] [] [] 0 0 0 0 0 [])) ⟨(ut bf bm (ac im (ac im aA))),(RC.upd cY bi (aa T av) (ut bg bm (ac (ni d.size g) (ac (ni (le d.size i.size) f) aA)))),d0,⟨_,_,_,_,_,rfl,aI.nil ..,aI.nil ..,(fun _ _ _=>aI.nil ..),aI.nil ..,aI.nil ..,(bT (by omega))⟩,by unfold aj aZ bO c3 dc cG ck cH cI jQ;(try simp only[k,z,B,o,bq,cR,cN,cO,cQ,cP,reduceIte,oI,ox])<;>rfl⟩
 have cV:=au o
 refine az 3<|cb ((c==16)) (fun s=>?_) (fun s=>?_)
 have d1:=ak s
 refine aq 1<|ax<|m3 (ca F) fun ec d2 a4 ed=>Pl 1<|?_
 have t:=nb (ag r) lr f
 refine L0<|bD (aV a4 (Ne.symm t) E) 2 (mG c 0 ((ah.mk b false 0).wordV) 0 0 0 0 0 0 0 0 0 nS nS nS nS 0 0 0 0 0 nS) fun ee bs a5=>aL 2<|aH bs 2<|?_
 have bt:=us a4 a5
 have bu:=ut l bt (ac (ni d.size g) (ac (ni (le d.size i.size) f) aA))
 refine ax<|m3 (jE (a:=(ah.mk b false 0).wordV) (most:=123) (by omega) (RC.upd d2 a5 (aa t av) bu)) fun ef d3 a6 eg=>?_
 refine eU d3 fun bv d4 d5=>?_
 refine L0<|vm (((ah.mk b false 0).wordsC 1).wordV)<|Pl 1<|?_
 refine L0<|bD (aV a6 (Ne.symm t) bs) 3 (mG c 0 ((ah.mk b false 0).wordV) (((ah.mk b false 0).wordsC 1).wordV) 0 0 0 0 0 0 0 0 nS nS nS nS 0 0 0 0 0 nS) fun eh d6 a7=>db 2<|c1<|aq 1<|?_
 have bw:=us a6 a7
 have bx:=ut bu bw (ac (ni d.size g) (ac (ni (le d.size i.size) f) aA))
 refine ax<|m3 (dk (RC.upd d5 a7 (aa t av) bx)) fun ei d7 a8 ej=>be bv.byteV<|Pl 1<|aL 3<|?_
 have bC:=aV a8 (Ne.symm t) d6
 refine aH bC 3<|be (((ah.mk b false 0).wordsC 1).wordV)<|be (2*(((ah.mk b false 0).wordsC 1).wordV))<|Pl 1<|ax<|m2 (aR ((bv.byteV==(2*(((ah.mk b false 0).wordsC 1).wordV)))) 5 d7) fun ek d8 a9=>?_
 refine eU d8 fun ab d9 da=>?_
 refine nt<|go<|Pl 2<|?_
 have bF:=aV a9 (Ne.symm t) bC
 refine aH bF 3<|be (((ah.mk b false 0).wordsC 1).wordV)<|ax<|lv (ff (n:=((ah.mk b false 0).wordsC 1).wordV) (by omega) da) fun dd de el bG em eo df bH=>Pl 1<|?_
 refine L0<|bD (aV bH (Ne.symm t) bF) 12 (mG c 0 ((ah.mk b false 0).wordV) (((ah.mk b false 0).wordsC 1).wordV) 0 0 0 0 0 0 0 0 (.slice dd ((ab.wordsR (((ah.mk b false 0).wordsC 1).wordV)).length) de) nS nS nS 0 0 0 0 0 nS) fun ep dg ad=>nl<|bn<|?_
 have bI:=ui a8 (ui a9 (us bH ad))
 exact jn ((ab.wordsC (((ah.mk b false 0).wordsC 1).wordV)),_,(b7.mk c 0 ((ah.mk b false 0).wordV) (((ah.mk b false 0).wordsC 1).wordV) 0 0 0 0 0 0 0 0 (ab.wordsR (((ah.mk b false 0).wordsC 1).wordV)) [] [] [] 0 0 0 0 0 [])) ⟨(ut bt (ut bw bI (ac im (ac im aA))) (ac im (ac im aA))),(RC.upd df ad (aa t av) (ut bx bI (ac (ni d.size g) (ac (ni (le d.size i.size) f) aA)))),dg,⟨_,_,_,_,_,rfl,((al bG ad (fun x hx=>(aa (fun e=>(aG (ag V) (le (le (le (le (le (le W.size a4.size) a5.size) a6.size) a7.size) a8.size) a9.size) bG) (e▸hx)) av)) (fun _ _ h=>h))).rd,aI.nil ..,(fun _ _ _=>aI.nil ..),aI.nil ..,aI.nil ..,(bT (by omega))⟩,by subst d9 d4;unfold aj aZ bO c3 dc cG ck cH cI jQ;(try simp only[k,z,B,o,s,bq,cR,cN,cO,cQ,cP,reduceIte,oI,ox])<;>rfl⟩
 have d1:=au s
 refine az 3<|cb ((c==22)) (fun D=>?_) (fun D=>?_)
 have dh:=ak D
 refine aq 1<|ax<|m3 (ca F) fun eq di bJ er=>Pl 1<|?_
 have G:=nb (ag r) lr f
 refine L0<|bD (aV bJ (Ne.symm G) E) 2 (mG c 0 ((ah.mk b false 0).wordV) 0 0 0 0 0 0 0 0 0 nS nS nS nS 0 0 0 0 0 nS) fun es dj bK=>aL 1<|?_
 have bL:=us bJ bK
 have bM:=ut l bL (ac (ni d.size g) (ac (ni (le d.size i.size) f) aA))
 refine ax<|m3 (ca (RC.upd di bK (aa G av) bM)) fun et dl bN ev=>Pl 1<|?_
 refine L0<|bD (aV bN (Ne.symm G) dj) 5 (mG c 0 ((ah.mk b false 0).wordV) 0 0 (((ah.mk b false 0).wordsC 1).wordV) 0 0 0 0 0 0 nS nS nS nS 0 0 0 0 0 nS) fun ew dm bP=>nt<|go<|Pl 1<|?_
 have bQ:=us bN bP
 have bR:=ut bM bQ (ac (ni d.size g) (ac (ni (le d.size i.size) f) aA))
 refine ax<|m3 (ca (RC.upd dl bP (aa G av) bR)) fun ex dn bS ey=>Pl 1<|?_
 refine L0<|bD (aV bS (Ne.symm G) dm) 6 (mG c 0 ((ah.mk b false 0).wordV) 0 0 (((ah.mk b false 0).wordsC 1).wordV) ((((ah.mk b false 0).wordsC 1).wordsC 1).wordV) 0 0 0 0 0 nS nS nS nS 0 0 0 0 0 nS) fun ez dp bU=>nl<|bn<|?_
 have bV:=us bS bU
 exact jn (((((ah.mk b false 0).wordsC 1).wordsC 1).wordsC 1),_,(b7.mk c 0 ((ah.mk b false 0).wordV) 0 0 (((ah.mk b false 0).wordsC 1).wordV) ((((ah.mk b false 0).wordsC 1).wordsC 1).wordV) 0 0 0 0 0 [] [] [] [] 0 0 0 0 0 [])) ⟨(ut bL (ut bQ bV (ac im (ac im aA))) (ac im (ac im aA))),(RC.upd dn bU (aa G av) (ut bR bV (ac (ni d.size g) (ac (ni (le d.size i.size) f) aA)))),dp,⟨_,_,_,_,_,rfl,aI.nil ..,aI.nil ..,(fun _ _ _=>aI.nil ..),aI.nil ..,aI.nil ..,(bT (by omega))⟩,by unfold aj aZ bO c3 dc cG ck cH cI jQ;(try simp only[k,z,B,o,s,D,bq,cR,cN,cO,cQ,cP,reduceIte,oI,ox])<;>rfl⟩
 have dh:=au D
 refine az 3<|cb ((c==23)) (fun H=>?_) (fun H=>?_)
 have dq:=ak H
 refine aq 1<|ax<|m3 (ca F) fun eA dr ae eB=>Pl 1<|?_
 have y:=nb (ag r) lr f
 refine L0<|bD (aV ae (Ne.symm y) E) 2 (mG c 0 ((ah.mk b false 0).wordV) 0 0 0 0 0 0 0 0 0 nS nS nS nS 0 0 0 0 0 nS) fun eC bW af=>aL 2<|aH bW 2<|?_
 have bX:=us ae af
 have bY:=ut l bX (ac (ni d.size g) (ac (ni (le d.size i.size) f) aA))
 refine ax<|m3 (jE (a:=(ah.mk b false 0).wordV) (most:=125) (by omega) (RC.upd dr af (aa y av) bY)) fun eD ds am eE=>?_
 refine eU ds fun j dt du=>?_
 refine L0<|vm (((ah.mk b false 0).wordsC 1).wordV)<|Pl 1<|?_
 refine L0<|bD (aV am (Ne.symm y) bW) 3 (mG c 0 ((ah.mk b false 0).wordV) (((ah.mk b false 0).wordsC 1).wordV) 0 0 0 0 0 0 0 0 nS nS nS nS 0 0 0 0 0 nS) fun eF dv an=>aL 1<|?_
 have bZ:=us am an
 have c2:=ut bY bZ (ac (ni d.size g) (ac (ni (le d.size i.size) f) aA))
 refine ax<|m3 (ca (RC.upd du an (aa y av) c2)) fun eG dw ao eH=>Pl 1<|?_
 refine L0<|bD (aV ao (Ne.symm y) dv) 7 (mG c 0 ((ah.mk b false 0).wordV) (((ah.mk b false 0).wordsC 1).wordV) 0 0 0 j.wordV 0 0 0 0 nS nS nS nS 0 0 0 0 0 nS) fun eI c4 ar=>aL 2<|aH c4 7<|?_
 have c5:=us ao ar
 have c6:=ut c2 c5 (ac (ni d.size g) (ac (ni (le d.size i.size) f) aA))
 refine ax<|m3 (jE (a:=j.wordV) (most:=121) (by omega) (RC.upd dw ar (aa y av) c6)) fun eJ dx c7 eK=>Pl 1<|aL 1<|ax<|m3 (dk dx) fun eL dy c9 eM=>be ((bB (j.wordsC 1) j.wordV 121).byteV)<|Pl 1<|aL 3<|be (2*((j.wordsC 1).wordV))<|Pl 1<|ax<|m2 (aR ((((bB (j.wordsC 1) j.wordV 121).byteV)==(2*((j.wordsC 1).wordV)))) 5 dy) fun eN dz cc=>?_
 refine eU dz fun aw dA dB=>?_
 refine nt<|go<|Pl 2<|ax<|lv (ff (n:=(j.wordsC 1).wordV) (by omega) dB) fun dD dE eO cd eP eQ dG dH=>Pl 1<|?_
 have cg:=u1 c7 (u1 c9 (u1 cc dH im) im) im
 refine L0<|bD (aV cg (Ne.symm y) c4) 12 (mG c 0 ((ah.mk b false 0).wordV) (((ah.mk b false 0).wordsC 1).wordV) 0 0 0 j.wordV 0 0 0 0 (.slice dD ((aw.wordsR ((j.wordsC 1).wordV)).length) dE) nS nS nS 0 0 0 0 0 nS) fun eR dI aB=>nl<|bn<|?_
 have ch:=us cg aB
 exact jn ((aw.wordsC ((j.wordsC 1).wordV)),_,(b7.mk c 0 ((ah.mk b false 0).wordV) (((ah.mk b false 0).wordsC 1).wordV) 0 0 0 j.wordV 0 0 0 0 (aw.wordsR ((j.wordsC 1).wordV)) [] [] [] 0 0 0 0 0 [])) ⟨(ut bX (ut bZ (ut c5 ch (ac im (ac im aA))) (ac im (ac im aA))) (ac im (ac im aA))),(RC.upd dG aB (aa y av) (ut c6 ch (ac (ni d.size g) (ac (ni (le d.size i.size) f) aA)))),dI,⟨_,_,_,_,_,rfl,((al cd aB (fun x hx=>(aa (fun e=>(aG (ag V) (le (le (le (le (le (le (le (le (le W.size ae.size) af.size) am.size) an.size) ao.size) ar.size) c7.size) c9.size) cc.size) cd) (e▸hx)) av)) (fun _ _ h=>h))).rd,aI.nil ..,(fun _ _ _=>aI.nil ..),aI.nil ..,aI.nil ..,(bT (by omega))⟩,by subst dA dt;unfold aj aZ bO c3 dc cG ck cH cI jQ;(try simp only[k,z,B,o,s,D,H,bq,cR,cN,cO,cQ,cP,reduceIte,oI,ox])<;>rfl⟩
 have dq:=au H
 refine aq 3<|cu 3 [168] 171 ((c==24)) (fun K cj=>?_) ?_
 refine bl 168 ((c==24)) (fun P=>?_) (fun P=>?_)
 have dJ:=ak P
 exact Pl 3<|ce cj true P
 have dJ:=au P
 exact Pl 3<|ce cj false P
 refine ap 1<|cb ((c==24)) (fun I=>?_) (fun I=>?_)
 have dK:=ak I
 refine go<|Pl 1<|ax<|m3 (ca F) fun eS dL cl eT=>Pl 1<|?_
 have cm:=nb (ag r) lr f
 refine L0<|bD (aV cl (Ne.symm cm) E) 2 (mG c 0 ((ah.mk b false 0).wordV) 0 0 0 0 0 0 0 0 0 nS nS nS nS 0 0 0 0 0 nS) fun eV dM co=>nl<|bn<|?_
 have cq:=us cl co
 exact jn (((ah.mk b false 0).wordsC 1),_,(b7.mk c 0 ((ah.mk b false 0).wordV) 0 0 0 0 0 0 0 0 0 [] [] [] [] 0 0 0 0 0 [])) ⟨cq,(RC.upd dL co (aa cm av) (ut l cq (ac (ni d.size g) (ac (ni (le d.size i.size) f) aA)))),dM,⟨_,_,_,_,_,rfl,aI.nil ..,aI.nil ..,(fun _ _ _=>aI.nil ..),aI.nil ..,aI.nil ..,(bT (by omega))⟩,by unfold aj aZ bO c3 dc cG ck cH cI jQ;(try simp only[k,z,B,o,s,D,H,I,bq,cR,cN,cO,cQ,cP,reduceIte,oI,ox])<;>rfl⟩
 have dK:=au I
 refine az 3<|cf I<|aq 1<|?_
 refine aD (ub N J) mZ fun eW dN dO=>ap 1<|rt<|br<|tr<|c8 dN (vI 4)<|?_
 exact cZ (by unfold aj aZ bO c3 dc cG ck cH cI jQ;(try simp only[k,z,B,o,s,D,H,I,bq,cR,cN,cO,cQ,cP,reduceIte,oI,ox])<;>rfl) (bo (ud l dO U))
theorem jW(hcode:B8 c)(hsl:aX m w (.slice A b.length cp) b)(hb:b.length≤1048576) :
    Calls Tryz.prog 110 #[vI 1,vB c,.slice A b.length cp] w (cz (.slice A b.length cp) b (aj aZ 1 c b) w):=by
 obtain⟨hcode1,hcode2⟩:=hcode
 have hln:(b.length:Int)≤1048576:=by omega
 refine en 221 Tryz.func110 rfl<|sg<|aK mZ fun a6 dq S F d=>ap 1<|sq<|az 6<|c0<|bz<|aq 2<|L0<|dF #[.slice A b.length cp,vI 0,.bool false,vI 0] fun k dr g r i=>Pl 1<|aL 2<|aK mZ fun G ds f T bN=>aD T (mC c) fun a7 H U=>?_
 refine nt<|?_
 have a8:=ud bN U f
 have I:=aN i a8
 have l:=aN d I
 have J:RC w _ A cp b a7 k (ah.mk b false 0):=⟨hsl,l,(Nat.le_trans d.size g),⟨0,(ub a8 r),Nat.zero_le _,rfl⟩,by omega⟩
 refine sn (fun x=>[(6,vP a6 0),(8,vP k 0),(9,vP G 0)]) (fun(x:ah × Array Value × b7) w'=>aE [k,G] a7 w'∧RC w m A cp b w' k x.1∧w'.heap[G]? = some (.cells x.2.1 45 (0,0))∧bE (.slice A b.length cp) b w' x.2.1.toList x.2.2∧(aj aZ 1 c b=bp x.2.2 x.1)) ?_ ?_
 rintro⟨C,cs,M⟩ V ⟨a9,bP,bQ,bR,bS⟩
 refine f5 [(6,vP a6 0),(8,vP k 0),(9,vP G 0)] ?_
 have ab:RC w m A cp b V k C:=bP
 have bU:V.heap[G]? = some (.cells cs 45 (0,0)):=bQ
 have O:bE (.slice A b.length cp) b V cs.toList M:=bR
 have W:=bE.size O
 have ad:aj aZ 1 c b=bp M C:=bS
 refine aq 1<|ax<|m2 (ki ab) fun dt X Y=>nt<|sq<|aq 3<|L0<|dC (p:=⟨k,3,none⟩) (v:=vI C.endC.e) (RC.fld X)<|ap 1<|?_
 have Z:=u1 a9 Y im
 have ae:=ut l Z (ac (ni d.size g) (ac (ni (le d.size i.size) f) aA))
 refine cb ((C.endC.e != 0)) (fun a0=>?_) (fun a0=>?_)
 have a1:=ay a0
 refine sq<|Rg 7 (fun w'=>w'.cell? ⟨k,3,none⟩=some (vI C.endC.e)) fun du P=>?_
 have af:=RC.upd X P av (aE.step (RC.u X) P)
 refine bA (RC.fld af) fun L=>Rt 0 L<|Rt 1 L<|Rt 2 L<|Rt 3 L<|Rl 4 L (fun _ hs=>hs)<|?_
 refine R0 5 rfl<|j5 (ub (ut I (aN Z P) (ac (nr g) (ac (ni i.size f) aA))) F) mZ fun dv bV am=>?_
 have an:=ud ae (uz P am) S
 refine bA (RC.fld (RC.upd af am (aa (Ne.symm (nb (ag F) lr g)) av) an)) fun bW=>Rt 6 bW<|re<|tn<|bj<|c8 bV (vI C.endC.e)<|?_
 rw[ad]
 exact cn a1 an
 have a1:=aJ a0
 refine bz<|sg<|?_
 refine L0<|cJ (hz:=(by rw[W];exact b6)) (aV Y (Ne.symm (nb (ag r) lr f)) bU)<|?_
 refine aD (hz:=(by rw[W];exact b6)) (hv:=(bE.size O)) (h1:=(bE.one O hsl)) (ub (ut I Z (ac (nr g) (ac (ni i.size f) aA))) F) (cs) fun dw bX ao=>ap 1<|rt<|eu 22 W bX (vI 0)<|?_
 rw[ad]
 exact cM a1 (bE.upd O (us Y ao) (ai (RC.safe ab _ (by decide)) (ai (aT (ub (ut I a9 (ac (nr g) (ac (ni i.size f) aA))) F) (by decide)) aC))) (ud ae ao S)
 refine bk<|aq 6<|ea 3 [35] 38 35 (c==3) (c==4) (fun K bY bZ=>?_) ?_
 have dx:=au bZ
 exact Pl 3<|ce bY _ rfl
 refine Pl 1<|ea 3 [39] 42 39 ((c==3)||(c==4)) (c==23) (fun K c1 ar=>?_) ?_
 have c2:=(ci ar).1
 have c4:=(ci ar).2
 have dy:=au c2
 have dz:=au c4
 exact Pl 3<|ce c1 _ rfl
 refine ap 2<|cb ((((c==3)||(c==4))||(c==23))) (fun j=>?_) (fun j=>?_)
 refine aq 1<|ax<|m3 (dk J) fun dA c5 aw dB=>be ((ah.mk b false 0).byteV)<|Pl 1<|aL 2<|L0<|Oe (vI (Int.tmod ((ah.mk b false 0).byteV) 2)) (vI (((ah.mk b false 0).byteV)%2)) (congrArg (Value.int .i64) (Int.tmod_eq_emod_of_nonneg (by omega)))<|Pl 2<|cY 3 [51] 54 51 ((((ah.mk b false 0).byteV)%2)==0) (decide (0<((ah.mk b false 0).byteV))) (fun K c6 c7=>?_) ?_
 have dD:=ak c7
 exact Pl 3<|ce c6 _ rfl
 refine Pl 1<|cY 3 [55] 58 55 (((((ah.mk b false 0).byteV)%2)==0)&&(decide (0<((ah.mk b false 0).byteV)))) (decide (((ah.mk b false 0).byteV)≤250)) (fun K c9 aB=>?_) ?_
 have cc:=(aS aB).1
 have cd:=(aS aB).2
 have dE:=ak cc
 have dG:=of_decide_eq_true cd
 exact Pl 3<|ce c9 _ rfl
 refine ax<|m2 (aR (((((((ah.mk b false 0).byteV)%2)==0)&&(decide (0<((ah.mk b false 0).byteV))))&&(decide (((ah.mk b false 0).byteV)≤250)))) 5 c5) fun dH cg aF=>?_
 refine eU cg fun x99 ch cj=>?_
 refine nt<|go<|Pl 2<|L0<|Oe (vI (IntKind.i64.wrap (Int.tdiv ((ah.mk b false 0).byteV) 2))) (vI (((ah.mk b false 0).byteV)/2)) (congrArg (Value.int .i64) (fa (by omega) (by omega)))<|ax<|lv (ff (n:=(((ah.mk b false 0).byteV)/2)) (by omega) cj) fun cl cm dI aM dJ dK co cq=>Pl 1<|?_
 have aO:=u1 aw (u1 aF cq im) im
 have aP:=nb (ag r) lr f
 refine L0<|bD (aV aO (Ne.symm aP) H) 12 (mG c 0 0 0 0 0 0 0 0 0 0 0 (.slice cl ((x99.wordsR (((ah.mk b false 0).byteV)/2)).length) cm) nS nS nS 0 0 0 0 0 nS) fun dL cr a2=>nl<|bn<|?_
 have aQ:=us aO a2
 exact jn ((x99.wordsC (((ah.mk b false 0).byteV)/2)),_,(b7.mk c 0 0 0 0 0 0 0 0 0 0 0 (x99.wordsR (((ah.mk b false 0).byteV)/2)) [] [] [] 0 0 0 0 0 [])) ⟨aQ,(RC.upd co a2 (aa aP av) (ut l aQ (ac (ni d.size g) (ac (ni (le d.size i.size) f) aA)))),cr,⟨_,_,_,_,_,rfl,((al aM a2 (fun x hx=>(aa (fun e=>(aG (ag T) (le (le U.size aw.size) aF.size) aM) (e▸hx)) av)) (fun _ _ h=>h))).rd,aI.nil ..,(fun _ _ _=>aI.nil ..),aI.nil ..,aI.nil ..,(bT (by omega))⟩,by subst ch;unfold aj  ;(try simp only[j,bq,cR,cN,cO,cQ,cP,reduceIte,oI,ox,qI j])<;>rfl⟩
 have s:=(ci j).1
 have t:=(ci j).2
 have y:=(ci s).1
 have z:=(ci s).2
 have q87aap:=au y
 have q87abp:=au z
 have dM:=au t
 refine aq 3<|sy 68 y<|ap 4<|cf z<|az 3<|cb ((c==6)) (fun o=>?_) (fun o=>?_)
 have ct:=ak o
 refine aq 1<|ax<|m3 (ca J) fun dN cv aU dO=>Pl 1<|?_
 have Q:=nb (ag r) lr f
 refine L0<|bD (aV aU (Ne.symm Q) H) 2 (mG c 0 ((ah.mk b false 0).wordV) 0 0 0 0 0 0 0 0 0 nS nS nS nS 0 0 0 0 0 nS) fun dP cw aW=>nt<|go<|Pl 1<|?_
 have aY:=us aU aW
 have b0:=ut l aY (ac (ni d.size g) (ac (ni (le d.size i.size) f) aA))
 refine ax<|m3 (ca (RC.upd cv aW (aa Q av) b0)) fun dQ cx b1 dR=>Pl 1<|?_
 refine L0<|bD (aV b1 (Ne.symm Q) cw) 4 (mG c 0 ((ah.mk b false 0).wordV) 0 (((ah.mk b false 0).wordsC 1).wordV) 0 0 0 0 0 0 0 nS nS nS nS 0 0 0 0 0 nS) fun dS cy b2=>nl<|bn<|?_
 have b3:=us b1 b2
 exact jn ((((ah.mk b false 0).wordsC 1).wordsC 1),_,(b7.mk c 0 ((ah.mk b false 0).wordV) 0 (((ah.mk b false 0).wordsC 1).wordV) 0 0 0 0 0 0 0 [] [] [] [] 0 0 0 0 0 [])) ⟨(ut aY b3 (ac im (ac im aA))),(RC.upd cx b2 (aa Q av) (ut b0 b3 (ac (ni d.size g) (ac (ni (le d.size i.size) f) aA)))),cy,⟨_,_,_,_,_,rfl,aI.nil ..,aI.nil ..,(fun _ _ _=>aI.nil ..),aI.nil ..,aI.nil ..,(bT (by omega))⟩,by unfold aj aZ bO c3 dc cG ck cH cI jQ;(try simp only[j,s,y,z,t,o,bq,cR,cN,cO,cQ,cP,reduceIte,oI,ox])<;>rfl⟩
 have ct:=au o
 refine az 3<|cb ((c==16)) (fun B=>?_) (fun B=>?_)
 have cA:=ak B
 refine aq 1<|ax<|m3 (ca J) fun dT cB b4 dU=>Pl 1<|?_
 have R:=nb (ag r) lr f
 refine L0<|bD (aV b4 (Ne.symm R) H) 2 (mG c 0 ((ah.mk b false 0).wordV) 0 0 0 0 0 0 0 0 0 nS nS nS nS 0 0 0 0 0 nS) fun dV b5 b8=>aL 2<|aH b5 2<|?_
 have b9:=us b4 b8
 have ba:=ut l b9 (ac (ni d.size g) (ac (ni (le d.size i.size) f) aA))
 refine ax<|m3 (jE (a:=(ah.mk b false 0).wordV) (most:=123) (by omega) (RC.upd cB b8 (aa R av) ba)) fun dW cC bb dX=>?_
 refine eU cC fun cD cE cF=>?_
 refine L0<|vm (((ah.mk b false 0).wordsC 1).wordV)<|Pl 1<|?_
 refine L0<|bD (aV bb (Ne.symm R) b5) 3 (mG c 0 ((ah.mk b false 0).wordV) (((ah.mk b false 0).wordsC 1).wordV) 0 0 0 0 0 0 0 0 nS nS nS nS 0 0 0 0 0 nS) fun dY cK bc=>db 2<|c0<|sk<|bn<|?_
 have bd:=us bb bc
 exact jn (cD,_,(b7.mk c 0 ((ah.mk b false 0).wordV) (((ah.mk b false 0).wordsC 1).wordV) 0 0 0 0 0 0 0 0 [] [] [] [] 0 0 0 0 0 [])) ⟨(ut b9 bd (ac im (ac im aA))),(RC.upd cF bc (aa R av) (ut ba bd (ac (ni d.size g) (ac (ni (le d.size i.size) f) aA)))),cK,⟨_,_,_,_,_,rfl,aI.nil ..,aI.nil ..,(fun _ _ _=>aI.nil ..),aI.nil ..,aI.nil ..,(bT (by omega))⟩,by subst cE;unfold aj aZ bO c3 dc cG ck cH cI jQ;(try simp only[j,s,y,z,t,o,B,bq,cR,cN,cO,cQ,cP,reduceIte,oI,ox])<;>rfl⟩
 have cA:=au B
 refine az 3<|cb ((c==22)) (fun D=>?_) (fun D=>?_)
 have cL:=ak D
 refine aq 1<|ax<|m3 (ca J) fun dZ cS bf e0=>Pl 1<|?_
 have E:=nb (ag r) lr f
 refine L0<|bD (aV bf (Ne.symm E) H) 2 (mG c 0 ((ah.mk b false 0).wordV) 0 0 0 0 0 0 0 0 0 nS nS nS nS 0 0 0 0 0 nS) fun e1 cT bg=>aL 1<|?_
 have bh:=us bf bg
 have bi:=ut l bh (ac (ni d.size g) (ac (ni (le d.size i.size) f) aA))
 refine ax<|m3 (ca (RC.upd cS bg (aa E av) bi)) fun e2 cU bm e3=>Pl 1<|?_
 refine L0<|bD (aV bm (Ne.symm E) cT) 5 (mG c 0 ((ah.mk b false 0).wordV) 0 0 (((ah.mk b false 0).wordsC 1).wordV) 0 0 0 0 0 0 nS nS nS nS 0 0 0 0 0 nS) fun e4 cV bs=>nt<|go<|Pl 1<|?_
 have bt:=us bm bs
 have bu:=ut bi bt (ac (ni d.size g) (ac (ni (le d.size i.size) f) aA))
 refine ax<|m3 (ca (RC.upd cU bs (aa E av) bu)) fun e5 cW bv e6=>Pl 1<|?_
 refine L0<|bD (aV bv (Ne.symm E) cV) 6 (mG c 0 ((ah.mk b false 0).wordV) 0 0 (((ah.mk b false 0).wordsC 1).wordV) ((((ah.mk b false 0).wordsC 1).wordsC 1).wordV) 0 0 0 0 0 nS nS nS nS 0 0 0 0 0 nS) fun e7 cX bw=>nl<|bn<|?_
 have bx:=us bv bw
 exact jn (((((ah.mk b false 0).wordsC 1).wordsC 1).wordsC 1),_,(b7.mk c 0 ((ah.mk b false 0).wordV) 0 0 (((ah.mk b false 0).wordsC 1).wordV) ((((ah.mk b false 0).wordsC 1).wordsC 1).wordV) 0 0 0 0 0 [] [] [] [] 0 0 0 0 0 [])) ⟨(ut bh (ut bt bx (ac im (ac im aA))) (ac im (ac im aA))),(RC.upd cW bw (aa E av) (ut bu bx (ac (ni d.size g) (ac (ni (le d.size i.size) f) aA)))),cX,⟨_,_,_,_,_,rfl,aI.nil ..,aI.nil ..,(fun _ _ _=>aI.nil ..),aI.nil ..,aI.nil ..,(bT (by omega))⟩,by unfold aj aZ bO c3 dc cG ck cH cI jQ;(try simp only[j,s,y,z,t,o,B,D,bq,cR,cN,cO,cQ,cP,reduceIte,oI,ox])<;>rfl⟩
 have cL:=au D
 refine az 3<|cf t<|aq 3<|cu 3 [168] 171 (false) (fun K bB=>?_) ?_
 refine bl 168 ((c==24)) (fun a3=>?_) (fun a3=>?_)
 have d0:=ak a3
 exact Pl 3<|ce bB false rfl
 have d0:=au a3
 exact Pl 3<|ce bB false rfl
 refine ap 1<|c0<|az 3<|cb ((c==24)) (fun N=>?_) (fun N=>?_)
 have d1:=ak N
 refine aq 1<|ax<|m3 (ca J) fun e8 d2 bC e9=>be ((ah.mk b false 0).wordV)<|Pl 1<|aL 2<|L0<|Oe (vI (Int.tmod ((ah.mk b false 0).wordV) 2)) (vI (((ah.mk b false 0).wordV)%2)) (congrArg (Value.int .i64) (Int.tmod_eq_emod_of_nonneg (by omega)))<|Pl 2<|cY 3 [185] 188 185 ((((ah.mk b false 0).wordV)%2)==0) (decide (2≤((ah.mk b false 0).wordV))) (fun K d3 d4=>?_) ?_
 have eb:=ak d4
 exact Pl 3<|ce d3 _ rfl
 refine Pl 1<|cY 3 [189] 192 189 (((((ah.mk b false 0).wordV)%2)==0)&&(decide (2≤((ah.mk b false 0).wordV)))) (decide (((ah.mk b false 0).wordV)≤64)) (fun K d5 bF=>?_) ?_
 have d6:=(aS bF).1
 have d7:=(aS bF).2
 have ec:=ak d6
 have ed:=of_decide_eq_true d7
 exact Pl 3<|ce d5 _ rfl
 refine ax<|m2 (aR (((((((ah.mk b false 0).wordV)%2)==0)&&(decide (2≤((ah.mk b false 0).wordV))))&&(decide (((ah.mk b false 0).wordV)≤64)))) 5 d2) fun ee d8 bG=>?_
 refine eU d8 fun q d9 da=>?_
 refine aL 1<|ax<|m3 (ca da) fun ef dd bH eg=>be q.wordV<|Pl 1<|aL 3<|be (2*q.wordV)<|be ((2*q.wordV)+2)<|Pl 1<|ax<|m2 (aR ((((ah.mk b false 0).wordV)==((2*q.wordV)+2))) 5 dd) fun eh de bI=>?_
 refine eU de fun a4 df dg=>?_
 refine nt<|go<|Pl 2<|ax<|lv (ff (n:=q.wordV) (by omega) dg) fun dh di ei bJ ej ek dj dl=>Pl 1<|?_
 have bK:=u1 bC (u1 bG (u1 bH (u1 bI dl im) im) im) im
 have bL:=nb (ag r) lr f
 refine L0<|bD (aV bK (Ne.symm bL) H) 12 (mG c 0 0 0 0 0 0 0 0 0 0 0 (.slice dh ((a4.wordsR q.wordV).length) di) nS nS nS 0 0 0 0 0 nS) fun el dm a5=>nl<|bn<|?_
 have bM:=us bK a5
 exact jn ((a4.wordsC q.wordV),_,(b7.mk c 0 0 0 0 0 0 0 0 0 0 0 (a4.wordsR q.wordV) [] [] [] 0 0 0 0 0 [])) ⟨bM,(RC.upd dj a5 (aa bL av) (ut l bM (ac (ni d.size g) (ac (ni (le d.size i.size) f) aA)))),dm,⟨_,_,_,_,_,rfl,((al bJ a5 (fun x hx=>(aa (fun e=>(aG (ag T) (le (le (le (le U.size bC.size) bG.size) bH.size) bI.size) bJ) (e▸hx)) av)) (fun _ _ h=>h))).rd,aI.nil ..,(fun _ _ _=>aI.nil ..),aI.nil ..,aI.nil ..,(bT (by omega))⟩,by subst df d9;unfold aj aZ bO c3 dc cG ck cH cI jQ;(try simp only[j,s,y,z,t,o,B,D,N,bq,cR,cN,cO,cQ,cP,reduceIte,oI,ox])<;>rfl⟩
 have d1:=au N
 refine aq 1<|?_
 refine aD (ub I F) mZ fun em dn dp=>ap 1<|rt<|br<|tr<|c8 dn (vI 4)<|?_
 exact cZ (by unfold aj aZ bO c3 dc cG ck cH cI jQ;(try simp only[j,s,y,z,t,o,B,D,N,bq,cR,cN,cO,cQ,cP,reduceIte,oI,ox])<;>rfl) (bo (ud l dp S))
theorem jS(hcode:B8 c)(hsl:aX m w (.slice A b.length cp) b)(hb:b.length≤1048576)(hd:¬ (dir=0∨dir=1)) :
    Calls Tryz.prog 110 #[vI dir,vB c,.slice A b.length cp] w (cz (.slice A b.length cp) b (aj aZ dir c b) w):=by
 obtain⟨hcode1,hcode2⟩:=hcode
 have hln:(b.length:Int)≤1048576:=by omega
 have e0:(dir != 0)=true:=by simp;omega
 have e1:(dir != 1)=true:=by simp;omega
 refine en 221 Tryz.func110 rfl<|sg<|aK mZ fun g h a d e=>ap 1<|sq<|aq 3<|sy 18 e0<|Pl 3<|nl<|tn<|ct e1<|aq 1<|aD d mZ fun i dB f=>ap 1<|bj<|c8 dB (vI 1)<|?_
 exact cZ (by unfold aj aZ bO c3 dc cG ck cH cI jQ;(try simp only[e0,e1,bq,cR,cN,cO,cQ,cP,reduceIte,hd,oI,ox])<;>rfl) (bo (ud e f a))
open Go.RowKit
def e8 (dir:Int)(C:ah) : ah:=(C.wordsC 1).need (dy C.wordV&&((C.wordV != 4)||(dir==0))) 8
theorem iR:e8 0 C=(C.wordsC 1).need (dy C.wordV) 8:=by
  unfold e8
  rw[show((0:Int)==0)=true from rfl,Bool.or_true,Bool.and_true]
theorem iQ:e8 1 C=(C.wordsC 1).need (dy C.wordV&&(C.wordV != 4)) 8:=by
  unfold e8
  rw[show((1:Int)==0)=false from rfl,Bool.or_false]
def du (dir c:Int)(C:ah) : ah × b7 :=
  if C.wordV==0 then ((iJ (e8 dir C)).wordsC (((e8 dir C).l.length:Int)/2),{ b7.zero with code:=c,sub:=C.wordV,words:=(iJ (e8 dir C)).wordsR (((e8 dir C).l.length:Int)/2) })
  else (((e8 dir C).wordsC 1).need (fd dir C.wordV (e8 dir C).wordV) 6,{ b7.zero with code:=c,sub:=C.wordV,words:=[(e8 dir C).wordV] })
def cT (c:Int)(C:ah) : ah × b7 :=
  if c==7 then (C.bytesC 1,{ b7.zero with code:=c,value:=C.byteV })
  else if c==11 then ((dp C).wordsC 1,{ b7.zero with code:=c,status:=C.wordV,events:=(dp C).wordV })
  else if c==12 then ((gx C).bytesC (C.byteV-6),{ b7.zero with code:=c,status:=(fW C 6 70).wordV,events:=(dp (fW C 6 70)).wordV,messages:=((dp (fW C 6 70)).wordsC 1).wordV,data:=(gx C).bytesR (C.byteV-6) })
  else ((fW C 1 251).bytesC C.byteV,{ b7.zero with code:=c,data:=(fW C 1 251).bytesR C.byteV })
def bK (dir c:Int)(C:ah) : Option (ah × b7) :=
  if ((((c != 7)&&(c != 8))&&(c != 11))&&(c != 12))&&(c != 17) then none
  else if c==8 then some (du dir c C)
  else if dir==0 then some (C,{ b7.zero with code:=c })
  else some (cT c C)
theorem jT(hcode:B8 c)(hsl:aX m w (.slice A b.length cp) b)(hb:b.length≤1048576) :
    Calls Tryz.prog 111 #[vI 0,vB c,.slice A b.length cp] w (cz (.slice A b.length cp) b (aj bK 0 c b) w):=by
 obtain⟨hcode1,hcode2⟩:=hcode
 have hln:(b.length:Int)≤1048576:=by omega
 refine en 197 Tryz.func111 rfl<|sg<|aK mZ fun ab cD L t d=>ap 1<|sq<|az 6<|c0<|bz<|sq<|aq 3<|cY 3 [24] 27 24 (c != 7) (c != 8) (fun K bu bv=>?_) ?_
 have cE:=ay bv
 exact Pl 3<|ce bu _ rfl
 refine Pl 1<|cY 3 [28] 31 28 ((c != 7)&&(c != 8)) (c != 11) (fun K bw ad=>?_) ?_
 have bB:=(aS ad).1
 have bC:=(aS ad).2
 have cF:=ay bB
 have cG:=ay bC
 exact Pl 3<|ce bw _ rfl
 refine Pl 1<|cY 3 [32] 35 32 (((c != 7)&&(c != 8))&&(c != 11)) (c != 12) (fun K bF ae=>?_) ?_
 have af:=(aS ae).1
 have bG:=(aS ae).2
 have bH:=(aS af).1
 have bI:=(aS af).2
 have q19aap:=ay bH
 have q19abp:=ay bI
 have cH:=ay bG
 exact Pl 3<|ce bF _ rfl
 refine Pl 1<|cY 3 [36] 39 36 ((((c != 7)&&(c != 8))&&(c != 11))&&(c != 12)) (c != 17) (fun K bJ am=>?_) ?_
 have an:=(aS am).1
 have bL:=(aS am).2
 have ao:=(aS an).1
 have bM:=(aS an).2
 have q21aaa:=(aS ao).1
 have q21aab:=(aS ao).2
 have q21aaap:=ay q21aaa
 have q21aabp:=ay q21aab
 have q21abp:=ay bM
 have cI:=ay bL
 exact Pl 3<|ce bJ _ rfl
 refine nt<|cb ((((((c != 7)&&(c != 8))&&(c != 11))&&(c != 12))&&(c != 17))) (fun o=>?_) (fun o=>?_)
 have N:=(aS o).1
 have ar:=(aS o).2
 have O:=(aS N).1
 have aw:=(aS N).2
 have q23aaa:=(aS O).1
 have q23aab:=(aS O).2
 have q23aaaa:=(aS q23aaa).1
 have q23aaab:=(aS q23aaa).2
 have q23aaaap:=ay q23aaaa
 have q23aaabp:=ay q23aaab
 have q23aabp:=ay q23aab
 have q23abp:=ay aw
 have cK:=ay ar
 refine aq 1<|aD t mZ fun cL bN bO=>ap 1<|bj<|c8 bN (vI 4)<|?_
 exact cZ (by unfold aj bK du cT;(try simp only[o,N,O,q23aaa,q23aaaa,q23aaab,q23aab,aw,ar,bq,cR,cN,cO,cQ,cP,reduceIte,iR,iQ])<;>rfl) (bo (ud d bO L))
 refine bz<|aq 2<|L0<|dF #[.slice A b.length cp,vI 0,.bool false,vI 0] fun i cU f P j=>Pl 1<|aL 2<|aK mZ fun q cV g Q bP=>aD Q (mC c) fun aB aM R=>?_
 refine nt<|?_
 have aO:=ud bP R g
 have E:=aN j aO
 have S:=aN d E
 have aP:RC w _ A cp b aB i (ah.mk b false 0):=⟨hsl,S,(Nat.le_trans d.size f),⟨0,(ub aO P),Nat.zero_le _,rfl⟩,by omega⟩
 refine sn (fun x=>[(6,vP ab 0),(7,vI 0),(8,vP i 0),(9,vP q 0)]) (fun(x:ah × Array Value × b7) w'=>aE [i,q] aB w'∧RC w m A cp b w' i x.1∧w'.heap[q]? = some (.cells x.2.1 45 (0,0))∧bE (.slice A b.length cp) b w' x.2.1.toList x.2.2∧(aj bK 0 c b=bp x.2.2 x.1)) ?_ ?_
 rintro⟨C,cs,M⟩ T ⟨aQ,bQ,bR,bS,bU⟩
 refine f5 [(6,vP ab 0),(7,vI 0),(8,vP i 0),(9,vP q 0)] ?_
 have aU:RC w m A cp b T i C:=bQ
 have bV:T.heap[q]? = some (.cells cs 45 (0,0)):=bR
 have F:bE (.slice A b.length cp) b T cs.toList M:=bS
 have U:=bE.size F
 have aW:aj bK 0 c b=bp M C:=bU
 refine aq 1<|ax<|m2 (ki aU) fun cW V W=>nt<|sq<|aq 3<|L0<|dC (p:=⟨i,3,none⟩) (v:=vI C.endC.e) (RC.fld V)<|ap 1<|?_
 have X:=u1 aQ W im
 have aY:=ut S X (ac (ni d.size f) (ac (ni (le d.size j.size) g) aA))
 refine cb ((C.endC.e != 0)) (fun Y=>?_) (fun Y=>?_)
 have Z:=ay Y
 refine sq<|Rg 7 (fun w'=>w'.cell? ⟨i,3,none⟩=some (vI C.endC.e)) fun cX G=>?_
 have aZ:=RC.upd V G av (aE.step (RC.u V) G)
 refine bA (RC.fld aZ) fun y=>Rt 0 y<|Rt 1 y<|Rt 2 y<|Rt 3 y<|Rl 4 y (fun _ hs=>hs)<|?_
 refine R0 5 rfl<|j5 (ub (ut E (aN X G) (ac (nr f) (ac (ni j.size g) aA))) t) mZ fun d0 bW b0=>?_
 have b1:=ud aY (uz G b0) L
 refine bA (RC.fld (RC.upd aZ b0 (aa (Ne.symm (nb (ag t) lr f)) av) b1)) fun bX=>Rt 6 bX<|re<|tn<|bj<|c8 bW (vI C.endC.e)<|?_
 rw[aW]
 exact cn Z b1
 have Z:=aJ Y
 refine bz<|sg<|?_
 refine L0<|cJ (hz:=(by rw[U];exact b6)) (aV W (Ne.symm (nb (ag P) lr g)) bV)<|?_
 refine aD (hz:=(by rw[U];exact b6)) (hv:=(bE.size F)) (h1:=(bE.one F hsl)) (ub (ut E X (ac (nr f) (ac (ni j.size g) aA))) t) (cs) fun d1 bY b2=>ap 1<|rt<|eu 22 U bY (vI 0)<|?_
 rw[aW]
 exact cM Z (bE.upd F (us W b2) (ai (RC.safe aU _ (by decide)) (ai (aT (ub (ut E aQ (ac (nr f) (ac (ni j.size g) aA))) t) (by decide)) aC))) (ud aY b2 L)
 refine bk<|az 3<|cb ((c==8)) (fun r=>?_) (fun r=>?_)
 have bZ:=ak r
 refine aq 1<|ax<|m3 (ca aP) fun d2 c2 H d3=>Pl 1<|?_
 have k:=nb (ag P) lr g
 refine L0<|bD (aV H (Ne.symm k) aM) 8 (mG c 0 0 0 0 0 0 0 ((ah.mk b false 0).wordV) 0 0 0 nS nS nS nS 0 0 0 0 0 nS) fun c3 a0 a1=>aL 1<|aH a0 8<|ax<|m1 (vX (x:=(ah.mk b false 0).wordV) (w:=c3) (by omega)) fun d4 z=>Pl 1<|aL 3<|cu 8 [72] 80 ((dy ((ah.mk b false 0).wordV))) (fun K b3=>?_) ?_
 refine bl 72 ((dy ((ah.mk b false 0).wordV))) (fun a2=>?_) (fun a2=>?_)
 refine Pl 1<|?_
 refine L1<|cS (ub z a0) 8<|Pl 2<|cu 3 [76] 79 (true) (fun K b4=>?_) ?_
 refine bl 76 ((((ah.mk b false 0).wordV)!=4)) (fun a3=>?_) (fun a3=>?_)
 have c4:=ay a3
 exact Pl 3<|ce b4 true rfl
 have c4:=aJ a3
 exact Pl 3<|ce b4 true rfl
 exact Pl 1<|ce b3 true a2
 exact Pl 8<|ce b3 false a2
 have b5:=aN a1 z
 have a4:=us H b5
 have b8:=ut S a4 (ac (ni d.size f) (ac (ni (le d.size j.size) g) aA))
 refine ax<|m2 (aR ((dy ((ah.mk b false 0).wordV))) 8 (RC.upd c2 b5 (aa k av) b8)) fun d5 c5 s=>?_
 refine eU c5 fun a b9 B=>?_
 refine nt<|sq<|aq 1<|?_
 have a5:=aV (uz z s) (Ne.symm k) a0
 refine aH a5 8<|ap 1<|?_
 have ba:=ud b8 s (le d.size f)
 refine cb ((((ah.mk b false 0).wordV)==0)) (fun D=>?_) (fun D=>?_)
 have c6:=ak D
 refine aq 1<|ax<|m1 (gC B) fun d6 I=>?_
 have d7:=RC.clen B
 refine Pl 1<|aL 2<|L0<|Oe (vI (Int.tmod (a.l.length:Int) 2)) (vI ((a.l.length:Int)%2)) (congrArg (Value.int .i64) (Int.tmod_eq_emod_of_nonneg (by omega)))<|Pl 2<|cY 3 [91] 94 91 (((a.l.length:Int)%2)==0) (decide (2≤(a.l.length:Int))) (fun K c7 c9=>?_) ?_
 have d8:=ak c9
 exact Pl 3<|ce c7 _ rfl
 refine Pl 1<|cY 3 [95] 98 95 ((((a.l.length:Int)%2)==0)&&(decide (2≤(a.l.length:Int)))) (decide ((a.l.length:Int)≤250)) (fun K cc bb=>?_) ?_
 have cd:=(aS bb).1
 have cf:=(aS bb).2
 have d9:=ak cd
 have da:=of_decide_eq_true cf
 exact Pl 3<|ce cc _ rfl
 refine ax<|m2 (aR ((((((a.l.length:Int)%2)==0)&&(decide (2≤(a.l.length:Int))))&&(decide ((a.l.length:Int)≤250)))) 5 (RC.upd B I av (aE.step (RC.u B) I))) fun db cg bc=>?_
 refine eU cg fun a6 ch ci=>?_
 refine aL 2<|L0<|Oe (vI (IntKind.i64.wrap (Int.tdiv (a.l.length:Int) 2))) (vI ((a.l.length:Int)/2)) (congrArg (Value.int .i64) (fa (by omega) (by omega)))<|ax<|lv (ff (n:=((a.l.length:Int)/2)) (by omega) ci) fun cj ck dc bd dd de cl co=>Pl 1<|?_
 have be:=uz I (u1 bc co im)
 refine L0<|bD (aV be (Ne.symm k) a5) 12 (mG c 0 0 0 0 0 0 0 ((ah.mk b false 0).wordV) 0 0 0 (.slice cj ((a6.wordsR ((a.l.length:Int)/2)).length) ck) nS nS nS 0 0 0 0 0 nS) fun df cq a7=>nt<|xt<|tx<|bx<|?_
 have bf:=us be a7
 exact jn ((a6.wordsC ((a.l.length:Int)/2)),_,(b7.mk c 0 0 0 0 0 0 0 ((ah.mk b false 0).wordV) 0 0 0 (a6.wordsR ((a.l.length:Int)/2)) [] [] [] 0 0 0 0 0 [])) ⟨(ut a4 (ui s bf) (ac im (ac im aA))),(RC.upd cl a7 (aa k av) (ut ba bf (ac (ni d.size f) (ac (ni (le d.size j.size) g) aA)))),cq,⟨_,_,_,_,_,rfl,((al bd a7 (fun x hx=>(aa (fun e=>(aG (ag Q) (le (le (le (le (le (le R.size H.size) a1.size) z.size) s.size) I.size) bc.size) bd) (e▸hx)) av)) (fun _ _ h=>h))).rd,aI.nil ..,(fun _ _ _=>aI.nil ..),aI.nil ..,aI.nil ..,(bT (by omega))⟩,by subst ch b9;unfold aj bK du cT;(try simp only[o,r,D,bq,cR,cN,cO,cQ,cP,reduceIte,iR,iQ])<;>rfl⟩
 have c6:=au D
 refine bz<|aq 1<|ax<|m3 (ca B) fun cr bg a8 dg=>Pl 1<|aL 3<|?_
 have bh:=aV a8 (Ne.symm k) a5
 refine aH bh 8<|Pl 1<|ax<|m1 (vZ (dir:=0) (sub:=(ah.mk b false 0).wordV) (v:=a.wordV) (w:=cr) (by omega)) fun dh J=>?_
 refine ax<|m2 (aR ((fd 0 ((ah.mk b false 0).wordV) a.wordV)) 6 (RC.upd bg J av (aE.step (RC.u bg) J))) fun di ct bi=>?_
 refine eU ct fun cv cw cx=>?_
 refine nt<|go<|Pl 1<|L0<|eX (m:=1) (e:=37) #[vW a.wordV] fun cy dj cA cB bm=>?_
 have br:=tC cA (xs:=[a.wordV]) (by as_aux_lemma=>kernel_rfl) (aF (by omega) cm) (by(try simp only[List.length_cons,List.length_nil]);omega) cB
 refine Pl 1<|?_
 have bs:=uz J (aN bi bm)
 refine L0<|bD (aV bs (Ne.symm k) bh) 12 (mG c 0 0 0 0 0 0 0 ((ah.mk b false 0).wordV) 0 0 0 (.slice (some ⟨cy,0,none⟩) 1 1) nS nS nS 0 0 0 0 0 nS) fun dk cC a9=>nl<|bn<|?_
 have bt:=ui a8 (us bs a9)
 exact jn (cv,_,(b7.mk c 0 0 0 0 0 0 0 ((ah.mk b false 0).wordV) 0 0 0 [a.wordV] [] [] [] 0 0 0 0 0 [])) ⟨(ut a4 (ui s bt) (ac im (ac im aA))),(RC.upd cx (uz bm a9) (aa k av) (ut ba bt (ac (ni d.size f) (ac (ni (le d.size j.size) g) aA)))),cC,⟨_,_,_,_,_,rfl,((al br a9 (fun x hx=>(aa (fun e=>(aG (ag Q) (le (le (le (le (le (le (le R.size H.size) a1.size) z.size) s.size) a8.size) J.size) bi.size) br) (e▸hx)) av)) (fun _ _ h=>h))).rd,aI.nil ..,(fun _ _ _=>aI.nil ..),aI.nil ..,aI.nil ..,(bT (by omega))⟩,by subst cw b9;unfold aj bK du cT;(try simp only[o,r,D,bq,cR,cN,cO,cQ,cP,reduceIte,iR,iQ])<;>rfl⟩
 have bZ:=au r
 exact az 3<|c1<|sk<|bn<|jn ((ah.mk b false 0),_,(b7.mk c 0 0 0 0 0 0 0 0 0 0 0 [] [] [] [] 0 0 0 0 0 [])) ⟨(aE.mono (S':=[i,q]) (aE.refl [] _) aA),aP,aM,⟨_,_,_,_,_,rfl,aI.nil ..,aI.nil ..,(fun _ _ _=>aI.nil ..),aI.nil ..,aI.nil ..,(bT (by omega))⟩,by unfold aj bK du cT;(try simp only[o,r,bq,cR,cN,cO,cQ,cP,reduceIte,iR,iQ])<;>rfl⟩
theorem jO(hcode:B8 c)(hsl:aX m w (.slice A b.length cp) b)(hb:b.length≤1048576) :
    Calls Tryz.prog 111 #[vI 1,vB c,.slice A b.length cp] w (cz (.slice A b.length cp) b (aj bK 1 c b) w):=by
 obtain⟨hcode1,hcode2⟩:=hcode
 have hln:(b.length:Int)≤1048576:=by omega
 refine en 197 Tryz.func111 rfl<|sg<|aK mZ fun aQ ez Z F a=>ap 1<|sq<|az 6<|c0<|bz<|sq<|aq 3<|cY 3 [24] 27 24 (c != 7) (c != 8) (fun K ct cv=>?_) ?_
 have eA:=ay cv
 exact Pl 3<|ce ct _ rfl
 refine Pl 1<|cY 3 [28] 31 28 ((c != 7)&&(c != 8)) (c != 11) (fun K cw aU=>?_) ?_
 have cx:=(aS aU).1
 have cy:=(aS aU).2
 have eB:=ay cx
 have eC:=ay cy
 exact Pl 3<|ce cw _ rfl
 refine Pl 1<|cY 3 [32] 35 32 (((c != 7)&&(c != 8))&&(c != 11)) (c != 12) (fun K cA aW=>?_) ?_
 have aY:=(aS aW).1
 have cB:=(aS aW).2
 have cC:=(aS aY).1
 have cD:=(aS aY).2
 have q19aap:=ay cC
 have q19abp:=ay cD
 have eD:=ay cB
 exact Pl 3<|ce cA _ rfl
 refine Pl 1<|cY 3 [36] 39 36 ((((c != 7)&&(c != 8))&&(c != 11))&&(c != 12)) (c != 17) (fun K cE aZ=>?_) ?_
 have b0:=(aS aZ).1
 have cF:=(aS aZ).2
 have b1:=(aS b0).1
 have cG:=(aS b0).2
 have q21aaa:=(aS b1).1
 have q21aab:=(aS b1).2
 have q21aaap:=ay q21aaa
 have q21aabp:=ay q21aab
 have q21abp:=ay cG
 have eE:=ay cF
 exact Pl 3<|ce cE _ rfl
 refine nt<|cb ((((((c != 7)&&(c != 8))&&(c != 11))&&(c != 12))&&(c != 17))) (fun j=>?_) (fun j=>?_)
 have a0:=(aS j).1
 have b2:=(aS j).2
 have a1:=(aS a0).1
 have b3:=(aS a0).2
 have q23aaa:=(aS a1).1
 have q23aab:=(aS a1).2
 have q23aaaa:=(aS q23aaa).1
 have q23aaab:=(aS q23aaa).2
 have q23aaaap:=ay q23aaaa
 have q23aaabp:=ay q23aaab
 have q23aabp:=ay q23aab
 have q23abp:=ay b3
 have eF:=ay b2
 refine aq 1<|aD F mZ fun eG cH cI=>ap 1<|bj<|c8 cH (vI 4)<|?_
 exact cZ (by unfold aj bK du cT;(try simp only[j,a0,a1,q23aaa,q23aaaa,q23aaab,q23aab,b3,b2,bq,cR,cN,cO,cQ,cP,reduceIte,iR,iQ])<;>rfl) (bo (ud a cI Z))
 refine bz<|aq 2<|L0<|dF #[.slice A b.length cp,vI 0,.bool false,vI 0] fun r eH g y i=>Pl 1<|aL 2<|aK mZ fun G eI d a2 cK=>aD a2 (mC c) fun b4 H a3=>?_
 refine nt<|?_
 have b5:=ud cK a3 d
 have R:=aN i b5
 have z:=aN a R
 have I:RC w _ A cp b b4 r (ah.mk b false 0):=⟨hsl,z,(Nat.le_trans a.size g),⟨0,(ub b5 y),Nat.zero_le _,rfl⟩,by omega⟩
 refine sn (fun x=>[(6,vP aQ 0),(7,vI 0),(8,vP r 0),(9,vP G 0)]) (fun(x:ah × Array Value × b7) w'=>aE [r,G] b4 w'∧RC w m A cp b w' r x.1∧w'.heap[G]? = some (.cells x.2.1 45 (0,0))∧bE (.slice A b.length cp) b w' x.2.1.toList x.2.2∧(aj bK 1 c b=bp x.2.2 x.1)) ?_ ?_
 rintro⟨C,cs,M⟩ a4 ⟨b8,cL,cU,cV,cW⟩
 refine f5 [(6,vP aQ 0),(7,vI 0),(8,vP r 0),(9,vP G 0)] ?_
 have b9:RC w m A cp b a4 r C:=cL
 have cX:a4.heap[G]? = some (.cells cs 45 (0,0)):=cU
 have S:bE (.slice A b.length cp) b a4 cs.toList M:=cV
 have a5:=bE.size S
 have ba:aj bK 1 c b=bp M C:=cW
 refine aq 1<|ax<|m2 (ki b9) fun eJ a6 a7=>nt<|sq<|aq 3<|L0<|dC (p:=⟨r,3,none⟩) (v:=vI C.endC.e) (RC.fld a6)<|ap 1<|?_
 have a8:=u1 b8 a7 im
 have bb:=ut z a8 (ac (ni a.size g) (ac (ni (le a.size i.size) d) aA))
 refine cb ((C.endC.e != 0)) (fun a9=>?_) (fun a9=>?_)
 have ab:=ay a9
 refine sq<|Rg 7 (fun w'=>w'.cell? ⟨r,3,none⟩=some (vI C.endC.e)) fun eK T=>?_
 have bc:=RC.upd a6 T av (aE.step (RC.u a6) T)
 refine bA (RC.fld bc) fun J=>Rt 0 J<|Rt 1 J<|Rt 2 J<|Rt 3 J<|Rl 4 J (fun _ hs=>hs)<|?_
 refine R0 5 rfl<|j5 (ub (ut R (aN a8 T) (ac (nr g) (ac (ni i.size d) aA))) F) mZ fun eL d0 bd=>?_
 have bf:=ud bb (uz T bd) Z
 refine bA (RC.fld (RC.upd bc bd (aa (Ne.symm (nb (ag F) lr g)) av) bf)) fun d1=>Rt 6 d1<|re<|tn<|bj<|c8 d0 (vI C.endC.e)<|?_
 rw[ba]
 exact cn ab bf
 have ab:=aJ a9
 refine bz<|sg<|?_
 refine L0<|cJ (hz:=(by rw[a5];exact b6)) (aV a7 (Ne.symm (nb (ag y) lr d)) cX)<|?_
 refine aD (hz:=(by rw[a5];exact b6)) (hv:=(bE.size S)) (h1:=(bE.one S hsl)) (ub (ut R a8 (ac (nr g) (ac (ni i.size d) aA))) F) (cs) fun eM d2 bg=>ap 1<|rt<|eu 22 a5 d2 (vI 0)<|?_
 rw[ba]
 exact cM ab (bE.upd S (us a7 bg) (ai (RC.safe b9 _ (by decide)) (ai (aT (ub (ut R b8 (ac (nr g) (ac (ni i.size d) aA))) F) (by decide)) aC))) (ud bb bg Z)
 refine bk<|az 3<|cb ((c==8)) (fun o=>?_) (fun o=>?_)
 have d3:=ak o
 refine aq 1<|ax<|m3 (ca I) fun eN d4 U eO=>Pl 1<|?_
 have s:=nb (ag y) lr d
 refine L0<|bD (aV U (Ne.symm s) H) 8 (mG c 0 0 0 0 0 0 0 ((ah.mk b false 0).wordV) 0 0 0 nS nS nS nS 0 0 0 0 0 nS) fun d5 ad ae=>aL 1<|aH ad 8<|ax<|m1 (vX (x:=(ah.mk b false 0).wordV) (w:=d5) (by omega)) fun eP L=>Pl 1<|aL 3<|cu 8 [72] 80 (((dy ((ah.mk b false 0).wordV))&&(((ah.mk b false 0).wordV)!=4))) (fun K bh=>?_) ?_
 refine bl 72 ((dy ((ah.mk b false 0).wordV))) (fun af=>?_) (fun af=>?_)
 refine Pl 1<|?_
 refine L1<|cS (ub L ad) 8<|Pl 2<|cu 3 [76] 79 ((((ah.mk b false 0).wordV)!=4)) (fun K bi=>?_) ?_
 refine bl 76 ((((ah.mk b false 0).wordV)!=4)) (fun N=>?_) (fun N=>?_)
 have d6:=ay N
 exact Pl 3<|ce bi true N
 have d6:=aJ N
 exact Pl 3<|ce bi false N
 exact Pl 1<|ce bh (((ah.mk b false 0).wordV)!=4) (by rw[af];rfl)
 exact Pl 8<|ce bh false (by rw[af];rfl)
 have bm:=aN ae L
 have am:=us U bm
 have br:=ut z am (ac (ni a.size g) (ac (ni (le a.size i.size) d) aA))
 refine ax<|m2 (aR (((dy ((ah.mk b false 0).wordV))&&(((ah.mk b false 0).wordV)!=4))) 8 (RC.upd d4 bm (aa s av) br)) fun eR d7 D=>?_
 refine eU d7 fun f bs O=>?_
 refine nt<|sq<|aq 1<|?_
 have an:=aV (uz L D) (Ne.symm s) ad
 refine aH an 8<|ap 1<|?_
 have bt:=ud br D (le a.size g)
 refine cb ((((ah.mk b false 0).wordV)==0)) (fun P=>?_) (fun P=>?_)
 have d8:=ak P
 refine aq 1<|ax<|m1 (gC O) fun eS V=>?_
 have eT:=RC.clen O
 refine Pl 1<|aL 2<|L0<|Oe (vI (Int.tmod (f.l.length:Int) 2)) (vI ((f.l.length:Int)%2)) (congrArg (Value.int .i64) (Int.tmod_eq_emod_of_nonneg (by omega)))<|Pl 2<|cY 3 [91] 94 91 (((f.l.length:Int)%2)==0) (decide (2≤(f.l.length:Int))) (fun K d9 da=>?_) ?_
 have eV:=ak da
 exact Pl 3<|ce d9 _ rfl
 refine Pl 1<|cY 3 [95] 98 95 ((((f.l.length:Int)%2)==0)&&(decide (2≤(f.l.length:Int)))) (decide ((f.l.length:Int)≤250)) (fun K db bu=>?_) ?_
 have dc:=(aS bu).1
 have dd:=(aS bu).2
 have eW:=ak dc
 have eY:=of_decide_eq_true dd
 exact Pl 3<|ce db _ rfl
 refine ax<|m2 (aR ((((((f.l.length:Int)%2)==0)&&(decide (2≤(f.l.length:Int))))&&(decide ((f.l.length:Int)≤250)))) 5 (RC.upd O V av (aE.step (RC.u O) V))) fun eZ de bv=>?_
 refine eU de fun ao df dg=>?_
 refine aL 2<|L0<|Oe (vI (IntKind.i64.wrap (Int.tdiv (f.l.length:Int) 2))) (vI ((f.l.length:Int)/2)) (congrArg (Value.int .i64) (fa (by omega) (by omega)))<|ax<|lv (ff (n:=((f.l.length:Int)/2)) (by omega) dg) fun dh di f0 bw f1 f2 dj dl=>Pl 1<|?_
 have bB:=uz V (u1 bv dl im)
 refine L0<|bD (aV bB (Ne.symm s) an) 12 (mG c 0 0 0 0 0 0 0 ((ah.mk b false 0).wordV) 0 0 0 (.slice dh ((ao.wordsR ((f.l.length:Int)/2)).length) di) nS nS nS 0 0 0 0 0 nS) fun f3 dm ar=>nt<|xt<|tx<|bx<|?_
 have bC:=us bB ar
 exact jn ((ao.wordsC ((f.l.length:Int)/2)),_,(b7.mk c 0 0 0 0 0 0 0 ((ah.mk b false 0).wordV) 0 0 0 (ao.wordsR ((f.l.length:Int)/2)) [] [] [] 0 0 0 0 0 [])) ⟨(ut am (ui D bC) (ac im (ac im aA))),(RC.upd dj ar (aa s av) (ut bt bC (ac (ni a.size g) (ac (ni (le a.size i.size) d) aA)))),dm,⟨_,_,_,_,_,rfl,((al bw ar (fun x hx=>(aa (fun e=>(aG (ag a2) (le (le (le (le (le (le a3.size U.size) ae.size) L.size) D.size) V.size) bv.size) bw) (e▸hx)) av)) (fun _ _ h=>h))).rd,aI.nil ..,(fun _ _ _=>aI.nil ..),aI.nil ..,aI.nil ..,(bT (by omega))⟩,by subst df bs;unfold aj bK du cT;(try simp only[j,o,P,bq,cR,cN,cO,cQ,cP,reduceIte,iR,iQ])<;>rfl⟩
 have d8:=au P
 refine bz<|aq 1<|ax<|m3 (ca O) fun dn bF aw f4=>Pl 1<|aL 3<|?_
 have bG:=aV aw (Ne.symm s) an
 refine aH bG 8<|Pl 1<|ax<|m1 (vZ (dir:=1) (sub:=(ah.mk b false 0).wordV) (v:=f.wordV) (w:=dn) (by omega)) fun f6 W=>?_
 refine ax<|m2 (aR ((fd 1 ((ah.mk b false 0).wordV) f.wordV)) 6 (RC.upd bF W av (aE.step (RC.u bF) W))) fun f7 dp bH=>?_
 refine eU dp fun dq dr ds=>?_
 refine nt<|go<|Pl 1<|L0<|eX (m:=1) (e:=37) #[vW f.wordV] fun dt f8 dv dw bI=>?_
 have bJ:=tC dv (xs:=[f.wordV]) (by as_aux_lemma=>kernel_rfl) (aF (by omega) cm) (by(try simp only[List.length_cons,List.length_nil]);omega) dw
 refine Pl 1<|?_
 have bL:=uz W (aN bH bI)
 refine L0<|bD (aV bL (Ne.symm s) bG) 12 (mG c 0 0 0 0 0 0 0 ((ah.mk b false 0).wordV) 0 0 0 (.slice (some ⟨dt,0,none⟩) 1 1) nS nS nS 0 0 0 0 0 nS) fun f9 dx aB=>nl<|bn<|?_
 have bM:=ui aw (us bL aB)
 exact jn (dq,_,(b7.mk c 0 0 0 0 0 0 0 ((ah.mk b false 0).wordV) 0 0 0 [f.wordV] [] [] [] 0 0 0 0 0 [])) ⟨(ut am (ui D bM) (ac im (ac im aA))),(RC.upd ds (uz bI aB) (aa s av) (ut bt bM (ac (ni a.size g) (ac (ni (le a.size i.size) d) aA)))),dx,⟨_,_,_,_,_,rfl,((al bJ aB (fun x hx=>(aa (fun e=>(aG (ag a2) (le (le (le (le (le (le (le a3.size U.size) ae.size) L.size) D.size) aw.size) W.size) bH.size) bJ) (e▸hx)) av)) (fun _ _ h=>h))).rd,aI.nil ..,(fun _ _ _=>aI.nil ..),aI.nil ..,aI.nil ..,(bT (by omega))⟩,by subst dr bs;unfold aj bK du cT;(try simp only[j,o,P,bq,cR,cN,cO,cQ,cP,reduceIte,iR,iQ])<;>rfl⟩
 have d3:=au o
 refine az 3<|c0<|az 3<|cb ((c==7)) (fun B=>?_) (fun B=>?_)
 have dz:=ak B
 refine go<|Pl 1<|ax<|m3 (dk I) fun fb dA bN fc=>L0<|vm ((ah.mk b false 0).byteV)<|Pl 1<|?_
 have bO:=nb (ag y) lr d
 refine L0<|bD (aV bN (Ne.symm bO) H) 4 (mG c 0 0 0 ((ah.mk b false 0).byteV) 0 0 0 0 0 0 0 nS nS nS nS 0 0 0 0 0 nS) fun fe dB bP=>nl<|bn<|?_
 have bQ:=us bN bP
 exact jn (((ah.mk b false 0).bytesC 1),_,(b7.mk c 0 0 0 ((ah.mk b false 0).byteV) 0 0 0 0 0 0 0 [] [] [] [] 0 0 0 0 0 [])) ⟨bQ,(RC.upd dA bP (aa bO av) (ut z bQ (ac (ni a.size g) (ac (ni (le a.size i.size) d) aA)))),dB,⟨_,_,_,_,_,rfl,aI.nil ..,aI.nil ..,(fun _ _ _=>aI.nil ..),aI.nil ..,aI.nil ..,(bT (by omega))⟩,by unfold aj bK du cT;(try simp only[j,o,B,bq,cR,cN,cO,cQ,cP,reduceIte,iR,iQ])<;>rfl⟩
 have dz:=au B
 refine az 3<|cb ((c==11)) (fun E=>?_) (fun E=>?_)
 have dD:=ak E
 refine aq 1<|ax<|m3 (ca I) fun fg dE bR fh=>Pl 1<|?_
 have X:=nb (ag y) lr d
 refine L0<|bD (aV bR (Ne.symm X) H) 9 (mG c 0 0 0 0 0 0 0 0 ((ah.mk b false 0).wordV) 0 0 nS nS nS nS 0 0 0 0 0 nS) fun fi aM bS=>aL 2<|aH aM 9<|Pl 2<|ea 4 [137] 141 137 (((ah.mk b false 0).wordV)==0) (((ah.mk b false 0).wordV)==65535) (fun K dG dH=>?_) ?_
 have fj:=au dH
 exact Pl 1<|L1<|cS aM 9<|Pl 2<|ce dG _ rfl
 have bU:=us bR bS
 have bV:=ut z bU (ac (ni a.size g) (ac (ni (le a.size i.size) d) aA))
 refine ax<|m2 (aR (((((ah.mk b false 0).wordV)==0)||(((ah.mk b false 0).wordV)==65535))) 6 (RC.upd dE bS (aa X av) bV)) fun fk dI dJ=>?_
 refine eU dI fun aO dK dL=>?_
 refine nt<|go<|Pl 1<|ax<|m3 (ca dL) fun fl dM dN fm=>Pl 1<|?_
 have bW:=u1 dJ dN im
 refine L0<|bD (aV bW (Ne.symm X) aM) 10 (mG c 0 0 0 0 0 0 0 0 ((ah.mk b false 0).wordV) aO.wordV 0 nS nS nS nS 0 0 0 0 0 nS) fun fn dO bX=>nl<|bn<|?_
 have bY:=us bW bX
 exact jn ((aO.wordsC 1),_,(b7.mk c 0 0 0 0 0 0 0 0 ((ah.mk b false 0).wordV) aO.wordV 0 [] [] [] [] 0 0 0 0 0 [])) ⟨(ut bU bY (ac im (ac im aA))),(RC.upd dM bX (aa X av) (ut bV bY (ac (ni a.size g) (ac (ni (le a.size i.size) d) aA)))),dO,⟨_,_,_,_,_,rfl,aI.nil ..,aI.nil ..,(fun _ _ _=>aI.nil ..),aI.nil ..,aI.nil ..,(bT (by omega))⟩,by subst dK;unfold aj bK du cT;(try simp only[j,o,B,E,bq,cR,cN,cO,cQ,cP,reduceIte,iR,iQ])<;>rfl⟩
 have dD:=au E
 refine az 3<|cb ((c==12)) (fun Q=>?_) (fun Q=>?_)
 have dP:=ak Q
 refine aq 1<|ax<|m3 (dk I) fun fo dQ dR fp=>be ((ah.mk b false 0).byteV)<|Pl 1<|aL 4<|cY 3 [155] 158 155 (decide (6≤((ah.mk b false 0).byteV))) (decide (((ah.mk b false 0).byteV)≤70)) (fun K dS dT=>?_) ?_
 have fq:=of_decide_eq_true dT
 exact Pl 3<|ce dS _ rfl
 refine ax<|m2 (aR (((decide (6≤((ah.mk b false 0).byteV)))&&(decide (((ah.mk b false 0).byteV)≤70)))) 5 dQ) fun fr dU dV=>?_
 refine eU dU fun q dW dX=>?_
 refine aL 1<|ax<|m3 (ca dX) fun fs dY dZ ft=>Pl 1<|?_
 have bZ:=u1 dR (u1 dV dZ im) im
 have t:=nb (ag y) lr d
 refine L0<|bD (aV bZ (Ne.symm t) H) 9 (mG c 0 0 0 0 0 0 0 0 q.wordV 0 0 nS nS nS nS 0 0 0 0 0 nS) fun fu aP c1=>aL 2<|aH aP 9<|Pl 2<|ea 4 [167] 171 167 (q.wordV==0) (q.wordV==65535) (fun K e0 e1=>?_) ?_
 have fv:=au e1
 exact Pl 1<|L1<|cS aP 9<|Pl 2<|ce e0 _ rfl
 have c2:=us bZ c1
 have c3:=ut z c2 (ac (ni a.size g) (ac (ni (le a.size i.size) d) aA))
 refine ax<|m2 (aR (((q.wordV==0)||(q.wordV==65535))) 6 (RC.upd dY c1 (aa t av) c3)) fun fw e2 e3=>?_
 refine eU e2 fun k e4 e5=>?_
 refine aL 1<|ax<|m3 (ca e5) fun fx e6 e7 fy=>Pl 1<|?_
 have c4:=u1 e3 e7 im
 refine L0<|bD (aV c4 (Ne.symm t) aP) 10 (mG c 0 0 0 0 0 0 0 0 q.wordV k.wordV 0 nS nS nS nS 0 0 0 0 0 nS) fun fz e8 c5=>aL 1<|?_
 have c6:=us c4 c5
 have c7:=ut c3 c6 (ac (ni a.size g) (ac (ni (le a.size i.size) d) aA))
 refine ax<|m3 (ca (RC.upd e6 c5 (aa t av) c7)) fun fA e9 c9 fB=>Pl 1<|?_
 refine L0<|bD (aV c9 (Ne.symm t) e8) 11 (mG c 0 0 0 0 0 0 0 0 q.wordV k.wordV ((k.wordsC 1).wordV) nS nS nS nS 0 0 0 0 0 nS) fun fC eb cc=>nt<|go<|Pl 2<|be (((ah.mk b false 0).byteV)-6)<|?_
 have cd:=us c9 cc
 have cf:=ut c7 cd (ac (ni a.size g) (ac (ni (le a.size i.size) d) aA))
 have cg:=RC.upd e9 cc (aa t av) cf
 refine ax<|nc (eQ (n:=(((ah.mk b false 0).byteV)-6)) (by omega) cg) fun ec ed fD ee ef ch=>?_
 have fE:=Nat.le_trans (ah.bytesR_le ((k.wordsC 1).wordsC 1) (((ah.mk b false 0).byteV)-6)) (RC.clen cg)
 refine eU ef fun eg eh ei=>?_
 refine Pl 1<|?_
 refine L0<|bD (aV ch (Ne.symm t) eb) 14 (mG c 0 0 0 0 0 0 0 0 q.wordV k.wordV ((k.wordsC 1).wordV) nS nS (.slice ec ((((k.wordsC 1).wordsC 1).bytesR (((ah.mk b false 0).byteV)-6)).length) ed) nS 0 0 0 0 0 nS) fun fF ej ci=>nl<|bn<|?_
 have cj:=us ch ci
 exact jn (eg,_,(b7.mk c 0 0 0 0 0 0 0 0 q.wordV k.wordV ((k.wordsC 1).wordV) [] [] (((k.wordsC 1).wordsC 1).bytesR (((ah.mk b false 0).byteV)-6)) [] 0 0 0 0 0 [])) ⟨(ut c2 (ut c6 (ut cd cj (ac im (ac im aA))) (ac im (ac im aA))) (ac im (ac im aA))),(RC.upd ei ci (aa t av) (ut cf cj (ac (ni a.size g) (ac (ni (le a.size i.size) d) aA)))),ej,⟨_,_,_,_,_,rfl,aI.nil ..,aI.nil ..,ee,aI.nil ..,aI.nil ..,(bT (by omega))⟩,by subst eh e4 dW;unfold aj bK du cT;(try simp only[j,o,B,E,Q,bq,cR,cN,cO,cQ,cP,reduceIte,iR,iQ])<;>rfl⟩
 have dP:=au Q
 refine aq 1<|ax<|m3 (dk I) fun fG ek el fH=>be ((ah.mk b false 0).byteV)<|Pl 1<|aL 4<|cY 3 [52] 55 52 (decide (1≤((ah.mk b false 0).byteV))) (decide (((ah.mk b false 0).byteV)≤251)) (fun K em eo=>?_) ?_
 have fI:=of_decide_eq_true eo
 exact Pl 3<|ce em _ rfl
 refine ax<|m2 (aR (((decide (1≤((ah.mk b false 0).byteV)))&&(decide (((ah.mk b false 0).byteV)≤251)))) 5 ek) fun fJ ep eq=>?_
 refine eU ep fun Y er ck=>?_
 refine nt<|go<|Pl 2<|ax<|nc (eQ (n:=(ah.mk b false 0).byteV) (by omega) ck) fun es et fK ev ew ex=>?_
 have fL:=Nat.le_trans (ah.bytesR_le Y ((ah.mk b false 0).byteV)) (RC.clen ck)
 refine Pl 1<|?_
 have cl:=u1 el (u1 eq ex im) im
 have co:=nb (ag y) lr d
 refine L0<|bD (aV cl (Ne.symm co) H) 14 (mG c 0 0 0 0 0 0 0 0 0 0 0 nS nS (.slice es ((Y.bytesR ((ah.mk b false 0).byteV)).length) et) nS 0 0 0 0 0 nS) fun fM ey cq=>nl<|bn<|?_
 have cr:=us cl cq
 exact jn ((Y.bytesC ((ah.mk b false 0).byteV)),_,(b7.mk c 0 0 0 0 0 0 0 0 0 0 0 [] [] (Y.bytesR ((ah.mk b false 0).byteV)) [] 0 0 0 0 0 [])) ⟨cr,(RC.upd ew cq (aa co av) (ut z cr (ac (ni a.size g) (ac (ni (le a.size i.size) d) aA)))),ey,⟨_,_,_,_,_,rfl,aI.nil ..,aI.nil ..,ev,aI.nil ..,aI.nil ..,(bT (by omega))⟩,by subst er;unfold aj bK du cT;(try simp only[j,o,B,E,Q,bq,cR,cN,cO,cQ,cP,reduceIte,iR,iQ])<;>rfl⟩
theorem kf(hcode:B8 c)(hsl:aX m w (.slice A b.length cp) b)(hb:b.length≤1048576)(hd:¬ (dir=0∨dir=1)) :
    Calls Tryz.prog 111 #[vI dir,vB c,.slice A b.length cp] w (cz (.slice A b.length cp) b (aj bK dir c b) w):=by
 obtain⟨hcode1,hcode2⟩:=hcode
 have hln:(b.length:Int)≤1048576:=by omega
 have e0:(dir != 0)=true:=by simp;omega
 have e1:(dir != 1)=true:=by simp;omega
 refine en 197 Tryz.func111 rfl<|sg<|aK mZ fun g h a d e=>ap 1<|sq<|aq 3<|sy 17 e0<|Pl 3<|nl<|tn<|ct e1<|aq 1<|aD d mZ fun i dB f=>ap 1<|bj<|c8 dB (vI 1)<|?_
 exact cZ (by unfold aj bK du cT;(try simp only[e0,e1,bq,cR,cN,cO,cQ,cP,reduceIte,hd,iR,iQ])<;>rfl) (bo (ud e f a))
open Go.RowKit
theorem dr(h:C.e≠0) : C.need ok x=C:=by
  unfold ah.need
  rw[if_neg fun k=>h k.1]
theorem eg(h:C.fails n=true) : (C.bytesC n).e≠0:=by
  unfold ah.bytesC
  rw[if_pos h]
  unfold ah.need
  split
  · exact(show(2:Int)≠0 from by decide)
  · rename_i k
    intro e
    exact k ⟨e,rfl⟩
theorem l6(h:(C.wordsR 1).length≠1) : (C.wordsC 1).e≠0:=by
  unfold ah.wordsR at h
  unfold ah.wordsC
  split
  · exact eg (by unfold ah.fails;simp)
  · rename_i hb
    rw[if_neg hb] at h
    by_cases hf:C.fails (2*1)=true
    · exact eg hf
    · exfalso
      apply h
      unfold ah.bytesR
      rw[if_neg hf]
      unfold ah.fails at hf
      simp only[Bool.or_eq_true,decide_eq_true_eq,not_or] at hf
      rcases e:C.l with _|⟨a,_|⟨b,t⟩⟩
      · rw[e] at hf;simp at hf
      · rw[e] at hf;simp at hf
      · show(c5 [a,b]).length=1
        unfold c5
        rw[if_pos (by simp)]
        simp[co]
theorem nX(h:(C.wordsR 1).length=1) : [C.wordV]=C.wordsR 1:=by
  unfold ah.wordV
  rcases e:C.wordsR 1 with _|⟨a,_|⟨b,t⟩⟩
  · rw[e] at h;simp at h
  · rfl
  · rw[e] at h;simp at h
theorem q7{M':b7}  (h:C.e≠0) : bp M C=bp M' C:=by
  unfold bp
  have e:C.endC.e≠0:=by unfold ah.endC;rw[dr h];exact h
  rw[if_neg e,if_neg e]
theorem pL(dir:Int)(C:ah) : e8 dir C=eA dir C:=by
  unfold e8 eA
  rw[Bool.or_comm]
theorem pP(dir c:Int)(C:ah) : bp (du dir c C).2 (du dir c C).1=bp (eR dir c C).2 (eR dir c C).1:=by
  unfold du eR
  rw[pL]
  by_cases h0:C.wordV=0
  · rw[h0,if_pos (show((0:Int)==0)=true from rfl),if_neg (show ¬ ((0:Int)!=0)=true from by decide)]
  · rw[if_neg (by simpa using h0),if_pos (by simpa using h0)]
    by_cases h1:((eA dir C).wordsR 1).length=1
    · rw[nX h1,show((((eA dir C).wordsR 1).length:Int)==1)=true from by rw[h1];rfl,Bool.true_and]
      rfl
    · have k:=l6 h1
      dsimp only
      rw[dr k,dr k]
      exact q7 k
theorem kk{f f':Int→Int→ah→Option (ah × b7)}   (h:∀ C,(dir=0∨dir=1)→(f dir c C=none∧f' dir c C=none)∨∃ r r',f dir c C=some r∧f' dir c C=some r'∧bp r.2 r.1=bp r'.2 r'.1) : aj f dir c b=aj f' dir c b:=by
  unfold aj
  split
  · rename_i hd
    rcases h ⟨b,false,0⟩ hd with⟨h1,h2⟩|⟨r,r',h1,h2,h3⟩
    · rw[h1,h2]
    · rw[h1,h2];exact h3
  · rfl
theorem lb(dir c:Int)(b:List Int) : aj bK dir c b=aj bi dir c b:=by
  refine kk fun C hd=>?_
  unfold bK bi
  by_cases h8:c=8
  · subst h8
    exact .inr ⟨_,_,rfl,rfl,pP dir 8 C⟩
  · by_cases h:c=7∨c=11∨c=12∨c=17
    · refine .inr ?_
      rw[if_neg (show ¬ (((((c != 7)&&(c != 8))&&(c != 11))&&(c != 12))&&(c != 17))=true from by rcases h with rfl | rfl | rfl | rfl<;>decide),if_neg (show ¬ (c==8)=true from by simpa using h8),if_neg (show ¬ (c==8)=true from by simpa using h8),if_pos (show(c==7 || c==11 || c==12 || c==17)=true from by rcases h with rfl | rfl | rfl | rfl<;>decide)]
      rcases hd with rfl|rfl
      · exact⟨_,_,rfl,rfl,rfl⟩
      · refine⟨_,_,rfl,rfl,?_⟩
        rcases h with rfl|rfl|rfl|rfl<;>rfl
    · refine .inl ?_
      rw[if_pos (show(((((c != 7)&&(c != 8))&&(c != 11))&&(c != 12))&&(c != 17))=true from by simp;omega),if_neg (show ¬ (c==8)=true from by simpa using h8),if_neg (show ¬ (c==7 || c==11 || c==12 || c==17)=true from by simp;omega)]
      exact⟨rfl,rfl⟩
open Go.RowKit
theorem lm:dP n=if n<1 then 0 else n/8+(if 0<n%8 then 1 else 0):=by
  unfold dP
  split
  · rfl
  · split<;>omega
theorem ja(l:List Bool)(j:Nat) : cj (l.take (8*j)) j=0:=by
  have h:=pZ l (8*j)
  rw[show 8*j/8=j from by omega,show 8*j%8=0 from by omega] at h
  omega
variable {j t:Nat}{l:List Bool}
theorem ij(ht:t<8) : cj (l.take (8*j+t+1)) j=cj (l.take (8*j+t)) j+if l.getD (8*j+t) false=true then 2 ^ t else 0:=by
  rw[lX,show(8*j+t)/8=j from by omega,show(8*j+t)%8=t from by omega]
  simp
theorem pO(h:t=8∨l.length≤8*j+t) : cj (l.take (8*j+t)) j=cj l j:=by
  rcases h with rfl|h
  · unfold cj
    simp only[gf]
    simp
  · rw[List.take_of_length_le h]
theorem ro(h1:l.length≤8*j)(h2:8*j<l.length+8) : (List.range j).map (fun i=>(cj l i:Int))=dj l:=by
  unfold dj
  rw[show(dP l.length).toNat=j from by unfold dP;split<;>omega]
theorem pq(l:List Bool) : ((dj l).length:Int)=dP l.length:=by
  unfold dj
  rw[List.length_map,List.length_range]
  unfold dP
  split<;>omega
theorem wC:∀ x0 x1 x2 x3 x4 x5 x6 x7:Bool,∀ t:Fin 8,(((((if x0=true then 1 else 0)+(if x1=true then 2 else 0)+(if x2=true then 4 else 0)+(if x3=true then 8 else 0)+(if x4=true then 16 else 0)+(if x5=true then 32 else 0)+(if x6=true then 64 else 0)+(if x7=true then 128 else 0) : Nat) : Int)/2 ^ t.val%2==1)=[x0,x1,x2,x3,x4,x5,x6,x7].getD t.val false):=by decide +kernel
theorem uv(ht:t<8) : ((cj l j:Int)/2 ^ t%2==1)=l.getD (8*j+t) false:=by
  have h:=wC (l.getD (8*j) false) (l.getD (8*j+1) false) (l.getD (8*j+2) false) (l.getD (8*j+3) false) (l.getD (8*j+4) false) (l.getD (8*j+5) false) (l.getD (8*j+6) false) (l.getD (8*j+7) false) ⟨t,ht⟩
  refine h.trans ?_
  rcases t with _|_|_|_|_|_|_|_|t
  case succ.succ.succ.succ.succ.succ.succ.succ=>omega
  all_goals rfl
theorem mU(l:List Bool) : bZ (dj l) (l.length:Int)=some ((List.range l.length).map (bP (dj l))):=by
  have hl:=pq l
  unfold bZ
  rw[if_pos ⟨by omega,hl⟩,if_pos,show((l.length:Int)).toNat=l.length from by omega]
  rw[List.all_eq_true]
  intro i hi
  have hi:i<8*(dj l).length:=by simpa using hi
  simp only[Bool.or_eq_true,decide_eq_true_eq,Bool.not_eq_true']
  by_cases h:(i:Int)<l.length
  · exact .inl h
  · refine .inr ?_
    have hj:i/8<(dj l).length:=by omega
    unfold bP
    have e:(dj l).getD (i/8) 0=(cj l (i/8) : Int):=by
      have hj2:i/8<(dP (l.length:Int)).toNat:=by omega
      unfold dj
      rw[List.getD_eq_getElem?_getD,List.getElem?_map,List.getElem?_range hj2]
      rfl
    rw[e,uv (Nat.mod_lt _ (by decide)),show 8*(i/8)+i%8=i from by omega,List.getD_eq_getElem?_getD,List.getElem?_eq_none (by omega)]
    rfl
theorem mB(hr:∀ x,x∈b→0≤x∧x<256)(h0:0≤n) : bZ b n=if dj ((List.range n.toNat).map (bP b))=b then some ((List.range n.toNat).map (bP b)) else none:=by
  by_cases h:dj ((List.range n.toNat).map (bP b))=b
  · rw[if_pos h]
    have k:=mU ((List.range n.toNat).map (bP b))
    rw[h,List.length_map,List.length_range,show((n.toNat:Nat) : Int)=n from by omega] at k
    exact k
  · rw[if_neg h]
    cases e:bZ b n with
    | none=>rfl
    | some l =>
      exfalso
      have k:=ms hr e
      unfold bZ at e
      split at e
      · split at e
        · injection e with e;rw[e] at h;exact h k
        · cases e
      · cases e
open Go.RowKit
theorem vY(hn : -1048576≤n∧n≤1048576) : Calls Tryz.prog 171 #[vI n] w (bW (vI (dP n)) w):=by
 refine en 14 Tryz.func171 rfl<|az 1<|sq<|az 2<|cb ((decide (n<1))) (fun a=>?_) (fun a=>?_)
 have c:=of_decide_eq_true a
 refine az 1<|bj<|rr (vI 0)<|?_
 have hs:dP n=0:=by rw[lm];split<;>(try split)<;>omega
 rw[hs]
 exact⟨rfl,(aE.refl [] _)⟩
 have c:=of_decide_eq_false a
 refine bz<|aq 1<|L0<|Oe (vI (IntKind.i64.wrap (Int.tdiv n 8))) (vI (n/8)) (congrArg (Value.int .i64) (fa (by omega) (by omega)))<|ap 1<|sq<|aq 1<|L0<|Oe (vI (Int.tmod n 8)) (vI (n%8)) (congrArg (Value.int .i64) (Int.tmod_eq_emod_of_nonneg (by omega)))<|ap 1<|cb ((decide (0<(n%8)))) (fun b=>?_) (fun b=>?_)
 have d:=of_decide_eq_true b
 refine go<|Pl 1<|be ((n/8)+1)<|Pl 1<|db 2<|rt<|rr (vI ((n/8)+1))<|?_
 have hs:dP n=((n/8)+1):=by rw[lm];split<;>(try split)<;>omega
 rw[hs]
 exact⟨rfl,(aE.refl [] _)⟩
 have d:=of_decide_eq_false b
 refine bz<|az 2<|rt<|rr (vI (n/8))<|?_
 have hs:dP n=(n/8):=by rw[lm];split<;>(try split)<;>omega
 rw[hs]
 exact⟨rfl,(aE.refl [] _)⟩
theorem oL(l:List Bool)(j t:Nat)(ht:t≤8) : cj (l.take (8*j+t)) j<2 ^ t:=by
  induction t with
  | zero=>rw[Nat.add_zero,ja];decide
  | succ t ih =>
    have h:=ih (by omega)
    rw[← Nat.add_assoc,ij (by omega),Nat.pow_succ]
    split<;>omega
theorem s9(ht:t≤8) : 2 ^ t≤256:=by
  rcases t with _|_|_|_|_|_|_|_|_|t
  case succ.succ.succ.succ.succ.succ.succ.succ.succ=>omega
  all_goals decide
theorem pf(h1:¬ 8*j<l.length)(h2:8*j<l.length+8) : (List.range j).map (fun i=>(cj l i:Int))=dj l:=ro (by omega) h2
theorem qL(hc:c=(cj (l.take (8*j+t)) j:Int))(ht:t≤8)(h:t=8∨l.length≤8*j+t) : c%256=(cj l j:Int):=by
  have h1:=oL l j t ht
  have h2:=s9 ht
  rw[pO h] at hc h1
  omega
theorem v9(h:iK m w (.slice A l.length cp) l)(hn:l.length≤1048576) : Calls Tryz.prog 223 #[.slice A l.length cp] w (tY l w):=by
 refine en 42 Tryz.func223 rfl<|aq 1<|db 1<|sq<|az 1<|bk<|gw (fun x=>[(0,.slice A l.length cp),(2,nS),(3,.slice x.2.2.1 x.2.1.length x.2.2.2),(4,vI ((8*x.1:Nat) : Int))]) (fun(x:Nat × List Int × Option Addr × Nat) w'=>aE [] w w'∧ef w.heap.size w' (.slice x.2.2.1 x.2.1.length x.2.2.2) x.2.1∧(8*x.1<l.length+8)∧(x.2.1=(List.range x.1).map (fun i=>(cj l i:Int)))) (fun x=>l.length+8-8*x.1) (0,[],none,0) ⟨aE.refl _ _,(aW.nil w.heap.size _ _ lO _),(by(try dsimp only);omega),rfl⟩ ?_
 rintro⟨j,L,B,cq⟩ q ⟨d,s,y,z⟩
 refine f5 [(0,.slice A l.length cp),(2,nS),(3,.slice B L.length cq),(4,vI ((8*j:Nat) : Int))] ?_
 have f:ef w.heap.size q (.slice B L.length cq) L:=s
 have Y:8*j<l.length+8:=y
 have g:L=(List.range j).map (fun i=>(cj l i:Int)):=z
 have hLn:L.length=j:=by rw[g,List.length_map,List.length_range]
 refine sq<|az 4<|cb ((decide (((8*j:Nat) : Int)<(l.length:Int)))) (fun k=>?_) (fun k=>?_)
 have C:=of_decide_eq_true k
 refine bz<|sq<|bk<|aq 1<|db 1<|sq<|az 2<|bk<|gw (fun x=>[(0,.slice A l.length cp),(2,nS),(3,.slice B L.length cq),(4,vI ((8*j:Nat) : Int)),(5,vI x.2.1),(6,vI x.2.2),(7,vI ((8*j+x.1:Nat) : Int)),(8,vI ((8*j:Nat) : Int)),(9,.slice A l.length cp),(10,vI (l.length:Int)),(11,.bool (decide (((8*j:Nat) : Int)<(l.length:Int)))),(14,vI ((8*j:Nat) : Int))]) (fun(x:Nat × Int × Int) w'=>aE [] q w'∧(x.1≤8)∧(x.2.1=(cj (l.take (8*j+x.1)) j:Int))∧(x.2.2=((2 ^ x.1:Nat) : Int))) (fun x=>8-x.1) (0,0,1) ⟨aE.refl _ _,(by(try dsimp only);omega),(by(try dsimp only);rw[Nat.add_zero,ja];rfl),rfl⟩ ?_
 rintro⟨t,c,u⟩ Z ⟨a,D,E,F⟩
 refine f5 [(0,.slice A l.length cp),(2,nS),(3,.slice B L.length cq),(4,vI ((8*j:Nat) : Int)),(5,vI c),(6,vI u),(7,vI ((8*j+t:Nat) : Int)),(8,vI ((8*j:Nat) : Int)),(9,.slice A l.length cp),(10,vI (l.length:Int)),(11,.bool (decide (((8*j:Nat) : Int)<(l.length:Int)))),(14,vI ((8*j:Nat) : Int))] ?_
 have a0:t≤8:=D
 have G:c=(cj (l.take (8*j+t)) j:Int):=E
 have a1:u=((2 ^ t:Nat) : Int):=F
 have hpl:=oL l j t (by omega)
 have hpp:=s9 (t:=t) (by omega)
 refine sq<|aq 5<|cY 5 [19] 24 19 (decide (((8*j+t:Nat) : Int)<(l.length:Int))) (decide (((8*j+t:Nat) : Int)<(((8*j:Nat) : Int)+8))) (fun K H I=>?_) ?_
 have a2:=of_decide_eq_true I
 exact Pl 2<|L1<|Oi (((8*j:Nat) : Int)+8)<|Pl 2<|ce H _ rfl
 refine nt<|?_
 have r:=aN d a
 refine cb (((decide (((8*j+t:Nat) : Int)<(l.length:Int)))&&(decide (((8*j+t:Nat) : Int)<(((8*j:Nat) : Int)+8))))) (fun b=>?_) (fun b=>?_)
 have J:=(aS b).1
 have M:=(aS b).2
 have a3:=of_decide_eq_true J
 have a4:=of_decide_eq_true M
 refine bz<|sq<|bk<|sq<|aq 2<|?_
 refine wH (iK.at_ (iK.old h r) (8*j+t) (by omega)) fun N O P Q=>L0<|hM l.length (8*j+t) P (by omega)<|L0<|dC (p:=⟨N,O+(8*j+t),none⟩) (v:=.bool (l.getD (8*j+t) false)) Q<|nt<|cb ((l.getD (8*j+t) false)) (fun n=>?_) (fun n=>?_)
 exact go<|Pl 2<|be (c+u)<|ap 1<|go<|Pl 1<|be (2*u)<|Pl 1<|nl<|bn<|tn<|go<|Pl 1<|be (((8*j+t:Nat) : Int)+1)<|Pl 1<|nl<|ed ((t+1),(c+u),(2*u)) ⟨a,(by(try dsimp only);omega),(by(try dsimp only);rw[← Nat.add_assoc,ij (by omega),if_pos n];omega),(by(try dsimp only);rw[Nat.pow_succ];omega)⟩ (by omega)
 exact bz<|go<|Pl 1<|be (2*u)<|Pl 1<|nl<|bn<|tn<|go<|Pl 1<|be (((8*j+t:Nat) : Int)+1)<|Pl 1<|nl<|ed ((t+1),c,(2*u)) ⟨a,(by(try dsimp only);omega),(by(try dsimp only);rw[← Nat.add_assoc,ij (by omega),if_neg (by rw[n];decide)];omega),(by(try dsimp only);rw[Nat.pow_succ];omega)⟩ (by omega)
 refine xt<|tx<|tx<|bx<|tn<|go<|Pl 3<|L0<|eX (m:=1) (e:=5) #[vB (c%256)] fun a5 a6 R S o=>?_
 have T:=jI R (xs:=[(c%256)]) (by as_aux_lemma=>kernel_rfl) (aF (by omega) cm) (by(try simp only[List.length_cons,List.length_nil]);omega) S
 refine L0<|rV lh (xs:=L) (ys:=([(c%256)])) (vB 0) 1 (al f (aN a o) (fun x hx=>av) (fun _ _ h=>h)) (T).rd (by(try simp only[d8,aQ]);omega) (le (le d.size a.size) o.size) fun U V a7 W X=>Pl 1<|nl<|bn<|tn<|go<|Pl 1<|be (((8*j:Nat) : Int)+8)<|Pl 1<|nl<|?_
 exact ed ((j+1),(L++[(c%256)]),U,V) ⟨(ut r (ut (aE.mono (S':=(ob B++[])) o aA) X (aB il aA)) (aB (bC f lr) aA)),W,(by(try dsimp only);omega),(by(try dsimp only);rw[g,List.range_succ,List.map_append];show _++[_]=_++[_];rw[qL G (by omega) (by have hq:=b;simp only[Bool.and_eq_false_iff,decide_eq_false_iff_not] at hq;omega)])⟩ (by omega)
 have C:=of_decide_eq_false k
 refine xt<|tx<|tx<|bx<|tn<|az 2<|rt<|rr (.slice B L.length cq)<|?_
 have hs:L=dj l:=by rw[g];exact pf (by omega) (by omega)
 exact⟨_,rfl,by rw[← hs];exact f,d⟩
theorem vy(h:iK m w v l)(hn:l.length≤1048576) : Calls Tryz.prog 223 #[v] w (tY l w):=by
  obtain⟨A,c,rfl,_,_⟩:=h.shape
  exact v9 h hn
theorem qX{P:Program}  {ev:Operand→Value}{o:Oper}{x y:Operand}{t t':TypeId}{a b:ByteArray}{v:Bool}(ho:o.op = .binOp .neq t x y t')(hx:ev x = .string a)(hy:ev y = .string b)(hv:(a.toList==b.toList)=v) : (execOp ev o).run P w = .ok (.value (.bool !v)) w:=by
  have hg:eqGuard .neq t x y (.string a) (.string b)=pure ():=rfl
  unfold execOp
  simp only[ho,hx,hy,hg,binOp_string_neq,Sem.run_bind,Sem.run_pure,Result.andThen,hv]
theorem xe{cs:Array Value}{xs:List Bool}(hg:w0.heap.size≤g)(hcs:cs=(xs.map Value.bool).toArray)(hl:xs.length≤4194304)(hb:w.heap[g]? = some (.cells cs 4 (0,0))) :
    th w0.heap.size w (.slice (some ⟨g,0,none⟩) xs.length xs.length) xs:=v7 (enc:=Value.bool) hg hcs (fun x h=>rfl) hl hb
theorem pg(h:c=x/2 ^ k) : c/2=x/2 ^ (k+1):=by
  rw[h,Int.ediv_ediv_of_nonneg (Int.le_of_lt (Int.pow_pos (by decide))),Int.pow_succ]
theorem qA(hx:0≤x∧x<256)  (h:c=x/2 ^ k) : 0≤c∧c<256:=by
  have h1:(1:Int)≤2 ^ k:=Int.pow_pos (by decide)
  subst h
  exact⟨Int.ediv_nonneg hx.1 (by omega),Int.lt_of_le_of_lt (Int.ediv_le_self _ hx.1) hx.2⟩
theorem qa{l:List Int}{i:Nat}(h:i<l.length) : l.getD i 0∈l:=by
  rw[List.getD_eq_getElem?_getD,List.getElem?_eq_getElem h]
  exact List.getElem_mem h
theorem ra(h:aX m w (.slice A b.length cp) b)(hl:b.length≤1048576)(hn : -1048576≤n∧n≤1048576) : Calls Tryz.prog 172 #[.slice A b.length cp,vI n] w (f9 b n w):=by
 have hb:=aX.range h
 refine en 51 Tryz.func172 rfl<|az 2<|sq<|aq 3<|ea 6 [12] 18 12 (decide (n<0)) (decide ((8*(b.length:Int))<n)) (fun K P Q=>?_) ?_
 have ad:=of_decide_eq_false Q
 exact Pl 3<|L1<|Oi (8*(b.length:Int))<|Pl 2<|ce P _ rfl
 refine nt<|cb (((decide (n<0))||(decide ((8*(b.length:Int))<n)))) (fun f=>?_) (fun f=>?_)
 refine az 2<|bj<|rr (.tuple #[nS,.bool false])<|?_
 have hq:=f
 have hs:bZ b n=none:=by unfold bZ;rw[if_neg];rintro⟨h1,h2⟩;simp only[Bool.or_eq_true,decide_eq_true_eq] at hq;rw[lm] at h2;split at h2<;>(try split at h2)<;>omega
 exact ej hs (aE.refl [] _)
 have R:=(ci f).1
 have S:=(ci f).2
 have ae:=of_decide_eq_false R
 have af:=of_decide_eq_false S
 refine bz<|az 1<|sq<|az 1<|bk<|gw (fun x=>[(0,.slice A b.length cp),(1,vI n),(4,nS),(5,.bool false),(6,.slice x.2.2.1 x.2.1.length x.2.2.2),(7,vI (x.1:Int))]) (fun(x:Nat × List Bool × Option Addr × Nat) w'=>aE [] w w'∧th w.heap.size w' (.slice x.2.2.1 x.2.1.length x.2.2.2) x.2.1∧((x.1:Int)≤n)∧(x.2.1=(List.range x.1).map (bP b))) (fun x=>n.toNat-x.1) (0,[],none,0) ⟨aE.refl _ _,(aW.nil w.heap.size _ _ mH _),(by(try dsimp only);omega),rfl⟩ ?_
 rintro⟨i,L,B,cq⟩ G ⟨g,T,U,V⟩
 refine f5 [(0,.slice A b.length cp),(1,vI n),(4,nS),(5,.bool false),(6,.slice B L.length cq),(7,vI (i:Int))] ?_
 have q:th w.heap.size G (.slice B L.length cq) L:=T
 have ag:(i:Int)≤n:=U
 have j:L=(List.range i).map (bP b):=V
 have hLn:L.length=i:=by rw[j,List.length_map,List.length_range]
 have hi8:((i:Int)/8).toNat=i/8:=by omega
 refine sq<|az 3<|cb ((decide ((i:Int)<n))) (fun r=>?_) (fun r=>?_)
 have W:=of_decide_eq_true r
 refine bz<|sq<|bk<|aq 2<|L0<|Oe (vI (IntKind.i64.wrap (Int.tdiv (i:Int) 8))) (vI ((i:Int)/8)) (congrArg (Value.int .i64) (fa (by omega) (by omega)))<|?_
 refine eF (aX.at_ (aX.old h g) ((((i:Int)/8)).toNat) (by omega)) fun s t X Y ah=>L0<|iS b.length ((((i:Int)/8)).toNat) ((i:Int)/8) (by omega) X (by omega)<|L0<|dC (p:=⟨s,t+((((i:Int)/8)).toNat),none⟩) (v:=vB (b.getD ((((i:Int)/8)).toNat) 0)) Y<|be (b.getD ((((i:Int)/8)).toNat) 0)<|ap 1<|sq<|az 1<|bk<|gw (fun x=>[(0,.slice A b.length cp),(1,vI n),(4,nS),(5,.bool false),(6,.slice B L.length cq),(7,vI (i:Int)),(8,vI x.2),(9,vI (x.1:Int)),(19,vI (i:Int)),(20,vI n),(21,.bool (decide ((i:Int)<n))),(24,.slice A b.length cp),(25,vI (i:Int)),(26,vI ((i:Int)/8)),(27,.pointer (some (⟨s,t+((((i:Int)/8)).toNat),none⟩))),(28,vB (b.getD ((((i:Int)/8)).toNat) 0)),(29,vI (b.getD ((((i:Int)/8)).toNat) 0))]) (fun(x:Nat × Int) w'=>aE [] G w'∧(x.1≤i%8)∧(x.2=b.getD (i/8) 0/2 ^ x.1)) (fun x=>8-x.1) (0,(b.getD ((((i:Int)/8)).toNat) 0)) ⟨aE.refl _ _,(by(try dsimp only);omega),(by(try dsimp only);rw[hi8,Int.pow_zero,Int.ediv_one])⟩ ?_
 rintro⟨k,c⟩ ai ⟨o,Z,a0⟩
 refine f5 [(0,.slice A b.length cp),(1,vI n),(4,nS),(5,.bool false),(6,.slice B L.length cq),(7,vI (i:Int)),(8,vI c),(9,vI (k:Int)),(19,vI (i:Int)),(20,vI n),(21,.bool (decide ((i:Int)<n))),(24,.slice A b.length cp),(25,vI (i:Int)),(26,vI ((i:Int)/8)),(27,.pointer (some (⟨s,t+((((i:Int)/8)).toNat),none⟩))),(28,vB (b.getD ((((i:Int)/8)).toNat) 0)),(29,vI (b.getD ((((i:Int)/8)).toNat) 0))] ?_
 have aj:k≤i%8:=Z
 have u:c=b.getD (i/8) 0/2 ^ k:=a0
 have hcr:=qA (hb _ (qa (l:=b) (i:=i/8) (by omega))) u
 refine sq<|aq 2<|L0<|Oe (vI (Int.tmod (i:Int) 8)) (vI ((i:Int)%8)) (congrArg (Value.int .i64) (Int.tmod_eq_emod_of_nonneg (by omega)))<|ap 1<|?_
 refine cb ((decide ((k:Int)<((i:Int)%8)))) (fun y=>?_) (fun y=>?_)
 have a1:=of_decide_eq_true y
 exact bz<|sq<|bk<|go<|Pl 1<|L0<|Oe (vI (IntKind.i64.wrap (Int.tdiv c 2))) (vI (c/2)) (congrArg (Value.int .i64) (fa (by omega) (by omega)))<|Pl 1<|nl<|bn<|tn<|go<|Pl 1<|be ((k:Int)+1)<|Pl 1<|nl<|ed ((k+1),(c/2)) ⟨o,(by(try dsimp only);omega),pg u⟩ (by omega)
 have a1:=of_decide_eq_false y
 refine xt<|tx<|tx<|bx<|tn<|go<|Pl 2<|L0<|Oe (vI (Int.tmod c 2)) (vI (c%2)) (congrArg (Value.int .i64) (Int.tmod_eq_emod_of_nonneg (by omega)))<|Pl 1<|L0<|eX (m:=1) (e:=4) #[.bool ((c%2)==1)] fun ak am a2 a3 z=>?_
 have a4:=xe a2 (xs:=[((c%2)==1)]) (by as_aux_lemma=>kernel_rfl)  (by(try simp only[List.length_cons,List.length_nil]);omega) a3
 refine L0<|rV rq (xs:=L) (ys:=([((c%2)==1)])) (.bool false) 1 (al q (aN o z) (fun x hx=>av) (fun _ _ h=>h)) (a4).rd (by(try simp only[d8,aQ]);omega) (le (le g.size o.size) z.size) fun a5 a6 an a7 a8=>Pl 1<|nl<|bn<|tn<|go<|Pl 1<|be ((i:Int)+1)<|Pl 1<|nl<|?_
 exact ed ((i+1),(L++[((c%2)==1)]),a5,a6) ⟨(ut (aN g o) (ut (aE.mono (S':=(ob B++[])) z aA) a8 (aB il aA)) (aB (bC q lr) aA)),a7,(by(try dsimp only);omega),(by(try dsimp only);rw[j,List.range_succ,List.map_append];show _++[_]=_++[bP b i];unfold bP;rw[u,show k=i%8 from by omega])⟩ (by omega)
 have W:=of_decide_eq_false r
 refine xt<|tx<|tx<|bx<|tn<|sq<|sq<|Rg 6 (fun w'=>aX false w' (.slice A b.length cp) b) fun ao H=>?_
 have I:=aN g H
 have C:=aX.old h I
 refine bA (aI.any C (fun _ _ h=>h)) fun D=>Rt 0 D<|Rt 3 D<|Rr 4 D (.string (strOfNums b)) (fun _ hs=>dD (A:=A) (n:=b.length) (c:=cp) rfl (by kernel_rfl) Tryz.underlying27 Tryz.underlying5 Tryz.underlying9 hs)<|?_
 have J:=al q H (fun x hx=>av) (fun _ _ h=>h)
 refine R0 1 rfl<|Oc<|tv (vy (J).rd (by omega)) fun a9 aa ar M au aw E=>?_
 have N:=aX.old C E
 refine bA (aI.any N (fun _ _ h=>h)) fun ax=>R0 2 rfl<|gy (.string (strOfNums (dj L))) (dD (A:=a9) (n:=(dj L).length) (c:=aa) rfl (by kernel_rfl) Tryz.underlying27 Tryz.underlying5 Tryz.underlying9 (M).rd)<|bA (aI.any N (fun _ _ h=>h)) fun ab=>Rr 5 ab (.bool (!(decide ((dj L)=b)))) (fun _ _=>qX (a:=(strOfNums (dj L))) (b:=(strOfNums b)) rfl (by kernel_rfl) (by kernel_rfl) (ow (M).rd C))<|re<|tn<|?_
 have O:=aN I E
 refine cb ((!(decide ((dj L)=b)))) (fun d=>?_) (fun d=>?_)
 have F:(decide ((dj L)=b))=false:=by simpa using d
 have ac:=of_decide_eq_false F
 refine az 2<|bj<|rr (.tuple #[nS,.bool false])<|?_
 have hL:L=(List.range n.toNat).map (bP b):=by rw[j,show i=n.toNat from by omega]
 have hu:=mB (n:=n) hb (by omega)
 rw[if_neg (by rw[← hL];simpa using d)] at hu
 exact ej hu O
 have F:(decide ((dj L)=b))=true:=by simpa using d
 have ac:=of_decide_eq_true F
 refine bz<|az 3<|rt<|rr (.tuple #[.slice B L.length cq,.bool true])<|?_
 have hL:L=(List.range n.toNat).map (bP b):=by rw[j,show i=n.toNat from by omega]
 have hu:=mB (n:=n) hb (by omega)
 rw[if_pos (by rw[← hL];simpa using d),← hL] at hu
 exact⟨_,by rw[hu];rfl,by rw[hu];exact(al J E (fun x hx=>av) (fun _ _ h=>h)),O⟩
theorem sG(h:aX m w v b)(hl:b.length≤1048576)(hn : -1048576≤n∧n≤1048576) : Calls Tryz.prog 172 #[v,.int .i64 n] w (f9 b n w):=by
  obtain⟨A,c,rfl,_,_⟩:=h.shape
  exact ra h hl hn
open Go.RowKit
def t1 (w0:World)(m:Md)(A:Option Addr)(cp:Nat)(full:List Int)(g gm:Nat)(C':ah)(cs:Array Value)(w:World)(e:Ending)(w':World) : Prop:=e = .returned (.tuple #[])∧RC w0 m A cp full w' g C'∧w'.heap[gm]? = some (.cells cs 45 (0,0))∧aE [g,gm] w w'
theorem lA{gm:Nat}   {most:Int}(hcode:B8 c)(hC:RC w0 m A cp full w g C)(hm:w.heap[gm]? = some (.cells (mC c) 45 (0,0)))(hgm:w0.heap.size≤gm)(hne:g≠gm) :
    Calls Tryz.prog 166 #[vP g 0,vP gm 0,vI most] w (t1 w0 m A cp full g gm (bV C most) (mG c 0 C.wordV (C.wordsC 1).wordV 0 0 0 0 0 0 0 0 nS nS nS nS 0 0 0 0 0 nS) w):=by
 obtain⟨hcode1,hcode2⟩:=hcode
 have hrng:=bF (RC.rng hC)
 refine en 39 Tryz.func166 rfl<|aq 2<|ax<|m3 (ca hC) fun F r d G=>Pl 2<|?_
 refine L0<|bD (aV d (Ne.symm hne) hm) 2 (mG c 0 C.wordV 0 0 0 0 0 0 0 0 0 nS nS nS nS 0 0 0 0 0 nS) fun H dB e=>aL 2<|?_
 have f:=us d e
 refine ax<|m3 (ca (RC.upd r e (aa hne av) (hC.u.trans' f (fun x hx=>.inr (by simp at hx;rcases hx with rfl | rfl;exact hC.new;exact hgm))))) fun I s h J=>Pl 2<|?_
 refine L0<|bD (aV h (Ne.symm hne) dB) 3 (mG c 0 C.wordV ((C.wordsC 1).wordV) 0 0 0 0 0 0 0 0 nS nS nS nS 0 0 0 0 0 nS) fun L i j=>aL 3<|aH i 3<|be ((C.wordsC 1).wordV)<|Pl 1<|aL 4<|cY 4 [25] 29 25 (decide (0<((C.wordsC 1).wordV))) (decide (((C.wordsC 1).wordV)≤most)) (fun K t v=>?_) ?_
 have M:=of_decide_eq_true v
 exact Pl 4<|ce t _ rfl
 have k:=ut f (us h j) (ac im (ac im aA))
 refine ax<|m2 (aR (((decide (0<((C.wordsC 1).wordV)))&&(decide (((C.wordsC 1).wordV)≤most)))) 5 (RC.upd s j (aa hne av) (hC.u.trans' k (fun x hx=>.inr (by simp at hx;rcases hx with rfl | rfl;exact hC.new;exact hgm))))) fun y z l=>?_
 refine eU z fun x36 B o=>?_
 refine nt<|go<|Pl 4<|?_
 have p:=aV l (Ne.symm hne) i
 refine aH p 2<|Pl 1<|ax<|m1 (oB (a:=C.wordV) (n:=(C.wordsC 1).wordV) (w:=y) (by omega) (by omega)) fun N b=>?_
 refine ax<|m2 (aR ((cK C.wordV ((C.wordsC 1).wordV))) 7 (RC.upd o b av (aE.step (RC.u o) b))) fun O D E=>nl<|rm (.tuple #[])<|?_
 subst B
 have hs:bV C most=((((C.wordsC 1).wordsC 1).need ((decide (0<((C.wordsC 1).wordV)))&&(decide (((C.wordsC 1).wordV)≤most))) 5).need (cK C.wordV ((C.wordsC 1).wordV)) 7):=by
   unfold bV ir
   (try simp only[bq,dY,reduceIte])
   all_goals rfl
 rw[hs]
 have q:=uz b E
 exact⟨rfl,D,(aV q (Ne.symm hne) p),(u1 k (u1 l q im) im)⟩
theorem jp(hcode:B8 c)(hsl:aX m w (.slice A b.length cp) b)(hb:b.length≤1048576) :
    Calls Tryz.prog 109 #[vI 0,vB c,.slice A b.length cp] w (cz (.slice A b.length cp) b (aj aP 0 c b) w):=by
 obtain⟨hcode1,hcode2⟩:=hcode
 have hln:(b.length:Int)≤1048576:=by omega
 refine en 113 Tryz.func109 rfl<|sg<|aK mZ fun a6 cm S t d=>ap 1<|sq<|az 6<|c0<|bz<|aq 2<|L0<|dF #[.slice A b.length cp,vI 0,.bool false,vI 0] fun k co i l f=>Pl 1<|aL 2<|aK mZ fun q cq a a7 a8=>aD a7 (mC c) fun a9 L T=>?_
 refine nt<|?_
 have ab:=ud a8 T a
 have y:=aN f ab
 have z:=aN d y
 have g:RC w _ A cp b a9 k (ah.mk b false 0):=⟨hsl,z,(Nat.le_trans d.size i),⟨0,(ub ab l),Nat.zero_le _,rfl⟩,by omega⟩
 refine sn (fun x=>[(6,vP a6 0),(8,vP k 0),(9,vP q 0)]) (fun(x:ah × Array Value × b7) w'=>aE [k,q] a9 w'∧RC w m A cp b w' k x.1∧w'.heap[q]? = some (.cells x.2.1 45 (0,0))∧bE (.slice A b.length cp) b w' x.2.1.toList x.2.2∧(aj aP 0 c b=bp x.2.2 x.1)) ?_ ?_
 rintro⟨C,cs,M⟩ U ⟨ad,bf,bg,bh,bi⟩
 refine f5 [(6,vP a6 0),(8,vP k 0),(9,vP q 0)] ?_
 have ae:RC w m A cp b U k C:=bf
 have bl:U.heap[q]? = some (.cells cs 45 (0,0)):=bg
 have N:bE (.slice A b.length cp) b U cs.toList M:=bh
 have V:=bE.size N
 have af:aj aP 0 c b=bp M C:=bi
 refine aq 1<|ax<|m2 (ki ae) fun cr W X=>nt<|sq<|aq 3<|L0<|dC (p:=⟨k,3,none⟩) (v:=vI C.endC.e) (RC.fld W)<|ap 1<|?_
 have Y:=u1 ad X im
 have an:=ut z Y (ac (ni d.size i) (ac (ni (le d.size f.size) a) aA))
 refine cb ((C.endC.e != 0)) (fun Z=>?_) (fun Z=>?_)
 have a0:=ay Z
 refine sq<|Rg 7 (fun w'=>w'.cell? ⟨k,3,none⟩=some (vI C.endC.e)) fun cu O=>?_
 have ao:=RC.upd W O av (aE.step (RC.u W) O)
 refine bA (RC.fld ao) fun B=>Rt 0 B<|Rt 1 B<|Rt 2 B<|Rt 3 B<|Rl 4 B (fun _ hs=>hs)<|?_
 refine R0 5 rfl<|j5 (ub (ut y (aN Y O) (ac (nr i) (ac (ni f.size a) aA))) t) mZ fun cv bm ar=>?_
 have aw:=ud an (uz O ar) S
 refine bA (RC.fld (RC.upd ao ar (aa (Ne.symm (nb (ag t) lr i)) av) aw)) fun bs=>Rt 6 bs<|re<|tn<|bj<|c8 bm (vI C.endC.e)<|?_
 rw[af]
 exact cn a0 aw
 have a0:=aJ Z
 refine bz<|sg<|?_
 refine L0<|cJ (hz:=(by rw[V];exact b6)) (aV X (Ne.symm (nb (ag l) lr a)) bl)<|?_
 refine aD (hz:=(by rw[V];exact b6)) (hv:=(bE.size N)) (h1:=(bE.one N hsl)) (ub (ut y Y (ac (nr i) (ac (ni f.size a) aA))) t) (cs) fun cw bt aB=>ap 1<|rt<|eu 22 V bt (vI 0)<|?_
 rw[af]
 exact cM a0 (bE.upd N (us X aB) (ai (RC.safe ae _ (by decide)) (ai (aT (ub (ut y ad (ac (nr i) (ac (ni f.size a) aA))) t) (by decide)) aC))) (ud an aB S)
 refine az 1<|bk<|sq<|az 2<|cb ((c==1)) (fun j=>?_) (fun j=>?_)
 have bu:=ak j
 refine bz<|ct j<|sq<|az 2<|c1<|aq 1<|?_
 refine ax<|m3 (lA (most:=2000) (b8 (by omega)) g L (Nat.le_trans (le d.size f.size) a) (nb (ag l) lr a)) fun cx bv bw bB=>?_
 have cy:=bF (RC.rng g)
 have cA:=bF (c:=(ah.mk b false 0).wordsC 1) (c6 (RC.rng g) 1)
 exact nt<|xt<|tx<|bx<|jn ((bV (ah.mk b false 0) 2000),_,(b7.mk c 0 ((ah.mk b false 0).wordV) (((ah.mk b false 0).wordsC 1).wordV) 0 0 0 0 0 0 0 0 [] [] [] [] 0 0 0 0 0 [])) ⟨bB,bv,bw,⟨_,_,_,_,_,rfl,aI.nil ..,aI.nil ..,(fun _ _ _=>aI.nil ..),aI.nil ..,aI.nil ..,(bT (by omega))⟩,by unfold aj aP dm dg cL fS oH gE oU od oq dA eO;(try simp only[j,bq,cR,cN,cO,cQ,cP,reduceIte,dY])<;>rfl⟩
 have bu:=au j
 refine go<|ap 2<|cb ((c==2)) (fun o=>?_) (fun o=>?_)
 have bC:=ak o
 refine sq<|az 2<|c1<|aq 1<|?_
 refine ax<|m3 (lA (most:=2000) (b8 (by omega)) g L (Nat.le_trans (le d.size f.size) a) (nb (ag l) lr a)) fun cB bG bH bI=>?_
 have cC:=bF (RC.rng g)
 have cD:=bF (c:=(ah.mk b false 0).wordsC 1) (c6 (RC.rng g) 1)
 exact nt<|xt<|tx<|bx<|jn ((bV (ah.mk b false 0) 2000),_,(b7.mk c 0 ((ah.mk b false 0).wordV) (((ah.mk b false 0).wordsC 1).wordV) 0 0 0 0 0 0 0 0 [] [] [] [] 0 0 0 0 0 [])) ⟨bI,bG,bH,⟨_,_,_,_,_,rfl,aI.nil ..,aI.nil ..,(fun _ _ _=>aI.nil ..),aI.nil ..,aI.nil ..,(bT (by omega))⟩,by unfold aj aP dm dg cL fS oH gE oU od oq dA eO;(try simp only[j,o,bq,cR,cN,cO,cQ,cP,reduceIte,dY])<;>rfl⟩
 have bC:=au o
 refine az 2<|cb ((c==5)) (fun r=>?_) (fun r=>?_)
 have bJ:=ak r
 refine aq 1<|ax<|m3 (ca g) fun cE bK aF cF=>Pl 1<|?_
 have D:=nb (ag l) lr a
 refine L0<|bD (aV aF (Ne.symm D) L) 2 (mG c 0 ((ah.mk b false 0).wordV) 0 0 0 0 0 0 0 0 0 nS nS nS nS 0 0 0 0 0 nS) fun cG bL aM=>aL 1<|?_
 have aO:=us aF aM
 have aQ:=ut z aO (ac (ni d.size i) (ac (ni (le d.size f.size) a) aA))
 refine ax<|m3 (ca (RC.upd bK aM (aa D av) aQ)) fun cH bM aS cI=>Pl 1<|?_
 refine L0<|bD (aV aS (Ne.symm D) bL) 4 (mG c 0 ((ah.mk b false 0).wordV) 0 (((ah.mk b false 0).wordsC 1).wordV) 0 0 0 0 0 0 0 nS nS nS nS 0 0 0 0 0 nS) fun cK a1 aU=>nt<|go<|Pl 2<|aH a1 4<|Pl 2<|ea 4 [62] 66 62 ((((ah.mk b false 0).wordsC 1).wordV)==0) ((((ah.mk b false 0).wordsC 1).wordV)==65280) (fun K bN bO=>?_) ?_
 have cT:=au bO
 exact Pl 1<|L1<|cS a1 4<|Pl 2<|ce bN _ rfl
 have aW:=us aS aU
 refine ax<|m2 (aR ((((((ah.mk b false 0).wordsC 1).wordV)==0)||((((ah.mk b false 0).wordsC 1).wordV)==65280))) 6 (RC.upd bM aU (aa D av) (ut aQ aW (ac (ni d.size i) (ac (ni (le d.size f.size) a) aA))))) fun cU bP aY=>?_
 refine eU bP fun bQ bR bS=>?_
 refine nl<|bn<|?_
 exact jn (bQ,_,(b7.mk c 0 ((ah.mk b false 0).wordV) 0 (((ah.mk b false 0).wordsC 1).wordV) 0 0 0 0 0 0 0 [] [] [] [] 0 0 0 0 0 [])) ⟨(ut aO (u1 aW aY im) (ac im (ac im aA))),bS,(aV aY (Ne.symm D) a1),⟨_,_,_,_,_,rfl,aI.nil ..,aI.nil ..,(fun _ _ _=>aI.nil ..),aI.nil ..,aI.nil ..,(bT (by omega))⟩,by subst bR;unfold aj aP dm dg cL fS oH gE oU od oq dA eO;(try simp only[j,o,r,bq,cR,cN,cO,cQ,cP,reduceIte,dY])<;>rfl⟩
 have bJ:=au r
 refine az 2<|cb ((c==15)) (fun E=>?_) (fun E=>?_)
 have bU:=ak E
 refine aq 1<|?_
 have s:=nb (ag l) lr a
 refine ax<|m3 (lA (most:=1968) (b8 (by omega)) g L (Nat.le_trans (le d.size f.size) a) s) fun cV bW bX a2=>?_
 have cW:=bF (RC.rng g)
 have cX:=bF (c:=(ah.mk b false 0).wordsC 1) (c6 (RC.rng g) 1)
 refine nt<|sq<|az 2<|c0<|bz<|aq 1<|ax<|m3 (dk bW) fun bY aZ P cY=>?_
 refine be ((bV (ah.mk b false 0) 1968).byteV)<|Pl 1<|aL 3<|?_
 have b0:=aV P (Ne.symm s) bX
 refine aH b0 3<|be (((ah.mk b false 0).wordsC 1).wordV)<|ax<|m1 (vY (n:=((ah.mk b false 0).wordsC 1).wordV) (w:=bY) (by omega)) fun d0 F=>Pl 1<|?_
 refine ax<|m2 (aR ((((bV (ah.mk b false 0) 1968).byteV)==(dP (((ah.mk b false 0).wordsC 1).wordV)))) 5 (RC.upd aZ F av (aE.step (RC.u aZ) F))) fun d1 c2 a3=>?_
 refine eU c2 fun G c3 b1=>?_
 refine nt<|sq<|Rg 12 (fun w'=>w'.cell? ⟨q,3,none⟩=some (vW (((ah.mk b false 0).wordsC 1).wordV))) fun d2 H=>?_
 have b2:=uz F (aN a3 H)
 have b3:=aV b2 (Ne.symm s) b0
 refine bA (am b3 rfl) fun I=>Rt 0 I<|Rt 1 I<|Rt 3 I<|Rl 4 I (fun _ hs=>hs)<|Rr 5 I (vI (((ah.mk b false 0).wordsC 1).wordV)) (fun _ _=>c9 (vI (IntKind.i64.wrap (((ah.mk b false 0).wordsC 1).wordV))) (by kernel_rfl) (congrArg (Value.int .i64) (i64_in (by omega))))<|?_
 have b4:=RC.upd b1 H av (aE.step (RC.u b1) H)
 refine R0 2 rfl<|Oc<|nc (eQ (n:=(bV (ah.mk b false 0) 1968).byteV) (by omega) b4) fun c4 c5 d3 c7 a4 Q=>?_
 have d4:=Nat.le_trans (ah.bytesR_le G ((bV (ah.mk b false 0) 1968).byteV)) (RC.clen b4)
 have b5:=aV Q (Ne.symm s) b3
 refine bA (am b5 rfl) fun d5=>R0 6 rfl<|Oc (args:=#[.slice c4 ((G.bytesR ((bV (ah.mk b false 0) 1968).byteV)).length) c5,vI (((ah.mk b false 0).wordsC 1).wordV)])<|tv (sG (n:=((ah.mk b false 0).wordsC 1).wordV) (c7 _ _ (RC.rd a4)) (by omega) (by omega)) fun cc cd d6 a5 d7 d8 R=>?_
 have b9:=ub R b5
 refine bA (am b9 rfl) fun J=>Rt 7 J<|Rt 8 J<|Rt 9 J<|Rt 10 J<|Rt 11 J<|re<|tn<|aq 2<|?_
 refine ax<|m2 (aR ((bZ (G.bytesR ((bV (ah.mk b false 0) 1968).byteV)) (((ah.mk b false 0).wordsC 1).wordV)).isSome) 6 (RC.upd a4 R av (aE.step (RC.u a4) R))) fun d9 cf ba=>?_
 refine eU cf fun cg ch ci=>?_
 refine nt<|go<|Pl 2<|?_
 refine L0<|bD (aV ba (Ne.symm s) b9) 13 (mG c 0 ((ah.mk b false 0).wordV) (((ah.mk b false 0).wordsC 1).wordV) 0 0 0 0 0 0 0 0 nS (.slice cc (((bZ (G.bytesR ((bV (ah.mk b false 0) 1968).byteV)) (((ah.mk b false 0).wordsC 1).wordV)).getD []).length) cd) nS nS 0 0 0 0 0 nS) fun da cj bb=>nl<|bn<|?_
 have bc:=us ba bb
 have bd:=ut a2 (ui P (ui b2 (ui Q (uz R bc)))) (ac im (ac im aA))
 exact jn (cg,_,(b7.mk c 0 ((ah.mk b false 0).wordV) (((ah.mk b false 0).wordsC 1).wordV) 0 0 0 0 0 0 0 0 [] ((bZ (G.bytesR ((bV (ah.mk b false 0) 1968).byteV)) (((ah.mk b false 0).wordsC 1).wordV)).getD []) [] [] 0 0 0 0 0 [])) ⟨bd,(RC.upd ci bb (aa s av) (ut z bd (ac (ni d.size i) (ac (ni (le d.size f.size) a) aA)))),cj,⟨_,_,_,_,_,rfl,aI.nil ..,((al a5 bc (fun x hx=>(aa (fun e=>(aG (ag l) (le (le (le (le (le (le (le a8.size T.size) a2.size) P.size) F.size) a3.size) H.size) Q.size) a5) (e▸hx)) (aa (fun e=>(aG (ag a7) (le (le (le (le (le (le T.size a2.size) P.size) F.size) a3.size) H.size) Q.size) a5) (e▸hx)) av))) (fun _ _ h=>h))).rd,(fun _ _ _=>aI.nil ..),aI.nil ..,aI.nil ..,(bT (by omega))⟩,by subst ch c3;unfold aj aP dm dg cL fS oH gE oU od oq dA eO;(try simp only[j,o,r,E,bq,cR,cN,cO,cQ,cP,reduceIte,dY])<;>rfl⟩
 have bU:=au E
 refine aq 1<|?_
 refine aD (ub y t) mZ fun db ck cl=>ap 1<|rt<|br<|tr<|c8 ck (vI 4)<|?_
 exact cZ (by unfold aj aP dm dg cL fS oH gE oU od oq dA eO;(try simp only[j,o,r,E,bq,cR,cN,cO,cQ,cP,reduceIte,dY])<;>rfl) (bo (ud z cl S))
theorem jw(hcode:B8 c)(hsl:aX m w (.slice A b.length cp) b)(hb:b.length≤1048576) :
    Calls Tryz.prog 109 #[vI 1,vB c,.slice A b.length cp] w (cz (.slice A b.length cp) b (aj aP 1 c b) w):=by
 obtain⟨hcode1,hcode2⟩:=hcode
 have hln:(b.length:Int)≤1048576:=by omega
 refine en 113 Tryz.func109 rfl<|sg<|aK mZ fun S c5 H r d=>ap 1<|sq<|az 6<|c0<|bz<|aq 2<|L0<|dF #[.slice A b.length cp,vI 0,.bool false,vI 0] fun i c7 f k g=>Pl 1<|aL 2<|aK mZ fun s c9 a aF aG=>aD aF (mC c) fun T D aM=>?_
 refine nt<|?_
 have U:=ud aG aM a
 have t:=aN g U
 have l:=aN d t
 have o:RC w _ A cp b T i (ah.mk b false 0):=⟨hsl,l,(Nat.le_trans d.size f),⟨0,(ub U k),Nat.zero_le _,rfl⟩,by omega⟩
 refine sn (fun x=>[(6,vP S 0),(8,vP i 0),(9,vP s 0)]) (fun(x:ah × Array Value × b7) w'=>aE [i,s] T w'∧RC w m A cp b w' i x.1∧w'.heap[s]? = some (.cells x.2.1 45 (0,0))∧bE (.slice A b.length cp) b w' x.2.1.toList x.2.2∧(aj aP 1 c b=bp x.2.2 x.1)) ?_ ?_
 rintro⟨C,cs,M⟩ I ⟨V,aO,aQ,aS,aU⟩
 refine f5 [(6,vP S 0),(8,vP i 0),(9,vP s 0)] ?_
 have W:RC w m A cp b I i C:=aO
 have aW:I.heap[s]? = some (.cells cs 45 (0,0)):=aQ
 have E:bE (.slice A b.length cp) b I cs.toList M:=aS
 have J:=bE.size E
 have X:aj aP 1 c b=bp M C:=aU
 refine aq 1<|ax<|m2 (ki W) fun cc L N=>nt<|sq<|aq 3<|L0<|dC (p:=⟨i,3,none⟩) (v:=vI C.endC.e) (RC.fld L)<|ap 1<|?_
 have O:=u1 V N im
 have Y:=ut l O (ac (ni d.size f) (ac (ni (le d.size g.size) a) aA))
 refine cb ((C.endC.e != 0)) (fun P=>?_) (fun P=>?_)
 have Q:=ay P
 refine sq<|Rg 7 (fun w'=>w'.cell? ⟨i,3,none⟩=some (vI C.endC.e)) fun cd F=>?_
 have Z:=RC.upd L F av (aE.step (RC.u L) F)
 refine bA (RC.fld Z) fun y=>Rt 0 y<|Rt 1 y<|Rt 2 y<|Rt 3 y<|Rl 4 y (fun _ hs=>hs)<|?_
 refine R0 5 rfl<|j5 (ub (ut t (aN O F) (ac (nr f) (ac (ni g.size a) aA))) r) mZ fun cf aY a0=>?_
 have a1:=ud Y (uz F a0) H
 refine bA (RC.fld (RC.upd Z a0 (aa (Ne.symm (nb (ag r) lr f)) av) a1)) fun aZ=>Rt 6 aZ<|re<|tn<|bj<|c8 aY (vI C.endC.e)<|?_
 rw[X]
 exact cn Q a1
 have Q:=aJ P
 refine bz<|sg<|?_
 refine L0<|cJ (hz:=(by rw[J];exact b6)) (aV N (Ne.symm (nb (ag k) lr a)) aW)<|?_
 refine aD (hz:=(by rw[J];exact b6)) (hv:=(bE.size E)) (h1:=(bE.one E hsl)) (ub (ut t O (ac (nr f) (ac (ni g.size a) aA))) r) (cs) fun cg b0 a2=>ap 1<|rt<|eu 22 J b0 (vI 0)<|?_
 rw[X]
 exact cM Q (bE.upd E (us N a2) (ai (RC.safe W _ (by decide)) (ai (aT (ub (ut t V (ac (nr f) (ac (ni g.size a) aA))) r) (by decide)) aC))) (ud Y a2 H)
 refine az 1<|bk<|sq<|az 2<|cb ((c==1)) (fun h=>?_) (fun h=>?_)
 have b1:=ak h
 refine bz<|ct h<|sq<|az 2<|c0<|bz<|aq 1<|ax<|m3 (dk o) fun ch b2 b3 ci=>be ((ah.mk b false 0).byteV)<|Pl 1<|aL 4<|cY 3 [41] 44 41 (decide (0<((ah.mk b false 0).byteV))) (decide (((ah.mk b false 0).byteV)≤250)) (fun K b4 b5=>?_) ?_
 have cj:=of_decide_eq_true b5
 exact Pl 3<|ce b4 _ rfl
 refine ax<|m2 (aR (((decide (0<((ah.mk b false 0).byteV)))&&(decide (((ah.mk b false 0).byteV)≤250)))) 5 b2) fun ck b9 ba=>?_
 refine eU b9 fun x92 bb a3=>?_
 refine nt<|go<|Pl 2<|ax<|nc (eQ (n:=(ah.mk b false 0).byteV) (by omega) a3) fun bc bd cl bf bg bh=>?_
 have cm:=Nat.le_trans (ah.bytesR_le x92 ((ah.mk b false 0).byteV)) (RC.clen a3)
 refine Pl 1<|?_
 have a4:=u1 b3 (u1 ba bh im) im
 have a5:=nb (ag k) lr a
 refine L0<|bD (aV a4 (Ne.symm a5) D) 14 (mG c 0 0 0 0 0 0 0 0 0 0 0 nS nS (.slice bc ((x92.bytesR ((ah.mk b false 0).byteV)).length) bd) nS 0 0 0 0 0 nS) fun co bi a6=>nl<|bn<|?_
 have a7:=us a4 a6
 exact jn ((x92.bytesC ((ah.mk b false 0).byteV)),_,(b7.mk c 0 0 0 0 0 0 0 0 0 0 0 [] [] (x92.bytesR ((ah.mk b false 0).byteV)) [] 0 0 0 0 0 [])) ⟨a7,(RC.upd bg a6 (aa a5 av) (ut l a7 (ac (ni d.size f) (ac (ni (le d.size g.size) a) aA)))),bi,⟨_,_,_,_,_,rfl,aI.nil ..,aI.nil ..,bf,aI.nil ..,aI.nil ..,(bT (by omega))⟩,by subst bb;unfold aj aP dm dg cL fS oH gE oU od oq dA eO;(try simp only[h,bq,cR,cN,cO,cQ,cP,reduceIte,dY])<;>rfl⟩
 have b1:=au h
 refine go<|ap 2<|cb ((c==2)) (fun j=>?_) (fun j=>?_)
 have bl:=ak j
 refine sq<|az 2<|c0<|bz<|aq 1<|ax<|m3 (dk o) fun cq bm bs cr=>be ((ah.mk b false 0).byteV)<|Pl 1<|aL 4<|cY 3 [41] 44 41 (decide (0<((ah.mk b false 0).byteV))) (decide (((ah.mk b false 0).byteV)≤250)) (fun K bt bu=>?_) ?_
 have cu:=of_decide_eq_true bu
 exact Pl 3<|ce bt _ rfl
 refine ax<|m2 (aR (((decide (0<((ah.mk b false 0).byteV)))&&(decide (((ah.mk b false 0).byteV)≤250)))) 5 bm) fun cv bv bw=>?_
 refine eU bv fun G bB a8=>?_
 refine nt<|go<|Pl 2<|ax<|nc (eQ (n:=(ah.mk b false 0).byteV) (by omega) a8) fun bC bG cw bH bI bJ=>?_
 have cx:=Nat.le_trans (ah.bytesR_le G ((ah.mk b false 0).byteV)) (RC.clen a8)
 refine Pl 1<|?_
 have a9:=u1 bs (u1 bw bJ im) im
 have ab:=nb (ag k) lr a
 refine L0<|bD (aV a9 (Ne.symm ab) D) 14 (mG c 0 0 0 0 0 0 0 0 0 0 0 nS nS (.slice bC ((G.bytesR ((ah.mk b false 0).byteV)).length) bG) nS 0 0 0 0 0 nS) fun cy bK ad=>nl<|bn<|?_
 have ae:=us a9 ad
 exact jn ((G.bytesC ((ah.mk b false 0).byteV)),_,(b7.mk c 0 0 0 0 0 0 0 0 0 0 0 [] [] (G.bytesR ((ah.mk b false 0).byteV)) [] 0 0 0 0 0 [])) ⟨ae,(RC.upd bI ad (aa ab av) (ut l ae (ac (ni d.size f) (ac (ni (le d.size g.size) a) aA)))),bK,⟨_,_,_,_,_,rfl,aI.nil ..,aI.nil ..,bH,aI.nil ..,aI.nil ..,(bT (by omega))⟩,by subst bB;unfold aj aP dm dg cL fS oH gE oU od oq dA eO;(try simp only[h,j,bq,cR,cN,cO,cQ,cP,reduceIte,dY])<;>rfl⟩
 have bl:=au j
 refine az 2<|cb ((c==5)) (fun q=>?_) (fun q=>?_)
 have bL:=ak q
 refine aq 1<|ax<|m3 (ca o) fun cA bM af cB=>Pl 1<|?_
 have z:=nb (ag k) lr a
 refine L0<|bD (aV af (Ne.symm z) D) 2 (mG c 0 ((ah.mk b false 0).wordV) 0 0 0 0 0 0 0 0 0 nS nS nS nS 0 0 0 0 0 nS) fun cC bN al=>aL 1<|?_
 have am:=us af al
 have an:=ut l am (ac (ni d.size f) (ac (ni (le d.size g.size) a) aA))
 refine ax<|m3 (ca (RC.upd bM al (aa z av) an)) fun cD bO ao cE=>Pl 1<|?_
 refine L0<|bD (aV ao (Ne.symm z) bN) 4 (mG c 0 ((ah.mk b false 0).wordV) 0 (((ah.mk b false 0).wordsC 1).wordV) 0 0 0 0 0 0 0 nS nS nS nS 0 0 0 0 0 nS) fun cF R ar=>nt<|go<|Pl 2<|aH R 4<|Pl 2<|ea 4 [62] 66 62 ((((ah.mk b false 0).wordsC 1).wordV)==0) ((((ah.mk b false 0).wordsC 1).wordV)==65280) (fun K bP bQ=>?_) ?_
 have cG:=au bQ
 exact Pl 1<|L1<|cS R 4<|Pl 2<|ce bP _ rfl
 have aw:=us ao ar
 refine ax<|m2 (aR ((((((ah.mk b false 0).wordsC 1).wordV)==0)||((((ah.mk b false 0).wordsC 1).wordV)==65280))) 6 (RC.upd bO ar (aa z av) (ut an aw (ac (ni d.size f) (ac (ni (le d.size g.size) a) aA))))) fun cH bR aB=>?_
 refine eU bR fun bS bU bW=>?_
 refine nl<|bn<|?_
 exact jn (bS,_,(b7.mk c 0 ((ah.mk b false 0).wordV) 0 (((ah.mk b false 0).wordsC 1).wordV) 0 0 0 0 0 0 0 [] [] [] [] 0 0 0 0 0 [])) ⟨(ut am (u1 aw aB im) (ac im (ac im aA))),bW,(aV aB (Ne.symm z) R),⟨_,_,_,_,_,rfl,aI.nil ..,aI.nil ..,(fun _ _ _=>aI.nil ..),aI.nil ..,aI.nil ..,(bT (by omega))⟩,by subst bU;unfold aj aP dm dg cL fS oH gE oU od oq dA eO;(try simp only[h,j,q,bq,cR,cN,cO,cQ,cP,reduceIte,dY])<;>rfl⟩
 have bL:=au q
 refine az 2<|cb ((c==15)) (fun B=>?_) (fun B=>?_)
 have bX:=ak B
 refine aq 1<|?_
 refine ax<|m3 (lA (most:=1968) (b8 (by omega)) o D (Nat.le_trans (le d.size g.size) a) (nb (ag k) lr a)) fun cI bY bZ c2=>?_
 have cK:=bF (RC.rng o)
 have cT:=bF (c:=(ah.mk b false 0).wordsC 1) (c6 (RC.rng o) 1)
 exact nt<|sq<|az 2<|c1<|xt<|tx<|bx<|jn ((bV (ah.mk b false 0) 1968),_,(b7.mk c 0 ((ah.mk b false 0).wordV) (((ah.mk b false 0).wordsC 1).wordV) 0 0 0 0 0 0 0 0 [] [] [] [] 0 0 0 0 0 [])) ⟨c2,bY,bZ,⟨_,_,_,_,_,rfl,aI.nil ..,aI.nil ..,(fun _ _ _=>aI.nil ..),aI.nil ..,aI.nil ..,(bT (by omega))⟩,by unfold aj aP dm dg cL fS oH gE oU od oq dA eO;(try simp only[h,j,q,B,bq,cR,cN,cO,cQ,cP,reduceIte,dY])<;>rfl⟩
 have bX:=au B
 refine aq 1<|?_
 refine aD (ub t r) mZ fun cU c3 c4=>ap 1<|rt<|br<|tr<|c8 c3 (vI 4)<|?_
 exact cZ (by unfold aj aP dm dg cL fS oH gE oU od oq dA eO;(try simp only[h,j,q,B,bq,cR,cN,cO,cQ,cP,reduceIte,dY])<;>rfl) (bo (ud l c4 H))
theorem jK(hcode:B8 c)(hsl:aX m w (.slice A b.length cp) b)(hb:b.length≤1048576)(hd:¬ (dir=0∨dir=1)) :
    Calls Tryz.prog 109 #[vI dir,vB c,.slice A b.length cp] w (cz (.slice A b.length cp) b (aj aP dir c b) w):=by
 obtain⟨hcode1,hcode2⟩:=hcode
 have hln:(b.length:Int)≤1048576:=by omega
 have e0:(dir != 0)=true:=by simp;omega
 have e1:(dir != 1)=true:=by simp;omega
 refine en 113 Tryz.func109 rfl<|sg<|aK mZ fun g h a d e=>ap 1<|sq<|aq 3<|sy 16 e0<|Pl 3<|nl<|tn<|ct e1<|aq 1<|aD d mZ fun i dB f=>ap 1<|bj<|c8 dB (vI 1)<|?_
 exact cZ (by unfold aj aP dm dg cL fS oH gE oU od oq dA eO;(try simp only[e0,e1,bq,cR,cN,cO,cQ,cP,reduceIte,hd,dY])<;>rfl) (bo (ud e f a))
open Go.RowKit
theorem g9(h:i2 C){b:Bool}  : i2 (C.need b x):=fun y hy=>h y (by rwa [jg] at hy)
theorem gl(h:i2 C)  : i2 (C.bytesC n):=fD h n
theorem kB(h:i2 C)  : i2 (C.wordsC n):=c6 h n
theorem tu(C:ah)(x:Int) : (C.bytesC 1).need (!(C.bytesC 1).sh) x=C.bytesC 1:=by
  by_cases hf:C.fails 1=true
  · exact dr (eg hf)
  · have h:(C.bytesC 1).sh=false:=by
      unfold ah.bytesC
      rw[if_neg hf]
      unfold ah.fails at hf
      simp only[Bool.or_eq_true,decide_eq_true_eq,not_or] at hf
      show C.sh=false
      simpa using hf.1.1
    rw[h]
    unfold ah.need
    rw[if_neg (by rintro⟨_,h⟩;cases h)]
theorem s5{v:Int}(h:0≤v) : decide (0<v)=(v != 0):=by
  rw[Bool.eq_iff_iff]
  simp only[decide_eq_true_eq,bne_iff_ne,ne_eq]
  omega
def ws (C:ah) : ah:=((C.bytesC 1).need (!(C.bytesC 1).sh) 5).need (C.byteV==6) 9
def wl (C:ah) : ah:=((ws C).wordsC 1).need (decide (0<(ws C).wordV)) 6
def wn (C:ah) : ah:=((wl C).wordsC 1).need (decide ((wl C).wordV≤9999)) 7
def sj (C:ah) : ah:=((wn C).wordsC 1).need (decide (0<(wn C).wordV)) 5
theorem rF(C:ah) : ws C=iP C:=by unfold ws iP;rw[tu]
theorem oN(h:i2 C) : i2 (iP C):=g9 (gl h)
theorem rK(h:i2 C) : wl C=iT C:=by unfold wl iT;rw[rF,s5 (bF (oN h)).1]
theorem ti(h:i2 C) : i2 (iT C):=g9 (kB (oN h))
theorem se(h:i2 C) : wn C=lU C:=by unfold wn lU;rw[rK h]
theorem tw(h:i2 C) : i2 (lU C):=g9 (kB (ti h))
theorem q3(h:i2 C) : sj C=d7 C:=by unfold sj d7;rw[se h,s5 (bF (tw h)).1]
theorem uy(h:C.e≠0) : C.endC=C:=by unfold ah.endC;exact dr h
theorem ve(h:b.length≠0) : (ah.mk b false 0).byteV=b.getD 0 0∧(ah.mk b false 0).bytesC 1=⟨b.drop 1,false,0⟩:=by
  have hf:¬ (ah.mk b false 0).fails 1=true:=by
    unfold ah.fails
    simp only[Bool.or_eq_true,decide_eq_true_eq,not_or]
    exact⟨⟨by decide,by decide⟩,by omega⟩
  constructor
  · unfold ah.byteV ah.bytesR
    rw[if_neg hf]
    rcases b with _|⟨x,t⟩
    · exact absurd rfl h
    · rfl
  · unfold ah.bytesC
    rw[if_neg hf]
    rfl
def cc (b:List Int)(n:Int) : List Int:=(b.take (n+1).toNat).drop 1
def cU (one:Int→ah→Int × ah × cX)(c:Int)(b:List Int) : b7 × Int :=
  if (aO one (cc b (b.getD 0 0)).length 0 ⟨cc b (b.getD 0 0),false,0⟩ []).1.e != 0 then (b7.zero,bh (aO one (cc b (b.getD 0 0)).length 0 ⟨cc b (b.getD 0 0),false,0⟩ []).1.e)
  else if decide (b.getD 0 0+1<(b.length:Int)) then (b7.zero,3)
  else ({ b7.zero with code:=c,recs:=(aO one (cc b (b.getD 0 0)).length 0 ⟨cc b (b.getD 0 0),false,0⟩ []).2 },0)
def cg (one:Int→ah→Int × ah × cX)(may:Int→Bool)(c:Int)(b:List Int) : b7 × Int :=
  if (b.length:Int)==0 then (b7.zero,2)
  else if !(may (b.getD 0 0)) then (b7.zero,5)
  else if decide ((b.length:Int)<b.getD 0 0+1) then (b7.zero,2)
  else cU one c b
theorem j0(h:C.e≠0) : bp M C=(b7.zero,C.e):=by
  unfold bp
  rw[uy h,if_neg h]
theorem iw{one:Int→ah→Int × ah × cX}{may:Int→Bool}   (hr:∀ x,x∈b→0≤x∧x<256) : bp (dJ one may c ⟨b,false,0⟩).2 (dJ one may c ⟨b,false,0⟩).1=cg one may c b:=by
  unfold cg
  by_cases h0:b.length=0
  · rw[if_pos (by rw[beq_iff_eq];omega)]
    obtain rfl:=List.eq_nil_of_length_eq_zero h0
    have e1:(ll may ⟨[],false,0⟩).e=2:=by
      unfold ll
      rw[dr (eg (by decide))]
      rfl
    have e2:((ll may ⟨[],false,0⟩).bytesC (ah.mk [] false 0).byteV).e=2:=by
      have hs:(ll may ⟨[],false,0⟩).sh=true:=by
        unfold ll
        rw[dr (eg (by decide))]
        rfl
      unfold ah.bytesC
      rw[if_pos (by unfold ah.fails;rw[hs];rfl),dr (by show(ll may ⟨[],false,0⟩).e≠0;rw[e1];decide)]
      exact e1
    unfold dJ
    dsimp only
    rw[dr (by rw[e2];decide),j0 (by rw[e2];decide),e2]
  rw[if_neg (by rw[beq_iff_eq];omega)]
  obtain⟨e1,e2⟩:=ve h0
  have hn:0≤b.getD 0 0∧b.getD 0 0<256:=by
    rcases b with _|⟨x,t⟩
    · exact absurd rfl h0
    · exact hr x (by simp)
  by_cases hm:may (b.getD 0 0)=true
  · rw[if_neg (by rw[hm];decide)]
    have e3:ll may ⟨b,false,0⟩=⟨b.drop 1,false,0⟩:=by
      unfold ll
      rw[e1,e2,hm]
      rfl
    by_cases hs:(b.length:Int)<b.getD 0 0+1
    · rw[if_pos (by simpa using hs)]
      have hf:(ah.mk (b.drop 1) false 0).fails (b.getD 0 0)=true:=by
        unfold ah.fails
        simp only[Bool.or_eq_true,decide_eq_true_eq,List.length_drop]
        exact .inr (by omega)
      have e4:(ll may ⟨b,false,0⟩).bytesC (ah.mk b false 0).byteV=⟨[],true,2⟩:=by
        rw[e1,e3]
        unfold ah.bytesC
        rw[if_pos hf]
        rfl
      unfold dJ
      dsimp only
      rw[e4,dr (by decide),j0 (by decide)]
    · rw[if_neg (by simpa using hs)]
      have hf:¬ (ah.mk (b.drop 1) false 0).fails (b.getD 0 0)=true:=by
        unfold ah.fails
        simp only[Bool.or_eq_true,decide_eq_true_eq,List.length_drop,not_or]
        exact⟨⟨by decide,by omega⟩,by omega⟩
      have e4:(ll may ⟨b,false,0⟩).bytesC (ah.mk b false 0).byteV=⟨(b.drop 1).drop (b.getD 0 0).toNat,false,0⟩:=by
        rw[e1,e3]
        unfold ah.bytesC
        rw[if_neg hf]
      have e5:uW may ⟨b,false,0⟩=⟨cc b (b.getD 0 0),false,0⟩:=by
        unfold uW cc
        rw[e1,e3]
        unfold ah.bytesR
        rw[if_neg hf,show(b.getD 0 0+1).toNat=1+(b.getD 0 0).toNat from by omega,List.drop_take]
        rw[show 1+(b.getD 0 0).toNat-1=(b.getD 0 0).toNat from by omega]
      unfold dJ cU uf
      dsimp only
      rw[e4,e5]
      by_cases hz:(aO one (cc b (b.getD 0 0)).length 0 ⟨cc b (b.getD 0 0),false,0⟩ []).1.e=0
      · rw[hz,if_neg (by decide)]
        have e6:(ah.mk ((b.drop 1).drop (b.getD 0 0).toNat) false 0).need ((0:Int)==0) (bh 0)=⟨(b.drop 1).drop (b.getD 0 0).toNat,false,0⟩:=rfl
        rw[e6]
        by_cases hl:b.getD 0 0+1<(b.length:Int)
        · rw[if_pos (by simpa using hl)]
          have e7:(ah.mk ((b.drop 1).drop (b.getD 0 0).toNat) false 0).endC=⟨(b.drop 1).drop (b.getD 0 0).toNat,false,3⟩:=by
            unfold ah.endC ah.need
            rw[if_pos ⟨rfl,by rw[beq_eq_false_iff_ne];simp only[List.length_drop];omega⟩]
          unfold bp
          rw[e7,if_neg (show ¬ (3:Int)=0 from by decide)]
        · rw[if_neg (by simpa using hl)]
          have e7:(ah.mk ((b.drop 1).drop (b.getD 0 0).toNat) false 0).endC=⟨(b.drop 1).drop (b.getD 0 0).toNat,false,0⟩:=by
            unfold ah.endC ah.need
            rw[if_neg (by rintro⟨_,h⟩;rw[beq_eq_false_iff_ne] at h;simp only[List.length_drop] at h;omega)]
          unfold bp
          rw[e7,if_pos rfl]
      · rw[if_pos (by simpa using hz)]
        have hw:bh (aO one (cc b (b.getD 0 0)).length 0 ⟨cc b (b.getD 0 0),false,0⟩ []).1.e≠0:=by
          unfold bh
          split
          · decide
          · exact hz
        have e6:(ah.mk ((b.drop 1).drop (b.getD 0 0).toNat) false 0).need ((aO one (cc b (b.getD 0 0)).length 0 ⟨cc b (b.getD 0 0),false,0⟩ []).1.e==0) (bh (aO one (cc b (b.getD 0 0)).length 0 ⟨cc b (b.getD 0 0),false,0⟩ []).1.e)=⟨(b.drop 1).drop (b.getD 0 0).toNat,false,bh (aO one (cc b (b.getD 0 0)).length 0 ⟨cc b (b.getD 0 0),false,0⟩ []).1.e⟩:=by
          unfold ah.need
          rw[if_pos ⟨rfl,by simpa using hz⟩]
        rw[e6,j0 hw]
  · have hm:may (b.getD 0 0)=false:=by simpa using hm
    rw[if_pos (by rw[hm];rfl)]
    have e3:ll may ⟨b,false,0⟩=⟨b.drop 1,false,5⟩:=by
      unfold ll
      rw[e1,e2,hm]
      rfl
    have e4:((ll may ⟨b,false,0⟩).bytesC (ah.mk b false 0).byteV).e=5:=by
      rw[e3]
      unfold ah.bytesC
      split
      · rfl
      · rfl
    unfold dJ
    dsimp only
    rw[dr (by rw[e4];decide),j0 (by rw[e4];decide),e4]
theorem nD(hr:∀ x,x∈b→0≤x∧x<256) : aj bg 0 20 b=cg cy fU 20 b:=iw hr
theorem ol(hr:∀ x,x∈b→0≤x∧x<256) : aj bg 1 20 b=cg bH fX 20 b:=iw hr
theorem s8(hd:dir=0∨dir=1)(hr:∀ x,x∈b→0≤x∧x<256) : aj bg dir 21 b=cg cC fZ 21 b:=by
  unfold aj
  rw[if_pos hd]
  exact iw hr
theorem sJ:∀ n:Nat,n<256→(decide (1≤(n:Int)%128)&&decide ((n:Int)%128≤3))=bL (n:Int):=by decide +kernel
theorem w7(h:0≤x∧x<256) : (decide (1≤x%128)&&decide (x%128≤3))=bL x:=by
  obtain⟨n,rfl⟩:=Int.eq_ofNat_of_zero_le h.1
  exact sJ n (by omega)
theorem ua:(decide (0<x)&&decide (x<5))=(decide (1≤x)&&decide (x≤4)):=by
  rw[Bool.eq_iff_iff]
  simp only[Bool.and_eq_true,decide_eq_true_eq]
  omega
def ee (C:ah) : ah:=((dw C).bytesC 1).need (decide (0<(dw C).byteV)&&decide ((dw C).byteV<5)) 6
theorem qC(C:ah) : ee C=gp C:=by unfold ee gp;rw[ua]
def f6 (C:ah) : ah:=(C.bytesC 1).need (decide (1≤C.byteV%128)&&decide (C.byteV%128≤3)) 6
def fN (C:ah) : ah:=((f6 C).bytesC 1).need ((f6 C).byteV==0 || (f6 C).byteV==255) 6
def fM (C:ah) : ah:=((fN C).bytesC 1).need ((fN C).byteV==0 || (f6 C).byteV==255) 6
def hH (kd:Int)(C:ah) : ah:=((fM C).bytesC 1).need ((fM C).byteV==1 || kd != 4) 5
def dq (kd:Int)(C:ah) : ah × List Obj:=el (fM C).byteV.toNat (hH kd C) []
theorem jA(h:i2 C) : f6 C=l9 C:=by unfold f6 l9;rw[w7 (gJ h)]
theorem mv(h:i2 C) : fN C=lF C:=by unfold fN lF;rw[jA h]
theorem rU(h:i2 C) : fM C=qF C:=by
  unfold fM qF
  rw[mv h,jA h]
  by_cases e:((lF C).bytesC 1).e=0
  · have h1:=(kX e).1
    unfold lF at h1
    have h2:=(rE (by decide) h1).2
    congr 1
    rw[Bool.eq_iff_iff]
    simp only[Bool.or_eq_true,beq_iff_eq,bne_iff_ne,ne_eq] at h2 ⊢
    omega
  · rw[dr e,dr e]
theorem lZ{kd:Int}  (h:i2 C) : dq kd C=eD kd C:=by
  unfold dq eD hH vK
  rw[rU h,Bool.or_comm]
def cl (dir c:Int)(C:ah) : Option (ah × b7) :=
  if c != 43 then none
  else if C.byteV==13 then some ((eW C).bytesC ((dw C).l.length:Int),{ b7.zero with code:=43,mei:=C.byteV,data:=(eW C).bytesR ((dw C).l.length:Int) })
  else if dir==0 then some ((ee C).bytesC 1,{ b7.zero with code:=43,mei:=C.byteV,kind:=(dw C).byteV,next:=(ee C).byteV })
  else some ((dq (dw C).byteV (ee C)).1,{ b7.zero with code:=43,mei:=C.byteV,kind:=(dw C).byteV,level:=(ee C).byteV,more:=(f6 (ee C)).byteV,next:=(fN (ee C)).byteV,objects:=(dq (dw C).byteV (ee C)).2 })
theorem md(hr:∀ x,x∈b→0≤x∧x<256) : aj cl dir c b=aj bY dir c b:=by
  unfold aj
  split
  · rename_i hd
    unfold cl bY
    by_cases hc:c=43
    · subst hc
      have hD:i2 (ee ⟨b,false,0⟩):=g9 (gl (g9 (gl (C:=⟨b,false,0⟩) hr)))
      have hl:(eW ⟨b,false,0⟩).l.length=(dw ⟨b,false,0⟩).l.length:=by unfold eW;rw[jg]
      rw[if_neg (show ¬ (((43:Int)!=43)=true) from by decide),if_neg (show ¬ (((43:Int)!=43)=true) from by decide),jA hD,mv hD,lZ hD,qC,hl]
      rcases hd with rfl|rfl
      · rw[if_pos (show((0:Int)==0)=true from rfl),if_neg (show ¬ ((0:Int)==1)=true from by decide)]
      · rw[if_neg (show ¬ ((1:Int)==0)=true from by decide),if_pos (show((1:Int)==1)=true from rfl)]
    · rw[if_pos (by simpa using hc),if_pos (by simpa using hc)]
  · rfl
open Go.RowKit
theorem RC.nrow{α:Type}{base sz n c:Nat}{e:TypeId}{R:World→α→List Value→Prop}{B:Option Addr}{xs:List α}         (h:RC w0 m A cp full w g C)(ho:aW base e sz R w (.slice B n c) xs)(ht:(194==e)=false) : g∉ob B:=by
  obtain⟨k,h1,_⟩:=h.cell
  exact ei h1 ho ht
theorem RC.fld2(h:RC w0 m A cp full w g C) : w.cell? ⟨g,2,none⟩=some (.bool C.sh):=by
  obtain⟨k,h1,_⟩:=h.cell
  rw[bR h1]
  rfl
def tS (w0:World)(m:Md)(A:Option Addr)(cp:Nat)(full:List Int)(g:Nat)(C':ah)(r:cX)(w:World)(e:Ending)(w':World) : Prop:=e = .returned (.agg #[.int .u16 r.file,.int .u16 r.record,.int .u16 r.count,.slice none 0 0])∧dB r.file∧dB r.record∧dB r.count∧RC w0 m A cp full w' g C'∧aE [g] w w'
theorem kW(h : -1≤x∧x≤255) : 0≤Int.tdiv x 2∧Int.tdiv x 2≤127:=by
  by_cases h0:x = -1
  · subst h0;decide
  · rw[Int.tdiv_eq_ediv_of_nonneg (by omega)]
    omega
variable {R:ah × List cX}
theorem gj{one:Int→ah→Int × ah × cX}{n:Nat}{s:Int}  {L:List cX}  (h3:(C.e=0∧C.l.length≤n∧aO one n s C L=R)∨(C.e≠0∧R.1=C))(hc:0<C.l.length)(he:C.e=0)(hlt:(one s C).2.1.l.length<C.l.length) :
    ((one s C).2.1.e=0∧(one s C).2.1.l.length≤n-1∧aO one (n-1) (one s C).1 (one s C).2.1 (L++[(one s C).2.2])=R)∨((one s C).2.1.e≠0∧R.1=(one s C).2.1):=by
  rcases h3 with⟨_,hn,hR⟩|⟨h,_⟩
  · obtain⟨k,rfl⟩ : ∃ k,n=k+1:=⟨n-1,by omega⟩
    unfold aO at hR
    rw[if_pos (by rw[he];simpa using hc)] at hR
    by_cases hz:(one s C).2.1.e=0
    · rw[if_neg (by rw[hz];decide)] at hR
      exact .inl ⟨hz,by omega,hR⟩
    · rw[if_pos (by simpa using hz)] at hR
      exact .inr ⟨hz,by rw[← hR]⟩
  · exact absurd he h
theorem eI{one:Int→ah→Int × ah × cX}{n:Nat}{s:Int}  {L:List cX}  (h3:(C.e=0∧C.l.length≤n∧aO one n s C L=R)∨(C.e≠0∧R.1=C))(hq:(decide (0<((C.l.length:Nat) : Int))&&C.e==0)=false) : R.1.e=C.e∧(C.e=0→R.2=L):=by
  rcases h3 with⟨he,hn,hR⟩|⟨h,h2⟩
  · rw[fG one n s C L hq] at hR
    rw[← hR]
    exact⟨rfl,fun _=>rfl⟩
  · rw[h2]
    exact⟨rfl,fun h3=>absurd h3 h⟩
def eY (R:ah × List cX)(w:World)(e:Ending)(w':World) : Prop:=∃ A2 n2 c2,e = .returned (.tuple #[.slice A2 n2 c2,.int .i64 (bh R.1.e)])∧(bh R.1.e=0→aW w.heap.size 98 4 (bt true) w' (.slice A2 n2 c2) R.2)∧aE [] w w'
theorem jq{f:FuncId}{args:Array Value}   (h:Calls Tryz.prog f args w (eY R w))(h0:bh R.1.e=0) : Calls Tryz.prog f args w (fun e w'=>∃ v,e = .returned (.tuple #[v,.int .i64 0])∧aW w.heap.size 98 4 (bt true) w' v R.2∧aE [] w w'):=by
  refine h.mono ?_
  rintro e w' ⟨A2,n2,c2,rfl,h1,h2⟩
  exact⟨_,by rw[h0],h1 h0,h2⟩
theorem iC{f:FuncId}{args:Array Value}   (h:Calls Tryz.prog f args w (eY R w)) : Calls Tryz.prog f args w (fun e w'=>∃ A2 n2 c2,e = .returned (.tuple #[.slice A2 n2 c2,.int .i64 (bh R.1.e)])∧aE [] w w'):=by
  refine h.mono ?_
  rintro e w' ⟨A2,n2,c2,rfl,h1,h2⟩
  exact⟨A2,n2,c2,rfl,h2⟩
theorem u5(hC:RC w0 m A cp full w g C) : Calls Tryz.prog 225 #[vP g 0] w (tS w0 m A cp full g (d7 C) (aM C) w):=by
 have hr:i2 C:=RC.rng hC
 refine en 42 Tryz.func225 rfl<|sg<|aK #[vW 0,vW 0,vW 0,nS] fun N O b i a=>aL 1<|?_
 refine ax<|m3 (dk (RC.upd hC a av (aE.step (RC.u hC) a))) fun P c j Q=>Pl 1<|aL 4<|L0<|dC (p:=⟨g,2,none⟩) (v:=.bool ((C.bytesC 1).sh)) (RC.fld2 c)<|Pl 1<|ax<|m2 (aR ((!((C.bytesC 1).sh))) 5 c) fun R k l=>aL 3<|ax<|m2 (aR ((C.byteV==6)) 9 k) fun S n o=>?_
 refine eU n fun x26 q r=>?_
 refine aL 1<|ax<|m3 (ca r) fun T s t U=>Pl 1<|aL 3<|ax<|m2 (aR ((decide (0<x26.wordV))) 6 s) fun V y z=>nl<|tn<|aq 1<|ax<|m3 (ca y) fun W B D X=>Pl 1<|aL 3<|ax<|m2 (aR ((decide ((((x26.wordsC 1).need (decide (0<x26.wordV)) 6).wordV)≤9999))) 7 B) fun Y E F=>?_
 refine eU E fun x43 G H=>?_
 refine aL 1<|ax<|m3 (ca H) fun Z I J a0=>Pl 1<|aL 3<|ax<|m2 (aR ((decide (0<x43.wordV))) 5 I) fun a1 K L=>nl<|tn<|aq 4<|?_
 have d:=u1 j (u1 l (u1 o (u1 t (u1 z (u1 D (u1 F (u1 J L im) im) im) im) im) im) im) im
 have e:=nb (RC.lt hC) lr b
 refine aD (aV d (Ne.symm e) i) #[vW x26.wordV,vW (((x26.wordsC 1).need (decide (0<x26.wordV)) 6).wordV),vW x43.wordV,nS] fun a2 M f=>nK<|v8 M<|?_
 subst G q
 have e1:d7 C=(((((((((C.bytesC 1).need (!((C.bytesC 1).sh)) 5).need (C.byteV==6) 9).wordsC 1).need (decide (0<(((C.bytesC 1).need (!((C.bytesC 1).sh)) 5).need (C.byteV==6) 9).wordV)) 6).wordsC 1).need (decide (((((((C.bytesC 1).need (!((C.bytesC 1).sh)) 5).need (C.byteV==6) 9).wordsC 1).need (decide (0<(((C.bytesC 1).need (!((C.bytesC 1).sh)) 5).need (C.byteV==6) 9).wordV)) 6).wordV)≤9999)) 7).wordsC 1).need (decide (0<(((((((C.bytesC 1).need (!((C.bytesC 1).sh)) 5).need (C.byteV==6) 9).wordsC 1).need (decide (0<(((C.bytesC 1).need (!((C.bytesC 1).sh)) 5).need (C.byteV==6) 9).wordV)) 6).wordsC 1).need (decide (((((((C.bytesC 1).need (!((C.bytesC 1).sh)) 5).need (C.byteV==6) 9).wordsC 1).need (decide (0<(((C.bytesC 1).need (!((C.bytesC 1).sh)) 5).need (C.byteV==6) 9).wordV)) 6).wordV)≤9999)) 7).wordV)) 5):=by rw[← q3 hr];rfl
 have e2:(aM C).file=(((C.bytesC 1).need (!((C.bytesC 1).sh)) 5).need (C.byteV==6) 9).wordV:=by show(iP C).wordV=_;rw[← rF];rfl
 have e3:(aM C).record=(((((C.bytesC 1).need (!((C.bytesC 1).sh)) 5).need (C.byteV==6) 9).wordsC 1).need (decide (0<(((C.bytesC 1).need (!((C.bytesC 1).sh)) 5).need (C.byteV==6) 9).wordV)) 6).wordV:=by show(iT C).wordV=_;rw[← rK hr];rfl
 have e4:(aM C).count=(((((((C.bytesC 1).need (!((C.bytesC 1).sh)) 5).need (C.byteV==6) 9).wordsC 1).need (decide (0<(((C.bytesC 1).need (!((C.bytesC 1).sh)) 5).need (C.byteV==6) 9).wordV)) 6).wordsC 1).need (decide (((((((C.bytesC 1).need (!((C.bytesC 1).sh)) 5).need (C.byteV==6) 9).wordsC 1).need (decide (0<(((C.bytesC 1).need (!((C.bytesC 1).sh)) 5).need (C.byteV==6) 9).wordV)) 6).wordV)≤9999)) 7).wordV:=by show(lU C).wordV=_;rw[← se hr];rfl
 have h:=ue a (us d f) b
 unfold tS
 rw[e1,e2,e3,e4]
 exact⟨rfl,c7 (by omega),c7 (by omega),c7 (by omega),(RC.upd K f (aa e av) (hC.u.trans' h (fun x hx=>.inr (by simp at hx;subst hx;exact hC.new)))),h⟩
theorem sf(hsl:aX m w (.slice A b.length cp) b)(hb:b.length≤1048576) :
    Calls Tryz.prog 179 #[vI 0,vB 20,.slice A b.length cp] w (eY (aO cy b.length 0 ⟨b,false,0⟩ []) w):=by
 have hln:(b.length:Int)≤1048576:=by omega
 refine en 108 Tryz.func179 rfl<|aq 2<|aL 2<|L0<|dF #[.slice A b.length cp,vI 0,.bool false,vI 0] fun d T D a6 E=>ap 1<|sq<|go<|Pl 1<|db 1<|sq<|bk<|?_
 have U:RC w _ A cp b T d (ah.mk b false 0):=⟨hsl,E,D,⟨0,a6,Nat.zero_le _,rfl⟩,by omega⟩
 refine gw (fun x=>[(0,vI 0),(1,vB 20),(6,nS),(7,vI 0),(8,vP d 0),(9,.slice x.2.2.2.1 x.2.2.1.length x.2.2.2.2.1),(10,vI x.2.2.2.2.2)]) (fun(x:Nat × ah × List cX × Option Addr × Nat × Int) w'=>aE [] w w'∧T.heap.size≤w'.heap.size∧RC w m A cp b w' d x.2.1∧aW w.heap.size 98 4 (bt true) w' (.slice x.2.2.2.1 x.2.2.1.length x.2.2.2.2.1) x.2.2.1∧(0≤x.2.2.2.2.2)∧(x.2.1.e=0→x.2.2.2.2.2≤245)∧(x.2.2.1.length+x.2.1.l.length≤b.length)∧((x.2.1.e=0∧x.2.1.l.length≤x.1∧aO cy x.1 x.2.2.2.2.2 x.2.1 x.2.2.1=aO cy b.length 0 ⟨b,false,0⟩ [])∨(x.2.1.e≠0∧(aO cy b.length 0 ⟨b,false,0⟩ []).1=x.2.1))) (fun x=>x.2.1.l.length) (b.length,(ah.mk b false 0),[],none,0,0) ⟨E,lr,U,(aW.nil w.heap.size _ _ (bt true) _),(by(try dsimp only);omega),(fun _=>(show(0:Int)≤245 from by decide)),(by(try dsimp only);simp),.inl ⟨rfl,Nat.le_refl _,rfl⟩⟩ ?_
 rintro⟨n,C,L,B,cq,s⟩ V ⟨a7,F,a8,a9,ab,ad,ae,af⟩
 refine f5 [(0,vI 0),(1,vB 20),(6,nS),(7,vI 0),(8,vP d 0),(9,.slice B L.length cq),(10,vI s)] ?_
 have a:RC w m A cp b V d C:=a8
 have hlC:=RC.clen a
 have hrC:i2 C:=RC.rng a
 have i:aW w.heap.size 98 4 (bt true) V (.slice B L.length cq) L:=a9
 have b0:0≤s:=ab
 have b1:C.e=0→s≤245:=ad
 have b2:L.length+C.l.length≤b.length:=ae
 have G:(C.e=0∧C.l.length≤n∧aO cy n s C L=aO cy b.length 0 ⟨b,false,0⟩ [])∨(C.e≠0∧(aO cy b.length 0 ⟨b,false,0⟩ []).1=C):=af
 refine sq<|aq 1<|ax<|m1 (gC a) fun b3 c=>?_
 have b4:=RC.clen a
 refine Pl 2<|cY 6 [20] 26 20 (decide (0<(C.l.length:Int))) (C.e==0) (fun K ag aj=>?_) ?_
 have b5:=of_decide_eq_true aj
 refine Pl 3<|?_
 exact L1<|dC (p:=⟨d,3,none⟩) (v:=vI C.e) (RC.fld (RC.upd a c av (aE.step (RC.u a) c)))<|Pl 2<|ce ag _ rfl
 refine nt<|?_
 have H:=aN a7 c
 refine cb (((decide (0<(C.l.length:Int)))&&(C.e==0))) (fun f=>?_) (fun f=>?_)
 have I:=(aS f).1
 have J:=(aS f).2
 have b6:=of_decide_eq_true I
 have b7:=ak J
 refine bz<|bk<|aq 1<|aK #[vW 0,vW 0,vW 0,nS] fun b8 ba j am M=>aD am #[vW 0,vW 0,vW 0,nS] fun bb an N=>nt<|sq<|aq 6<|nl<|tn<|c0<|aq 1<|?_
 have W:=ud M N j
 have q:=aN c W
 refine ax<|m5 (u5 (RC.upd a q av (aE.step (RC.u a) q))) fun bc ao ar aw ay r=>?_
 obtain⟨bd,bg⟩:=ao
 obtain⟨bi,bl⟩:=ar
 obtain⟨bm,bo⟩:=aw
 have O:=nb (RC.lt U) (le F c.size) j
 refine aD (aV r (Ne.symm O) an) #[vW ((aM C).file),vW ((aM C).record),vW ((aM C).count),nS] fun bp X t=>db 2<|c0<|aq 1<|be (s+2)<|Pl 1<|aH X 2<|be ((aM C).count)<|be (2*((aM C).count))<|be ((s+2)+(2*((aM C).count)))<|ap 1<|go<|Pl 3<|?_
 have P:=us r t
 have Y:=ud H (ue W P j) D
 refine ax<|m2 (aR ((decide (((s+2)+(2*((aM C).count)))≤245))) 5 (RC.upd ay t (aa O av) Y)) fun br aF k=>?_
 refine eU aF fun x68 aG Z=>?_
 refine nt<|go<|Pl 1<|?_
 refine L0<|cJ (aV k (Ne.symm O) X)<|L0<|eX (m:=1) (e:=98) #[vW ((aM C).file),vW ((aM C).record),vW ((aM C).count),nS] fun bs bu bw aJ y=>?_
 have aP:=iU (R:=bt true) (x:=(cX.mk ((aM C).file) ((aM C).record) ((aM C).count) ([]))) aJ rfl ⟨_,rfl,(aI.nil true _ _ _ _),c7 (x:=(aM C).file) (by omega),c7 (x:=(aM C).record) (by omega),c7 (x:=(aM C).count) (by omega)⟩
 have a0:=aN k y
 have a1:=ue q (u1 P a0 im) (le c.size j)
 have a2:=al i a1 (fun x hx=>(aa (fun e=>(RC.nrow a i (by decide)) (e▸hx)) av)) (bt.upd16 a1 (ai (RC.safe a _ (by decide)) aC))
 refine L0<|fL (xs:=L) (ys:=([(cX.mk ((aM C).file) ((aM C).record) ((aM C).count) ([]))])) (.agg #[vW 0,vW 0,vW 0,nS]) 4 32 a2 aP (by simp) bt.ones (fun w' hv=>bt.upd16 hv (bf (bv _ a2 (by decide)) aC)) (by(try simp only[d8,aQ]);omega) (le (le (le (le (le (le (le (le E.size F) c.size) M.size) N.size) r.size) t.size) k.size) y.size) fun aT aU bB aY Q=>Pl 1<|nl<|bn<|?_
 subst aG
 have hC2:(cy s C).2.1=((d7 C).need (decide (((s+2)+(2*((aM C).count)))≤245)) 5):=by show dX s C=_;(try simp only[dX,dK,← Int.add_assoc,f,I,J,bq]);all_goals rfl
 have hM2:[(cy s C).2.2]=[(cX.mk ((aM C).file) ((aM C).record) ((aM C).count) ([]))]:=by show[aM C]=_;(try simp only[dX,dK,← Int.add_assoc,f,I,J,bq]);all_goals rfl
 have hS2:(cy s C).1=((s+2)+(2*((aM C).count))):=by(try (show dK s C=_));(try simp only[dK,← Int.add_assoc]);all_goals rfl
 have hlt:=oW s C (by omega)
 have h9:=gj (one:=cy) G (by omega) (by omega) hlt
 rw[hC2,hM2,hS2] at h9
 rw[hC2] at hlt
 have a3:=ut Y (ut (aE.mono (S':=(d :: (ob B++[]))) a0 (ac im aA)) Q (aB il aA)) (ac (nr D) (aB (bC i lr) aA))
 have a4:=ue q (u1 P k im) (le c.size j)
 exact ed ((n-1),((d7 C).need (decide (((s+2)+(2*((aM C).count)))≤245)) 5),(L++[(cX.mk ((aM C).file) ((aM C).record) ((aM C).count) ([]))]),aT,aU,((s+2)+(2*((aM C).count)))) ⟨a3,(le (le (le (le (le (le (le (le F c.size) M.size) N.size) r.size) t.size) k.size) y.size) Q.size),(RC.upd Z (ut (aE.mono (S':=(ob B++[])) y aA) Q (aB il aA)) (b9 (RC.nrow Z (al i a4 (fun x hx=>(aa (fun e=>(RC.nrow a i (by decide)) (e▸hx)) av)) (bt.upd16 a4 (ai (RC.safe a _ (by decide)) aC))) (by decide)) av) a3),aY,(by(try dsimp only);omega),(by(try dsimp only);intro he;have hk:=(rE (by decide) he).2;simp only[decide_eq_true_eq] at hk;omega),(by(try dsimp only);simp only[d8];omega),h9⟩ (by omega)
 refine xt<|tx<|tx<|bx<|tn<|sq<|aq 3<|?_
 have S:=RC.upd a c av (aE.step (RC.u a) c)
 refine L0<|dC (p:=⟨d,3,none⟩) (v:=vI C.e) (RC.fld S)<|ap 1<|cb ((C.e==2)) (fun o=>?_) (fun o=>?_)
 have aZ:=ak o
 refine az 2<|bj<|rr (.tuple #[nS,vI 5])<|?_
 obtain⟨iP,iT⟩:=eI G f
 have hw:bh (aO cy b.length 0 ⟨b,false,0⟩ []).1.e=5:=by unfold bh;rw[iP,if_pos o]
 refine⟨none,0,0,by rw[hw],fun h=>absurd (hw.symm.trans h) (by decide),H⟩
 have aZ:=au o
 refine bz<|sq<|Rg 7 (fun w'=>w'.cell? ⟨d,3,none⟩=some (vI C.e)) fun bD z=>?_
 refine bA (RC.fld (RC.upd S z av (aE.step (RC.u S) z))) fun g=>Rt 0 g<|Rt 1 g<|Rt 2 g<|Rt 3 g<|Rl 4 g (fun _ hs=>hs)<|Rt 5 g<|Rt 6 g<|re<|tn<|rt<|rr (.tuple #[.slice B L.length cq,vI C.e])<|?_
 obtain⟨iP,iT⟩:=eI G f
 have hw:bh (aO cy b.length 0 ⟨b,false,0⟩ []).1.e=C.e:=by unfold bh;rw[iP,if_neg (by rw[o];decide)]
 have a5:=aN c z
 refine⟨_,_,_,by rw[hw],fun h=>by rw[iT (hw.symm.trans h)];exact(al i a5 (fun x hx=>av) (bt.upd16 a5 aC)),(aN H z)⟩
theorem rc(hsl:aX m w (.slice A b.length cp) b)(hb:b.length≤1048576) :
    Calls Tryz.prog 179 #[vI 1,vB 20,.slice A b.length cp] w (eY (aO bH b.length 0 ⟨b,false,0⟩ []) w):=by
 have hln:(b.length:Int)≤1048576:=by omega
 refine en 108 Tryz.func179 rfl<|aq 2<|aL 2<|L0<|dF #[.slice A b.length cp,vI 0,.bool false,vI 0] fun f ae I bc J=>ap 1<|sq<|go<|Pl 1<|db 1<|sq<|bk<|?_
 have X:RC w _ A cp b ae f (ah.mk b false 0):=⟨hsl,J,I,⟨0,bc,Nat.zero_le _,rfl⟩,by omega⟩
 refine gw (fun x=>[(0,vI 1),(1,vB 20),(6,nS),(7,vI 0),(8,vP f 0),(9,.slice x.2.2.2.1 x.2.2.1.length x.2.2.2.2.1),(10,vI x.2.2.2.2.2)]) (fun(x:Nat × ah × List cX × Option Addr × Nat × Int) w'=>aE [] w w'∧ae.heap.size≤w'.heap.size∧RC w m A cp b w' f x.2.1∧aW w.heap.size 98 4 (bt true) w' (.slice x.2.2.2.1 x.2.2.1.length x.2.2.2.2.1) x.2.2.1∧(0≤x.2.2.2.2.2)∧(x.2.1.e=0→x.2.2.2.2.2≤245)∧(x.2.2.1.length+x.2.1.l.length≤b.length)∧((x.2.1.e=0∧x.2.1.l.length≤x.1∧aO bH x.1 x.2.2.2.2.2 x.2.1 x.2.2.1=aO bH b.length 0 ⟨b,false,0⟩ [])∨(x.2.1.e≠0∧(aO bH b.length 0 ⟨b,false,0⟩ []).1=x.2.1))) (fun x=>x.2.1.l.length) (b.length,(ah.mk b false 0),[],none,0,0) ⟨J,lr,X,(aW.nil w.heap.size _ _ (bt true) _),(by(try dsimp only);omega),(fun _=>(show(0:Int)≤245 from by decide)),(by(try dsimp only);simp),.inl ⟨rfl,Nat.le_refl _,rfl⟩⟩ ?_
 rintro⟨n,C,L,B,cq,s⟩ af ⟨bd,r,bg,bi,bm,bo,bp,br⟩
 refine f5 [(0,vI 1),(1,vB 20),(6,nS),(7,vI 0),(8,vP f 0),(9,.slice B L.length cq),(10,vI s)] ?_
 have a:RC w m A cp b af f C:=bg
 have hlC:=RC.clen a
 have hrC:i2 C:=RC.rng a
 have d:aW w.heap.size 98 4 (bt true) af (.slice B L.length cq) L:=bi
 have c5:0≤s:=bm
 have c6:C.e=0→s≤245:=bo
 have c8:L.length+C.l.length≤b.length:=bp
 have M:(C.e=0∧C.l.length≤n∧aO bH n s C L=aO bH b.length 0 ⟨b,false,0⟩ [])∨(C.e≠0∧(aO bH b.length 0 ⟨b,false,0⟩ []).1=C):=br
 refine sq<|aq 1<|ax<|m1 (gC a) fun c9 c=>?_
 have ca:=RC.clen a
 refine Pl 2<|cY 6 [20] 26 20 (decide (0<(C.l.length:Int))) (C.e==0) (fun K bs bu=>?_) ?_
 have cc:=of_decide_eq_true bu
 refine Pl 3<|?_
 exact L1<|dC (p:=⟨f,3,none⟩) (v:=vI C.e) (RC.fld (RC.upd a c av (aE.step (RC.u a) c)))<|Pl 2<|ce bs _ rfl
 refine nt<|?_
 have z:=aN bd c
 refine cb (((decide (0<(C.l.length:Int)))&&(C.e==0))) (fun g=>?_) (fun g=>?_)
 have D:=(aS g).1
 have E:=(aS g).2
 have cd:=of_decide_eq_true D
 have cf:=ak E
 refine bz<|bk<|aq 1<|aK #[vW 0,vW 0,vW 0,nS] fun N cg j Y F=>aD Y #[vW 0,vW 0,vW 0,nS] fun ch aj k=>nt<|sq<|aq 6<|nl<|tn<|c1<|aq 1<|?_
 have am:=ud F k j
 have t:=aN c am
 refine ax<|m3 (dk (RC.upd a t av (aE.step (RC.u a) t))) fun ci G i cj=>be C.byteV<|Pl 1<|aL 2<|L0<|Oe (vI (Int.tmod C.byteV 2)) (vI (C.byteV%2)) (congrArg (Value.int .i64) (Int.tmod_eq_emod_of_nonneg (by omega)))<|Pl 2<|cY 3 [41] 44 41 ((C.byteV%2)==1) (decide (3≤C.byteV)) (fun K bw bB=>?_) ?_
 have ck:=ak bB
 exact Pl 3<|ce bw _ rfl
 refine Pl 1<|?_
 have an:=ud z (uz am i) I
 refine bl 45 ((((C.byteV%2)==1)&&(decide (3≤C.byteV)))) (fun o=>?_) (fun o=>?_)
 have Z:=(aS o).1
 have a0:=(aS o).2
 have cl:=ak Z
 have cm:=of_decide_eq_true a0
 refine Pl 2<|L1<|Oc<|m1 (gC G) fun cn y=>?_
 have co:=RC.clen G
 refine Pl 2<|?_
 refine ax<|m2 (aR ((decide (C.byteV≤(((C.bytesC 1).l.length:Nat) : Int)))) 5 (RC.upd G y av (aE.step (RC.u G) y))) fun cr bE O=>?_
 refine eU bE fun x66 bF bG=>?_
 refine aL 1<|ax<|m3 (dk bG) fun cs bI P ct=>Pl 1<|aL 3<|ax<|m2 (aR ((x66.byteV==6)) 9 bI) fun cu bJ Q=>nl<|tn<|go<|Pl 2<|be (C.byteV-1)<|?_
 have cv:=kW (x:=(C.byteV-1)) (by omega)
 refine L0<|Oe (vI (IntKind.i64.wrap (Int.tdiv (C.byteV-1) 2))) (vI (Int.tdiv (C.byteV-1) 2)) (congrArg (Value.int .i64) (jy (by omega) (by omega)))<|ax<|lv (ff (n:=(Int.tdiv (C.byteV-1) 2)) (by omega) bJ) fun ao ar cw aw cx cy bK a1=>?_
 refine eU bK fun x82 bL ay=>?_
 refine Pl 1<|?_
 have aF:=uz y (u1 O (u1 P (u1 Q a1 im) im) im)
 have a2:=u1 i aF im
 have aH:=nb (RC.lt X) (le r c.size) j
 refine L0<|bD (aV a2 (Ne.symm aH) aj) 3 #[vW 0,vW 0,vW 0,.slice ao ((((x66.bytesC 1).need (x66.byteV==6) 9).wordsR (Int.tdiv (C.byteV-1) 2)).length) ar] fun cz bM a3=>nt<|go<|Pl 1<|L0<|cJ bM<|L0<|eX (m:=1) (e:=98) #[vW 0,vW 0,vW 0,.slice ao ((((x66.bytesC 1).need (x66.byteV==6) 9).wordsR (Int.tdiv (C.byteV-1) 2)).length) ar] fun cA cB cC bN a4=>?_
 have a5:=aN a3 a4
 have bO:=iU (R:=bt true) (x:=(cX.mk 0 0 0 (((x66.bytesC 1).need (x66.byteV==6) 9).wordsR (Int.tdiv (C.byteV-1) 2)))) bN rfl ⟨_,rfl,((al aw a5 (fun x hx=>(aa (fun e=>(aG (ag Y) (le (le (le (le (le k.size i.size) y.size) O.size) P.size) Q.size) aw) (e▸hx)) av)) (fun _ _ h=>h))).rd,c7 (x:=0) (by omega),c7 (x:=0) (by omega),c7 (x:=0) (by omega)⟩
 have aI:=ue t (us a2 a5) (le c.size j)
 have aJ:=al d aI (fun x hx=>(aa (fun e=>(RC.nrow a d (by decide)) (e▸hx)) av)) (bt.upd16 aI (ai (RC.safe a _ (by decide)) aC))
 refine L0<|fL (xs:=L) (ys:=([(cX.mk 0 0 0 (((x66.bytesC 1).need (x66.byteV==6) 9).wordsR (Int.tdiv (C.byteV-1) 2)))])) (.agg #[vW 0,vW 0,vW 0,nS]) 4 32 aJ bO (by simp) bt.ones (fun w' hv=>bt.upd16 hv (bf (bv _ aJ (by decide)) aC)) (by(try simp only[d8,aQ]);omega) (le (le (le (le (le (le (le (le (le (le (le (le J.size r) c.size) F.size) k.size) i.size) y.size) O.size) P.size) Q.size) a1.size) a3.size) a4.size) fun bP bQ cD bR aM=>Pl 1<|nl<|bn<|?_
 subst bL bF
 have hC2:(bH s C).2.1=(((((C.bytesC 1).need (decide (C.byteV≤(((C.bytesC 1).l.length:Nat) : Int))) 5).bytesC 1).need (((C.bytesC 1).need (decide (C.byteV≤(((C.bytesC 1).l.length:Nat) : Int))) 5).byteV==6) 9).wordsC (Int.tdiv (C.byteV-1) 2)):=by show eo C=_;(try simp only[eo,dQ,gq,gv,g,D,E,o,Z,a0,bq]);all_goals rfl
 have hM2:[(bH s C).2.2]=[(cX.mk 0 0 0 (((((C.bytesC 1).need (decide (C.byteV≤(((C.bytesC 1).l.length:Nat) : Int))) 5).bytesC 1).need (((C.bytesC 1).need (decide (C.byteV≤(((C.bytesC 1).l.length:Nat) : Int))) 5).byteV==6) 9).wordsR (Int.tdiv (C.byteV-1) 2)))]:=by show[dQ C]=_;(try simp only[eo,dQ,gq,gv,g,D,E,o,Z,a0,bq]);all_goals rfl
 have hS2:(bH s C).1=s:=by(try (show s=_));(try simp only[dK,← Int.add_assoc]);all_goals rfl
 have hlt:=jv s C (by omega)
 have h9:=gj (one:=bH) M (by omega) (by omega) hlt
 rw[hC2,hM2,hS2] at h9
 rw[hC2] at hlt
 have aP:=ut (aE.mono (S':=(N :: (ob B++[]))) a5 (ac im aA)) aM (aB il aA)
 have aT:=ut an (ut (aE.mono (S':=(f :: (N :: (ob B++[])))) aF (ac im aA)) aP (ac im (aB il aA))) (ac (nr I) (ac (ni z.size j) (aB (bC d lr) aA)))
 have aU:=uz t a2
 exact ed ((n-1),(((((C.bytesC 1).need (decide (C.byteV≤(((C.bytesC 1).l.length:Nat) : Int))) 5).bytesC 1).need (((C.bytesC 1).need (decide (C.byteV≤(((C.bytesC 1).l.length:Nat) : Int))) 5).byteV==6) 9).wordsC (Int.tdiv (C.byteV-1) 2)),(L++[(cX.mk 0 0 0 (((((C.bytesC 1).need (decide (C.byteV≤(((C.bytesC 1).l.length:Nat) : Int))) 5).bytesC 1).need (((C.bytesC 1).need (decide (C.byteV≤(((C.bytesC 1).l.length:Nat) : Int))) 5).byteV==6) 9).wordsR (Int.tdiv (C.byteV-1) 2)))]),bP,bQ,s) ⟨aT,(le (le (le (le (le (le (le (le (le (le (le (le r c.size) F.size) k.size) i.size) y.size) O.size) P.size) Q.size) a1.size) a3.size) a4.size) aM.size),(RC.upd ay aP (aa aH (b9 (RC.nrow ay (al d aU (fun x hx=>(aa (fun e=>(RC.nrow a d (by decide)) (e▸hx)) av)) (bt.upd16 aU (ai (RC.safe a _ (by decide)) aC))) (by decide)) av)) aT),bR,(by(try dsimp only);omega),(by(try dsimp only);intro he;omega),(by(try dsimp only);simp only[d8];omega),h9⟩ (by omega)
 refine Pl 5<|ax<|m2 (aR (false) 5 G) fun cE bS S=>aL 1<|ax<|m3 (dk bS) fun cF bT T cG=>Pl 1<|aL 3<|ax<|m2 (aR (((((C.bytesC 1).need false 5).byteV)==6)) 9 bT) fun cH bU U=>?_
 refine eU bU fun V bV bW=>?_
 refine nt<|go<|Pl 2<|be (C.byteV-1)<|?_
 have cI:=kW (x:=(C.byteV-1)) (by omega)
 refine L0<|Oe (vI (IntKind.i64.wrap (Int.tdiv (C.byteV-1) 2))) (vI (Int.tdiv (C.byteV-1) 2)) (congrArg (Value.int .i64) (jy (by omega) (by omega)))<|ax<|lv (ff (n:=(Int.tdiv (C.byteV-1) 2)) (by omega) bW) fun aY aZ cK b0 cL cM b1 a6=>Pl 1<|?_
 have b2:=u1 S (u1 T (u1 U a6 im) im) im
 have a7:=u1 i b2 im
 have b3:=nb (RC.lt X) (le r c.size) j
 refine L0<|bD (aV a7 (Ne.symm b3) aj) 3 #[vW 0,vW 0,vW 0,.slice aY ((V.wordsR (Int.tdiv (C.byteV-1) 2)).length) aZ] fun cN bX a8=>nt<|go<|Pl 1<|L0<|cJ bX<|L0<|eX (m:=1) (e:=98) #[vW 0,vW 0,vW 0,.slice aY ((V.wordsR (Int.tdiv (C.byteV-1) 2)).length) aZ] fun cO cP cQ bY a9=>?_
 have ab:=aN a8 a9
 have bZ:=iU (R:=bt true) (x:=(cX.mk 0 0 0 (V.wordsR (Int.tdiv (C.byteV-1) 2)))) bY rfl ⟨_,rfl,((al b0 ab (fun x hx=>(aa (fun e=>(aG (ag Y) (le (le (le (le k.size i.size) S.size) T.size) U.size) b0) (e▸hx)) av)) (fun _ _ h=>h))).rd,c7 (x:=0) (by omega),c7 (x:=0) (by omega),c7 (x:=0) (by omega)⟩
 have b4:=ue t (us a7 ab) (le c.size j)
 have b5:=al d b4 (fun x hx=>(aa (fun e=>(RC.nrow a d (by decide)) (e▸hx)) av)) (bt.upd16 b4 (ai (RC.safe a _ (by decide)) aC))
 refine L0<|fL (xs:=L) (ys:=([(cX.mk 0 0 0 (V.wordsR (Int.tdiv (C.byteV-1) 2)))])) (.agg #[vW 0,vW 0,vW 0,nS]) 4 32 b5 bZ (by simp) bt.ones (fun w' hv=>bt.upd16 hv (bf (bv _ b5 (by decide)) aC)) (by(try simp only[d8,aQ]);omega) (le (le (le (le (le (le (le (le (le (le (le J.size r) c.size) F.size) k.size) i.size) S.size) T.size) U.size) a6.size) a8.size) a9.size) fun c0 c2 cR c3 b6=>Pl 1<|nl<|bn<|?_
 subst bV
 have hC2:(bH s C).2.1=(((((C.bytesC 1).need false 5).bytesC 1).need ((((C.bytesC 1).need false 5).byteV)==6) 9).wordsC (Int.tdiv (C.byteV-1) 2)):=by show eo C=_;(try simp only[eo,dQ,gq,gv,g,D,E,o,bq]);all_goals rfl
 have hM2:[(bH s C).2.2]=[(cX.mk 0 0 0 (((((C.bytesC 1).need false 5).bytesC 1).need ((((C.bytesC 1).need false 5).byteV)==6) 9).wordsR (Int.tdiv (C.byteV-1) 2)))]:=by show[dQ C]=_;(try simp only[eo,dQ,gq,gv,g,D,E,o,bq]);all_goals rfl
 have hS2:(bH s C).1=s:=by(try (show s=_));(try simp only[dK,← Int.add_assoc]);all_goals rfl
 have hlt:=jv s C (by omega)
 have h9:=gj (one:=bH) M (by omega) (by omega) hlt
 rw[hC2,hM2,hS2] at h9
 rw[hC2] at hlt
 have b7:=ut (aE.mono (S':=(N :: (ob B++[]))) ab (ac im aA)) b6 (aB il aA)
 have b8:=ut an (ut (aE.mono (S':=(f :: (N :: (ob B++[])))) b2 (ac im aA)) b7 (ac im (aB il aA))) (ac (nr I) (ac (ni z.size j) (aB (bC d lr) aA)))
 have ba:=uz t a7
 exact ed ((n-1),(((((C.bytesC 1).need false 5).bytesC 1).need ((((C.bytesC 1).need false 5).byteV)==6) 9).wordsC (Int.tdiv (C.byteV-1) 2)),(L++[(cX.mk 0 0 0 (((((C.bytesC 1).need false 5).bytesC 1).need ((((C.bytesC 1).need false 5).byteV)==6) 9).wordsR (Int.tdiv (C.byteV-1) 2)))]),c0,c2,s) ⟨b8,(le (le (le (le (le (le (le (le (le (le (le r c.size) F.size) k.size) i.size) S.size) T.size) U.size) a6.size) a8.size) a9.size) b6.size),(RC.upd b1 b7 (aa b3 (b9 (RC.nrow b1 (al d ba (fun x hx=>(aa (fun e=>(RC.nrow a d (by decide)) (e▸hx)) av)) (bt.upd16 ba (ai (RC.safe a _ (by decide)) aC))) (by decide)) av)) b8),c3,(by(try dsimp only);omega),(by(try dsimp only);intro he;omega),(by(try dsimp only);simp only[d8];omega),h9⟩ (by omega)
 refine xt<|tx<|tx<|bx<|tn<|sq<|aq 3<|?_
 have ad:=RC.upd a c av (aE.step (RC.u a) c)
 refine L0<|dC (p:=⟨f,3,none⟩) (v:=vI C.e) (RC.fld ad)<|ap 1<|cb ((C.e==2)) (fun H=>?_) (fun H=>?_)
 have c4:=ak H
 refine az 2<|bj<|rr (.tuple #[nS,vI 5])<|?_
 obtain⟨iP,iT⟩:=eI M g
 have hw:bh (aO bH b.length 0 ⟨b,false,0⟩ []).1.e=5:=by unfold bh;rw[iP,if_pos H]
 refine⟨none,0,0,by rw[hw],fun h=>absurd (hw.symm.trans h) (by decide),z⟩
 have c4:=au H
 refine bz<|sq<|Rg 7 (fun w'=>w'.cell? ⟨f,3,none⟩=some (vI C.e)) fun cS W=>?_
 refine bA (RC.fld (RC.upd ad W av (aE.step (RC.u ad) W))) fun q=>Rt 0 q<|Rt 1 q<|Rt 2 q<|Rt 3 q<|Rl 4 q (fun _ hs=>hs)<|Rt 5 q<|Rt 6 q<|re<|tn<|rt<|rr (.tuple #[.slice B L.length cq,vI C.e])<|?_
 obtain⟨iP,iT⟩:=eI M g
 have hw:bh (aO bH b.length 0 ⟨b,false,0⟩ []).1.e=C.e:=by unfold bh;rw[iP,if_neg (by rw[H];decide)]
 have bb:=aN c W
 refine⟨_,_,_,by rw[hw],fun h=>by rw[iT (hw.symm.trans h)];exact(al d bb (fun x hx=>av) (bt.upd16 bb aC)),(aN z W)⟩
theorem rG(hsl:aX m w (.slice A b.length cp) b)(hb:b.length≤1048576) :
    Calls Tryz.prog 179 #[vI dir,vB 21,.slice A b.length cp] w (eY (aO cC b.length 0 ⟨b,false,0⟩ []) w):=by
 have hln:(b.length:Int)≤1048576:=by omega
 refine en 108 Tryz.func179 rfl<|aq 2<|aL 2<|L0<|dF #[.slice A b.length cp,vI 0,.bool false,vI 0] fun d a2 M aI N=>ap 1<|sq<|go<|Pl 1<|db 1<|sq<|bk<|?_
 have a3:RC w _ A cp b a2 d (ah.mk b false 0):=⟨hsl,N,M,⟨0,aI,Nat.zero_le _,rfl⟩,by omega⟩
 refine gw (fun x=>[(0,vI dir),(1,vB 21),(6,nS),(7,vI 0),(8,vP d 0),(9,.slice x.2.2.2.1 x.2.2.1.length x.2.2.2.2.1),(10,vI x.2.2.2.2.2)]) (fun(x:Nat × ah × List cX × Option Addr × Nat × Int) w'=>aE [] w w'∧a2.heap.size≤w'.heap.size∧RC w m A cp b w' d x.2.1∧aW w.heap.size 98 4 (bt true) w' (.slice x.2.2.2.1 x.2.2.1.length x.2.2.2.2.1) x.2.2.1∧(0≤x.2.2.2.2.2)∧(x.2.1.e=0→x.2.2.2.2.2≤245)∧(x.2.2.1.length+x.2.1.l.length≤b.length)∧((x.2.1.e=0∧x.2.1.l.length≤x.1∧aO cC x.1 x.2.2.2.2.2 x.2.1 x.2.2.1=aO cC b.length 0 ⟨b,false,0⟩ [])∨(x.2.1.e≠0∧(aO cC b.length 0 ⟨b,false,0⟩ []).1=x.2.1))) (fun x=>x.2.1.l.length) (b.length,(ah.mk b false 0),[],none,0,0) ⟨N,lr,a3,(aW.nil w.heap.size _ _ (bt true) _),(by(try dsimp only);omega),(fun _=>(show(0:Int)≤245 from by decide)),(by(try dsimp only);simp),.inl ⟨rfl,Nat.le_refl _,rfl⟩⟩ ?_
 rintro⟨n,C,L,B,cq,s⟩ a4 ⟨aJ,O,aP,aT,aU,aY,aZ,b0⟩
 refine f5 [(0,vI dir),(1,vB 21),(6,nS),(7,vI 0),(8,vP d 0),(9,.slice B L.length cq),(10,vI s)] ?_
 have a:RC w m A cp b a4 d C:=aP
 have hlC:=RC.clen a
 have hrC:i2 C:=RC.rng a
 have j:aW w.heap.size 98 4 (bt true) a4 (.slice B L.length cq) L:=aT
 have bs:0≤s:=aU
 have bu:C.e=0→s≤245:=aY
 have bw:L.length+C.l.length≤b.length:=aZ
 have P:(C.e=0∧C.l.length≤n∧aO cC n s C L=aO cC b.length 0 ⟨b,false,0⟩ [])∨(C.e≠0∧(aO cC b.length 0 ⟨b,false,0⟩ []).1=C):=b0
 refine sq<|aq 1<|ax<|m1 (gC a) fun bB c=>?_
 have bE:=RC.clen a
 refine Pl 2<|cY 6 [20] 26 20 (decide (0<(C.l.length:Int))) (C.e==0) (fun K b1 b2=>?_) ?_
 have bF:=of_decide_eq_true b2
 refine Pl 3<|?_
 exact L1<|dC (p:=⟨d,3,none⟩) (v:=vI C.e) (RC.fld (RC.upd a c av (aE.step (RC.u a) c)))<|Pl 2<|ce b1 _ rfl
 refine nt<|?_
 have E:=aN aJ c
 refine cb (((decide (0<(C.l.length:Int)))&&(C.e==0))) (fun g=>?_) (fun g=>?_)
 have Q:=(aS g).1
 have S:=(aS g).2
 have bG:=of_decide_eq_true Q
 have bH:=ak S
 refine bz<|bk<|aq 1<|aK #[vW 0,vW 0,vW 0,nS] fun T bI k a5 U=>aD a5 #[vW 0,vW 0,vW 0,nS] fun bJ b3 F=>nt<|sq<|aq 6<|nl<|tn<|c0<|aq 1<|?_
 have a6:=ud U F k
 have G:=aN c a6
 refine ax<|m5 (u5 (RC.upd a G av (aE.step (RC.u a) G))) fun bK b4 b5 b6 b7 r=>?_
 obtain⟨bL,bM⟩:=b4
 obtain⟨bN,bO⟩:=b5
 obtain⟨bP,bQ⟩:=b6
 have t:=nb (RC.lt a3) (le O c.size) k
 refine aD (aV r (Ne.symm t) b3) #[vW ((aM C).file),vW ((aM C).record),vW ((aM C).count),nS] fun bR b8 H=>db 2<|c1<|sq<|Rg 9 (fun w'=>w'.cell? ⟨T,2,none⟩=some (vW ((aM C).count))) fun bS y=>?_
 have a7:=ub y b8
 refine bA (am a7 rfl) fun o=>Rt 0 o<|Rt 1 o<|Rl 2 o (fun _ hs=>hs)<|Rr 3 o (vI ((aM C).count)) (fun _ _=>c9 (vI (IntKind.i64.wrap ((aM C).count))) (by kernel_rfl) (congrArg (Value.int .i64) (i64_in (by omega))))<|Rr 4 o (vI (2*((aM C).count))) (fun _ _=>c9 (vI (IntKind.i64.wrap (2*((aM C).count)))) (by kernel_rfl) (congrArg (Value.int .i64) (IntWalk.i64_in _ (by omega))))<|Rt 5 o<|?_
 have a8:=aN H y
 have V:=us r a8
 have a9:=ud E (ue a6 V k) M
 have I:=RC.upd b7 a8 (aa t av) a9
 refine R0 6 rfl<|Oc<|m1 (gC I) fun bT f=>?_
 have bU:=RC.clen I
 have ab:=ub f a7
 refine bA (am ab rfl) fun ba=>Rt 7 ba<|?_
 refine R0 8 rfl<|Oc<|m2 (aR ((decide ((2*((aM C).count))≤(((d7 C).l.length:Nat) : Int)))) 5 (RC.upd I f av (aE.step (RC.u I) f))) fun bV bb q=>?_
 refine eU bb fun x93 bc bd=>?_
 have W:=aV q (Ne.symm t) ab
 refine bA (am W rfl) fun bW=>re<|tn<|go<|Pl 2<|aH W 2<|be ((aM C).count)<|ax<|lv (ff (n:=(aM C).count) (by omega) bd) fun ad ae bX af bY bZ aj z=>Pl 1<|?_
 refine L0<|bD (aV z (Ne.symm t) W) 3 #[vW ((aM C).file),vW ((aM C).record),vW ((aM C).count),.slice ad ((x93.wordsR ((aM C).count)).length) ae] fun c2 bg X=>nt<|go<|Pl 1<|L0<|cJ bg<|L0<|eX (m:=1) (e:=98) #[vW ((aM C).file),vW ((aM C).record),vW ((aM C).count),.slice ad ((x93.wordsR ((aM C).count)).length) ae] fun c3 c4 c5 bi Y=>?_
 have Z:=aN X Y
 have bl:=iU (R:=bt true) (x:=(cX.mk ((aM C).file) ((aM C).record) ((aM C).count) (x93.wordsR ((aM C).count)))) bi rfl ⟨_,rfl,((al af Z (fun x hx=>(aa (fun e=>(aG (ag a5) (le (le (le (le (le F.size r.size) H.size) y.size) f.size) q.size) af) (e▸hx)) av)) (fun _ _ h=>h))).rd,c7 (x:=(aM C).file) (by omega),c7 (x:=(aM C).record) (by omega),c7 (x:=(aM C).count) (by omega)⟩
 have an:=uz f (ui q (us z Z))
 have ao:=ue G (ut V an (ac im (ac im aA))) (le c.size k)
 have ar:=al j ao (fun x hx=>(aa (fun e=>(RC.nrow a j (by decide)) (e▸hx)) av)) (bt.upd16 ao (ai (RC.safe a _ (by decide)) aC))
 refine L0<|fL (xs:=L) (ys:=([(cX.mk ((aM C).file) ((aM C).record) ((aM C).count) (x93.wordsR ((aM C).count)))])) (.agg #[vW 0,vW 0,vW 0,nS]) 4 32 ar bl (by simp) bt.ones (fun w' hv=>bt.upd16 hv (bf (bv _ ar (by decide)) aC)) (by(try simp only[d8,aQ]);omega) (le (le (le (le (le (le (le (le (le (le (le (le N.size O) c.size) U.size) F.size) r.size) H.size) y.size) f.size) q.size) z.size) X.size) Y.size) fun bm bo c6 bp a0=>Pl 1<|nl<|bn<|?_
 subst bc
 have hC2:(cC s C).2.1=(((d7 C).need (decide ((2*((aM C).count))≤(((d7 C).l.length:Nat) : Int))) 5).wordsC ((aM C).count)):=by show i9 C=_;(try simp only[i9,gF,mf,g,Q,S,bq]);all_goals rfl
 have hM2:[(cC s C).2.2]=[(cX.mk ((aM C).file) ((aM C).record) ((aM C).count) (((d7 C).need (decide ((2*((aM C).count))≤(((d7 C).l.length:Nat) : Int))) 5).wordsR ((aM C).count)))]:=by show[gF C]=_;(try simp only[i9,gF,mf,g,Q,S,bq]);all_goals rfl
 have hS2:(cC s C).1=s:=by(try (show s=_));(try simp only[dK,← Int.add_assoc]);all_goals rfl
 have hlt:=oX s C (by omega)
 have h9:=gj (one:=cC) P (by omega) (by omega) hlt
 rw[hC2,hM2,hS2] at h9
 rw[hC2] at hlt
 have aw:=ut a9 (ut (aE.mono (S':=(d :: (T :: (ob B++[])))) an (ac im (ac im aA))) a0 (aB il aA)) (ac (nr M) (ac (ni E.size k) (aB (bC j lr) aA)))
 have ay:=ue G (u1 V (uz f (u1 q z im)) im) (le c.size k)
 exact ed ((n-1),(((d7 C).need (decide ((2*((aM C).count))≤(((d7 C).l.length:Nat) : Int))) 5).wordsC ((aM C).count)),(L++[(cX.mk ((aM C).file) ((aM C).record) ((aM C).count) (((d7 C).need (decide ((2*((aM C).count))≤(((d7 C).l.length:Nat) : Int))) 5).wordsR ((aM C).count)))]),bm,bo,s) ⟨aw,(le (le (le (le (le (le (le (le (le (le (le (le O c.size) U.size) F.size) r.size) H.size) y.size) f.size) q.size) z.size) X.size) Y.size) a0.size),(RC.upd aj (ut (aE.mono (S':=(T :: (ob B++[]))) Z (ac im aA)) a0 (aB il aA)) (aa t (b9 (RC.nrow aj (al j ay (fun x hx=>(aa (fun e=>(RC.nrow a j (by decide)) (e▸hx)) av)) (bt.upd16 ay (ai (RC.safe a _ (by decide)) aC))) (by decide)) av)) aw),bp,(by(try dsimp only);omega),(by(try dsimp only);intro he;omega),(by(try dsimp only);simp only[d8];omega),h9⟩ (by omega)
 refine xt<|tx<|tx<|bx<|tn<|sq<|aq 3<|?_
 have a1:=RC.upd a c av (aE.step (RC.u a) c)
 refine L0<|dC (p:=⟨d,3,none⟩) (v:=vI C.e) (RC.fld a1)<|ap 1<|cb ((C.e==2)) (fun D=>?_) (fun D=>?_)
 have br:=ak D
 refine az 2<|bj<|rr (.tuple #[nS,vI 5])<|?_
 obtain⟨iP,iT⟩:=eI P g
 have hw:bh (aO cC b.length 0 ⟨b,false,0⟩ []).1.e=5:=by unfold bh;rw[iP,if_pos D]
 refine⟨none,0,0,by rw[hw],fun h=>absurd (hw.symm.trans h) (by decide),E⟩
 have br:=au D
 refine bz<|sq<|Rg 7 (fun w'=>w'.cell? ⟨d,3,none⟩=some (vI C.e)) fun c8 J=>?_
 refine bA (RC.fld (RC.upd a1 J av (aE.step (RC.u a1) J))) fun i=>Rt 0 i<|Rt 1 i<|Rt 2 i<|Rt 3 i<|Rl 4 i (fun _ hs=>hs)<|Rt 5 i<|Rt 6 i<|re<|tn<|rt<|rr (.tuple #[.slice B L.length cq,vI C.e])<|?_
 obtain⟨iP,iT⟩:=eI P g
 have hw:bh (aO cC b.length 0 ⟨b,false,0⟩ []).1.e=C.e:=by unfold bh;rw[iP,if_neg (by rw[D];decide)]
 have aF:=aN c J
 refine⟨_,_,_,by rw[hw],fun h=>by rw[iT (hw.symm.trans h)];exact(al j aF (fun x hx=>av) (bt.upd16 aF aC)),(aN E J)⟩
theorem kQ(h:aX m w v b)(hb:b.length≤1048576) :
    Calls Tryz.prog 179 #[.int .i64 0,.int .u8 20,v] w (eY (aO cy b.length 0 ⟨b,false,0⟩ []) w):=by
  obtain⟨A,cp,rfl,_,_⟩:=h.shape
  exact sf h hb
theorem kV(h:aX m w v b)(hb:b.length≤1048576) :
    Calls Tryz.prog 179 #[.int .i64 1,.int .u8 20,v] w (eY (aO bH b.length 0 ⟨b,false,0⟩ []) w):=by
  obtain⟨A,cp,rfl,_,_⟩:=h.shape
  exact rc h hb
theorem kR(h:aX m w v b)(hb:b.length≤1048576) :
    Calls Tryz.prog 179 #[.int .i64 dir,.int .u8 21,v] w (eY (aO cC b.length 0 ⟨b,false,0⟩ []) w):=by
  obtain⟨A,cp,rfl,_,_⟩:=h.shape
  exact rG h hb
open Go.RowKit
theorem fq(h:bh x=0) : x=0:=by
  unfold bh at h
  split at h
  · cases h
  · exact h
theorem iA(h:¬ bh x=0) : (x != 0)=true:=by
  rw[bne_iff_ne]
  rintro rfl
  exact h rfl
theorem fR:((0:Int)!=0)=false:=rfl
theorem s6(hsl:aX m w (.slice A b.length cp) b)(hb:b.length≤1048576) :
    Calls Tryz.prog 112 #[vI 0,vB 20,.slice A b.length cp] w (cz (.slice A b.length cp) b (cg cy fU 20 b) w):=by
 have hln:(b.length:Int)≤1048576:=by omega
 have hcp:b.length≤cp:=by obtain⟨_,_,hv,h1,_⟩:=aI.shape hsl;injection hv with _ _ h3;omega
 have hrb:=aX.range hsl
 refine en 101 Tryz.func112 rfl<|sg<|aK mZ fun a8 a9 i g j=>ap 1<|sq<|az 6<|c0<|bz<|sq<|az 6<|c0<|bz<|sq<|az 3<|cb (((b.length:Int)==0)) (fun a=>?_) (fun a=>?_)
 have F:=ak a
 refine aq 1<|aD g mZ fun ab G H=>ap 1<|bj<|c8 G (vI 2)<|?_
 exact cZ (y:=(b7.zero,2)) (by unfold cg cU cc fU;(try simp only[a,bq,fR,reduceIte])<;>rfl) (bo (ud j H i))
 have F:=au a
 refine bz<|aq 1<|?_
 have q:=aX.old hsl j
 refine eF (aX.at_ q 0 (by omega)) fun I J L M ac=>L0<|hM b.length 0 L (by omega)<|L0<|dC (p:=⟨I,J+0,none⟩) (v:=vB (b.getD 0 0)) M<|be (b.getD 0 0)<|Pl 1<|aL 3<|cY 3 [36] 39 36 (decide (9≤(b.getD 0 0))) (decide ((b.getD 0 0)≤251)) (fun K N O=>?_) ?_
 have ad:=of_decide_eq_true O
 exact Pl 3<|ce N _ rfl
 refine ap 1<|sq<|az 6<|c1<|go<|Pl 3<|cY 3 [48] 51 48 (decide (7≤(b.getD 0 0))) (decide ((b.getD 0 0)≤245)) (fun K Q R=>?_) ?_
 have ae:=of_decide_eq_true R
 exact Pl 3<|ce Q _ rfl
 refine Pl 1<|cY 4 [52] 56 52 ((decide (7≤(b.getD 0 0)))&&(decide ((b.getD 0 0)≤245))) (((b.getD 0 0)%7)==0) (fun K S z=>?_) ?_
 have T:=(aS z).1
 have U:=(aS z).2
 have af:=of_decide_eq_true T
 have ah:=of_decide_eq_true U
 exact Pl 1<|L1<|Oe (vI (Int.tmod (b.getD 0 0) 7)) (vI ((b.getD 0 0)%7)) (congrArg (Value.int .i64) (Int.tmod_eq_emod_of_nonneg (by omega)))<|Pl 2<|ce S _ rfl
 refine ap 1<|sq<|az 6<|c0<|bz<|sq<|sq<|go<|ap 2<|cb ((!(((decide (7≤(b.getD 0 0)))&&(decide ((b.getD 0 0)≤245)))&&(((b.getD 0 0)%7)==0)))) (fun d=>?_) (fun d=>?_)
 have f:(((decide (7≤(b.getD 0 0)))&&(decide ((b.getD 0 0)≤245)))&&(((b.getD 0 0)%7)==0))=false:=by simpa only[Bool.not_eq_true',Bool.not_eq_false'] using d
 refine aq 1<|aD g mZ fun aj V W=>ap 1<|bj<|c8 V (vI 5)<|?_
 exact cZ (y:=(b7.zero,5)) (by unfold cg cU cc fU;(try simp only[a,d,f,bq,fR,reduceIte])<;>rfl) (bo (ud j W i))
 have f:(((decide (7≤(b.getD 0 0)))&&(decide ((b.getD 0 0)≤245)))&&(((b.getD 0 0)%7)==0))=true:=by simpa only[Bool.not_eq_true',Bool.not_eq_false'] using d
 have k:=(aS f).1
 have l:=(aS f).2
 have q32naa:=(aS k).1
 have q32nab:=(aS k).2
 have q32naap:=of_decide_eq_true q32naa
 have q32nabp:=of_decide_eq_true q32nab
 have q32nbp:=ak l
 refine bz<|sq<|aq 3<|be ((b.getD 0 0)+1)<|ap 1<|cb ((decide ((b.length:Int)<((b.getD 0 0)+1)))) (fun h=>?_) (fun h=>?_)
 have X:=of_decide_eq_true h
 refine aq 1<|aD g mZ fun am Y Z=>ap 1<|bj<|c8 Y (vI 2)<|?_
 exact cZ (y:=(b7.zero,2)) (by unfold cg cU cc fU;(try simp only[a,d,f,k,q32naa,q32nab,l,h,bq,fR,reduceIte])<;>rfl) (bo (ud j Z i))
 have X:=of_decide_eq_false h
 refine bz<|aq 4<|be ((b.getD 0 0)+1)<|jR (e9 (P:=Tryz.prog) 27 5 1 Tryz.underlying27 rfl rfl A b.length cp (lo:=1) (up:=((b.getD 0 0)+1)) 1 ((((b.getD 0 0)+1)).toNat) (by omega) (by omega) (by omega) (by omega) (by omega)) fun r hrun43 B=>L0<|gy (.slice r (((((b.getD 0 0)+1)).toNat)-1) (cp-1)) (de (kl:=.i64) (kh:=.i64) (lo:=1) (hi:=((b.getD 0 0)+1)) (A:=A) (n:=b.length) (c:=cp) rfl Tryz.underlying27 (by kernel_rfl) (by kernel_rfl) (by kernel_rfl) (hrun43 _ _ _))<|?_
 by_cases hE:bh (aO cy (((b.take ((((b.getD 0 0)+1)).toNat)).drop 1)).length 0 ⟨((b.take ((((b.getD 0 0)+1)).toNat)).drop 1),false,0⟩ []).1.e=0
 refine ax (args:=#[vI 0,vB 20,.slice r (((((b.getD 0 0)+1)).toNat)-1) (cp-1)])<|e2 (jq (kQ (B _ _ _ _ _ q) (by rw[List.length_drop,List.length_take];omega)) hE) fun an ao s t=>?_
 obtain⟨a0,a1,rfl,ar,aw⟩:=aI.shape s.rd
 refine ap 5<|sq<|az 2<|c0<|bz<|sq<|sq<|go<|Pl 3<|be ((b.getD 0 0)+1)<|ap 1<|?_
 have C:=aN j t
 refine cb ((decide (((b.getD 0 0)+1)<(b.length:Int)))) (fun o=>?_) (fun o=>?_)
 have a2:=of_decide_eq_true o
 refine aq 1<|?_
 refine aD (ub t g) mZ fun ay a3 a4=>ap 1<|bj<|c8 a3 (vI 3)<|?_
 have hE0:(aO cy (((b.take ((((b.getD 0 0)+1)).toNat)).drop 1)).length 0 ⟨((b.take ((((b.getD 0 0)+1)).toNat)).drop 1),false,0⟩ []).1.e=0:=fq hE
 exact cZ (y:=(b7.zero,3)) (by unfold cg cU cc fU;(try simp only[a,d,f,k,q32naa,q32nab,l,h,o,bq,hE0,fR,reduceIte])<;>rfl) (bo (ud C a4 i))
 have a2:=of_decide_eq_false o
 refine bz<|aq 3<|?_
 have D:=ub t g
 refine aD D (mG 20 0 0 0 0 0 0 0 0 0 0 0 nS nS nS (.slice a0 ((aO cy (((b.take ((((b.getD 0 0)+1)).toNat)).drop 1)).length 0 ⟨((b.take ((((b.getD 0 0)+1)).toNat)).drop 1),false,0⟩ []).2.length) a1) 0 0 0 0 0 nS) fun aA a5 u=>ap 1<|rt<|c8 a5 (vI 0)<|?_
 have hE0:(aO cy (((b.take ((((b.getD 0 0)+1)).toNat)).drop 1)).length 0 ⟨((b.take ((((b.getD 0 0)+1)).toNat)).drop 1),false,0⟩ []).1.e=0:=fq hE
 exact cZ (y:=((b7.mk 20 0 0 0 0 0 0 0 0 0 0 0 [] [] [] (aO cy (((b.take ((((b.getD 0 0)+1)).toNat)).drop 1)).length 0 ⟨((b.take ((((b.getD 0 0)+1)).toNat)).drop 1),false,0⟩ []).2 0 0 0 0 0 []),0)) (by unfold cg cU cc fU;(try simp only[a,d,f,k,q32naa,q32nab,l,h,o,bq,hE0,fR,reduceIte])<;>rfl) ⟨_,rfl,⟨_,_,_,_,_,rfl,aI.nil ..,aI.nil ..,(fun _ _ _=>aI.nil ..),((al s u (fun x hx=>(aa (fun e=>(aG (ag g) lr s) (e▸hx)) av)) (bt.upd16 u (ai (aT D (by decide)) aC)))).rd,aI.nil ..,(bT (by omega))⟩,(ud C u i)⟩
 refine ax (args:=#[vI 0,vB 20,.slice r (((((b.getD 0 0)+1)).toNat)-1) (cp-1)])<|(iC (kQ (B _ _ _ _ _ q) (by rw[List.length_drop,List.length_take];omega))).mono ?_
 rintro _ aB ⟨aE,aF,aH,rfl,E⟩
 refine⟨_,rfl,?_⟩
 have hE1:(bh (aO cy (((b.take ((((b.getD 0 0)+1)).toNat)).drop 1)).length 0 ⟨((b.take ((((b.getD 0 0)+1)).toNat)).drop 1),false,0⟩ []).1.e != 0)=true:=by simpa using hE
 refine ap 5<|sq<|az 2<|ct hE1<|aq 2<|?_
 refine aD (ub E g) mZ fun aJ a6 a7=>ap 1<|bj<|c8 a6 (vI (bh (aO cy (((b.take ((((b.getD 0 0)+1)).toNat)).drop 1)).length 0 ⟨((b.take ((((b.getD 0 0)+1)).toNat)).drop 1),false,0⟩ []).1.e))<|?_
 have hE3:((aO cy (((b.take ((((b.getD 0 0)+1)).toNat)).drop 1)).length 0 ⟨((b.take ((((b.getD 0 0)+1)).toNat)).drop 1),false,0⟩ []).1.e != 0)=true:=iA hE
 exact cZ (y:=(b7.zero,bh (aO cy (((b.take ((((b.getD 0 0)+1)).toNat)).drop 1)).length 0 ⟨((b.take ((((b.getD 0 0)+1)).toNat)).drop 1),false,0⟩ []).1.e)) (by unfold cg cU cc fU;(try simp only[a,d,f,k,q32naa,q32nab,l,h,hE1,bq,hE3,fR,reduceIte])<;>rfl) (bo (ud j (uz E a7) i))
theorem rl(hsl:aX m w (.slice A b.length cp) b)(hb:b.length≤1048576) :
    Calls Tryz.prog 112 #[vI 1,vB 20,.slice A b.length cp] w (cz (.slice A b.length cp) b (cg bH fX 20 b) w):=by
 have hln:(b.length:Int)≤1048576:=by omega
 have hcp:b.length≤cp:=by obtain⟨_,_,hv,h1,_⟩:=aI.shape hsl;injection hv with _ _ h3;omega
 have hrb:=aX.range hsl
 refine en 101 Tryz.func112 rfl<|sg<|aK mZ fun a4 a5 i g j=>ap 1<|sq<|az 6<|c0<|bz<|sq<|az 6<|c0<|bz<|sq<|az 3<|cb (((b.length:Int)==0)) (fun a=>?_) (fun a=>?_)
 have E:=ak a
 refine aq 1<|aD g mZ fun a6 F G=>ap 1<|bj<|c8 F (vI 2)<|?_
 exact cZ (y:=(b7.zero,2)) (by unfold cg cU cc fX;(try simp only[a,bq,fR,reduceIte])<;>rfl) (bo (ud j G i))
 have E:=au a
 refine bz<|aq 1<|?_
 have q:=aX.old hsl j
 refine eF (aX.at_ q 0 (by omega)) fun H I J L a7=>L0<|hM b.length 0 J (by omega)<|L0<|dC (p:=⟨H,I+0,none⟩) (v:=vB (b.getD 0 0)) L<|be (b.getD 0 0)<|Pl 1<|aL 3<|cY 3 [36] 39 36 (decide (9≤(b.getD 0 0))) (decide ((b.getD 0 0)≤251)) (fun K M N=>?_) ?_
 have a8:=of_decide_eq_true N
 exact Pl 3<|ce M _ rfl
 refine ap 1<|sq<|az 6<|c0<|bz<|sq<|sq<|go<|ap 6<|c1<|go<|Pl 3<|cY 3 [65] 68 65 (decide (4≤(b.getD 0 0))) (decide ((b.getD 0 0)≤245)) (fun K O Q=>?_) ?_
 have a9:=of_decide_eq_true Q
 exact Pl 3<|ce O _ rfl
 refine ap 1<|sq<|az 2<|cb ((!((decide (4≤(b.getD 0 0)))&&(decide ((b.getD 0 0)≤245))))) (fun d=>?_) (fun d=>?_)
 have f:((decide (4≤(b.getD 0 0)))&&(decide ((b.getD 0 0)≤245)))=false:=by simpa only[Bool.not_eq_true',Bool.not_eq_false'] using d
 refine aq 1<|aD g mZ fun ab R S=>ap 1<|bj<|c8 R (vI 5)<|?_
 exact cZ (y:=(b7.zero,5)) (by unfold cg cU cc fX;(try simp only[a,d,f,bq,fR,reduceIte])<;>rfl) (bo (ud j S i))
 have f:((decide (4≤(b.getD 0 0)))&&(decide ((b.getD 0 0)≤245)))=true:=by simpa only[Bool.not_eq_true',Bool.not_eq_false'] using d
 have k:=(aS f).1
 have l:=(aS f).2
 have q30nap:=of_decide_eq_true k
 have q30nbp:=of_decide_eq_true l
 refine bz<|sq<|aq 3<|be ((b.getD 0 0)+1)<|ap 1<|cb ((decide ((b.length:Int)<((b.getD 0 0)+1)))) (fun h=>?_) (fun h=>?_)
 have T:=of_decide_eq_true h
 refine aq 1<|aD g mZ fun ac U V=>ap 1<|bj<|c8 U (vI 2)<|?_
 exact cZ (y:=(b7.zero,2)) (by unfold cg cU cc fX;(try simp only[a,d,f,k,l,h,bq,fR,reduceIte])<;>rfl) (bo (ud j V i))
 have T:=of_decide_eq_false h
 refine bz<|aq 4<|be ((b.getD 0 0)+1)<|jR (e9 (P:=Tryz.prog) 27 5 1 Tryz.underlying27 rfl rfl A b.length cp (lo:=1) (up:=((b.getD 0 0)+1)) 1 ((((b.getD 0 0)+1)).toNat) (by omega) (by omega) (by omega) (by omega) (by omega)) fun r hrun41 z=>L0<|gy (.slice r (((((b.getD 0 0)+1)).toNat)-1) (cp-1)) (de (kl:=.i64) (kh:=.i64) (lo:=1) (hi:=((b.getD 0 0)+1)) (A:=A) (n:=b.length) (c:=cp) rfl Tryz.underlying27 (by kernel_rfl) (by kernel_rfl) (by kernel_rfl) (hrun41 _ _ _))<|?_
 by_cases hE:bh (aO bH (((b.take ((((b.getD 0 0)+1)).toNat)).drop 1)).length 0 ⟨((b.take ((((b.getD 0 0)+1)).toNat)).drop 1),false,0⟩ []).1.e=0
 refine ax (args:=#[vI 1,vB 20,.slice r (((((b.getD 0 0)+1)).toNat)-1) (cp-1)])<|e2 (jq (kV (z _ _ _ _ _ q) (by rw[List.length_drop,List.length_take];omega)) hE) fun ad ae s t=>?_
 obtain⟨W,X,rfl,af,ah⟩:=aI.shape s.rd
 refine ap 5<|sq<|az 2<|c0<|bz<|sq<|sq<|go<|Pl 3<|be ((b.getD 0 0)+1)<|ap 1<|?_
 have B:=aN j t
 refine cb ((decide (((b.getD 0 0)+1)<(b.length:Int)))) (fun o=>?_) (fun o=>?_)
 have Y:=of_decide_eq_true o
 refine aq 1<|?_
 refine aD (ub t g) mZ fun aj Z a0=>ap 1<|bj<|c8 Z (vI 3)<|?_
 have hE0:(aO bH (((b.take ((((b.getD 0 0)+1)).toNat)).drop 1)).length 0 ⟨((b.take ((((b.getD 0 0)+1)).toNat)).drop 1),false,0⟩ []).1.e=0:=fq hE
 exact cZ (y:=(b7.zero,3)) (by unfold cg cU cc fX;(try simp only[a,d,f,k,l,h,o,bq,hE0,fR,reduceIte])<;>rfl) (bo (ud B a0 i))
 have Y:=of_decide_eq_false o
 refine bz<|aq 3<|?_
 have C:=ub t g
 refine aD C (mG 20 0 0 0 0 0 0 0 0 0 0 0 nS nS nS (.slice W ((aO bH (((b.take ((((b.getD 0 0)+1)).toNat)).drop 1)).length 0 ⟨((b.take ((((b.getD 0 0)+1)).toNat)).drop 1),false,0⟩ []).2.length) X) 0 0 0 0 0 nS) fun am a1 u=>ap 1<|rt<|c8 a1 (vI 0)<|?_
 have hE0:(aO bH (((b.take ((((b.getD 0 0)+1)).toNat)).drop 1)).length 0 ⟨((b.take ((((b.getD 0 0)+1)).toNat)).drop 1),false,0⟩ []).1.e=0:=fq hE
 exact cZ (y:=((b7.mk 20 0 0 0 0 0 0 0 0 0 0 0 [] [] [] (aO bH (((b.take ((((b.getD 0 0)+1)).toNat)).drop 1)).length 0 ⟨((b.take ((((b.getD 0 0)+1)).toNat)).drop 1),false,0⟩ []).2 0 0 0 0 0 []),0)) (by unfold cg cU cc fX;(try simp only[a,d,f,k,l,h,o,bq,hE0,fR,reduceIte])<;>rfl) ⟨_,rfl,⟨_,_,_,_,_,rfl,aI.nil ..,aI.nil ..,(fun _ _ _=>aI.nil ..),((al s u (fun x hx=>(aa (fun e=>(aG (ag g) lr s) (e▸hx)) av)) (bt.upd16 u (ai (aT C (by decide)) aC)))).rd,aI.nil ..,(bT (by omega))⟩,(ud B u i)⟩
 refine ax (args:=#[vI 1,vB 20,.slice r (((((b.getD 0 0)+1)).toNat)-1) (cp-1)])<|(iC (kV (z _ _ _ _ _ q) (by rw[List.length_drop,List.length_take];omega))).mono ?_
 rintro _ an ⟨ao,ar,aw,rfl,D⟩
 refine⟨_,rfl,?_⟩
 have hE1:(bh (aO bH (((b.take ((((b.getD 0 0)+1)).toNat)).drop 1)).length 0 ⟨((b.take ((((b.getD 0 0)+1)).toNat)).drop 1),false,0⟩ []).1.e != 0)=true:=by simpa using hE
 refine ap 5<|sq<|az 2<|ct hE1<|aq 2<|?_
 refine aD (ub D g) mZ fun ay a2 a3=>ap 1<|bj<|c8 a2 (vI (bh (aO bH (((b.take ((((b.getD 0 0)+1)).toNat)).drop 1)).length 0 ⟨((b.take ((((b.getD 0 0)+1)).toNat)).drop 1),false,0⟩ []).1.e))<|?_
 have hE3:((aO bH (((b.take ((((b.getD 0 0)+1)).toNat)).drop 1)).length 0 ⟨((b.take ((((b.getD 0 0)+1)).toNat)).drop 1),false,0⟩ []).1.e != 0)=true:=iA hE
 exact cZ (y:=(b7.zero,bh (aO bH (((b.take ((((b.getD 0 0)+1)).toNat)).drop 1)).length 0 ⟨((b.take ((((b.getD 0 0)+1)).toNat)).drop 1),false,0⟩ []).1.e)) (by unfold cg cU cc fX;(try simp only[a,d,f,k,l,h,hE1,bq,hE3,fR,reduceIte])<;>rfl) (bo (ud j (uz D a3) i))
theorem rp(hd:dir=0∨dir=1)(hsl:aX m w (.slice A b.length cp) b)(hb:b.length≤1048576) :
    Calls Tryz.prog 112 #[vI dir,vB 21,.slice A b.length cp] w (cz (.slice A b.length cp) b (cg cC fZ 21 b) w):=by
 have hln:(b.length:Int)≤1048576:=by omega
 have hcp:b.length≤cp:=by obtain⟨_,_,hv,h1,_⟩:=aI.shape hsl;injection hv with _ _ h3;omega
 have hrb:=aX.range hsl
 have g:((dir != 0)&&(dir != 1))=false:=by rcases hd with rfl | rfl<;>rfl
 refine en 101 Tryz.func112 rfl<|sg<|aK mZ fun a5 a6 j h k=>ap 1<|sq<|aq 3<|cY 3 [14] 17 14 (dir != 0) (dir != 1) (fun K F G=>?_) ?_
 have a7:=ay G
 exact Pl 3<|ce F _ rfl
 refine nt<|cf g<|bz<|sq<|az 6<|c0<|bz<|sq<|az 3<|cb (((b.length:Int)==0)) (fun a=>?_) (fun a=>?_)
 have H:=ak a
 refine aq 1<|aD h mZ fun a8 I J=>ap 1<|bj<|c8 I (vI 2)<|?_
 exact cZ (y:=(b7.zero,2)) (by unfold cg cU cc fZ;(try simp only[g,a,bq,fR,reduceIte])<;>rfl) (bo (ud k J j))
 have H:=au a
 refine bz<|aq 1<|?_
 have r:=aX.old hsl k
 refine eF (aX.at_ r 0 (by omega)) fun L M N O a9=>L0<|hM b.length 0 N (by omega)<|L0<|dC (p:=⟨L,M+0,none⟩) (v:=vB (b.getD 0 0)) O<|be (b.getD 0 0)<|Pl 1<|aL 3<|cY 3 [36] 39 36 (decide (9≤(b.getD 0 0))) (decide ((b.getD 0 0)≤251)) (fun K Q R=>?_) ?_
 have ab:=of_decide_eq_true R
 exact Pl 3<|ce Q _ rfl
 refine ap 1<|sq<|az 6<|c0<|bz<|sq<|sq<|go<|ap 6<|c0<|bz<|sq<|az 2<|cb ((!((decide (9≤(b.getD 0 0)))&&(decide ((b.getD 0 0)≤251))))) (fun d=>?_) (fun d=>?_)
 have f:((decide (9≤(b.getD 0 0)))&&(decide ((b.getD 0 0)≤251)))=false:=by simpa only[Bool.not_eq_true',Bool.not_eq_false'] using d
 refine aq 1<|aD h mZ fun ac S T=>ap 1<|bj<|c8 S (vI 5)<|?_
 exact cZ (y:=(b7.zero,5)) (by unfold cg cU cc fZ;(try simp only[g,a,d,f,bq,fR,reduceIte])<;>rfl) (bo (ud k T j))
 have f:((decide (9≤(b.getD 0 0)))&&(decide ((b.getD 0 0)≤251)))=true:=by simpa only[Bool.not_eq_true',Bool.not_eq_false'] using d
 have l:=(aS f).1
 have o:=(aS f).2
 have q30nap:=of_decide_eq_true l
 have q30nbp:=of_decide_eq_true o
 refine bz<|sq<|aq 3<|be ((b.getD 0 0)+1)<|ap 1<|cb ((decide ((b.length:Int)<((b.getD 0 0)+1)))) (fun i=>?_) (fun i=>?_)
 have U:=of_decide_eq_true i
 refine aq 1<|aD h mZ fun ad V W=>ap 1<|bj<|c8 V (vI 2)<|?_
 exact cZ (y:=(b7.zero,2)) (by unfold cg cU cc fZ;(try simp only[g,a,d,f,l,o,i,bq,fR,reduceIte])<;>rfl) (bo (ud k W j))
 have U:=of_decide_eq_false i
 refine bz<|aq 4<|be ((b.getD 0 0)+1)<|jR (e9 (P:=Tryz.prog) 27 5 1 Tryz.underlying27 rfl rfl A b.length cp (lo:=1) (up:=((b.getD 0 0)+1)) 1 ((((b.getD 0 0)+1)).toNat) (by omega) (by omega) (by omega) (by omega) (by omega)) fun s hrun41 B=>L0<|gy (.slice s (((((b.getD 0 0)+1)).toNat)-1) (cp-1)) (de (kl:=.i64) (kh:=.i64) (lo:=1) (hi:=((b.getD 0 0)+1)) (A:=A) (n:=b.length) (c:=cp) rfl Tryz.underlying27 (by kernel_rfl) (by kernel_rfl) (by kernel_rfl) (hrun41 _ _ _))<|?_
 by_cases hE:bh (aO cC (((b.take ((((b.getD 0 0)+1)).toNat)).drop 1)).length 0 ⟨((b.take ((((b.getD 0 0)+1)).toNat)).drop 1),false,0⟩ []).1.e=0
 refine ax (args:=#[vI dir,vB 21,.slice s (((((b.getD 0 0)+1)).toNat)-1) (cp-1)])<|e2 (jq (kR (B _ _ _ _ _ r) (by rw[List.length_drop,List.length_take];omega)) hE) fun ae af t u=>?_
 obtain⟨X,Y,rfl,ah,aj⟩:=aI.shape t.rd
 refine ap 5<|sq<|az 2<|c0<|bz<|sq<|sq<|go<|Pl 3<|be ((b.getD 0 0)+1)<|ap 1<|?_
 have C:=aN k u
 refine cb ((decide (((b.getD 0 0)+1)<(b.length:Int)))) (fun q=>?_) (fun q=>?_)
 have Z:=of_decide_eq_true q
 refine aq 1<|?_
 refine aD (ub u h) mZ fun am a0 a1=>ap 1<|bj<|c8 a0 (vI 3)<|?_
 have hE0:(aO cC (((b.take ((((b.getD 0 0)+1)).toNat)).drop 1)).length 0 ⟨((b.take ((((b.getD 0 0)+1)).toNat)).drop 1),false,0⟩ []).1.e=0:=fq hE
 exact cZ (y:=(b7.zero,3)) (by unfold cg cU cc fZ;(try simp only[g,a,d,f,l,o,i,q,bq,hE0,fR,reduceIte])<;>rfl) (bo (ud C a1 j))
 have Z:=of_decide_eq_false q
 refine bz<|aq 3<|?_
 have D:=ub u h
 refine aD D (mG 21 0 0 0 0 0 0 0 0 0 0 0 nS nS nS (.slice X ((aO cC (((b.take ((((b.getD 0 0)+1)).toNat)).drop 1)).length 0 ⟨((b.take ((((b.getD 0 0)+1)).toNat)).drop 1),false,0⟩ []).2.length) Y) 0 0 0 0 0 nS) fun an a2 z=>ap 1<|rt<|c8 a2 (vI 0)<|?_
 have hE0:(aO cC (((b.take ((((b.getD 0 0)+1)).toNat)).drop 1)).length 0 ⟨((b.take ((((b.getD 0 0)+1)).toNat)).drop 1),false,0⟩ []).1.e=0:=fq hE
 exact cZ (y:=((b7.mk 21 0 0 0 0 0 0 0 0 0 0 0 [] [] [] (aO cC (((b.take ((((b.getD 0 0)+1)).toNat)).drop 1)).length 0 ⟨((b.take ((((b.getD 0 0)+1)).toNat)).drop 1),false,0⟩ []).2 0 0 0 0 0 []),0)) (by unfold cg cU cc fZ;(try simp only[g,a,d,f,l,o,i,q,bq,hE0,fR,reduceIte])<;>rfl) ⟨_,rfl,⟨_,_,_,_,_,rfl,aI.nil ..,aI.nil ..,(fun _ _ _=>aI.nil ..),((al t z (fun x hx=>(aa (fun e=>(aG (ag h) lr t) (e▸hx)) av)) (bt.upd16 z (ai (aT D (by decide)) aC)))).rd,aI.nil ..,(bT (by omega))⟩,(ud C z j)⟩
 refine ax (args:=#[vI dir,vB 21,.slice s (((((b.getD 0 0)+1)).toNat)-1) (cp-1)])<|(iC (kR (B _ _ _ _ _ r) (by rw[List.length_drop,List.length_take];omega))).mono ?_
 rintro _ ao ⟨ar,aw,aA,rfl,E⟩
 refine⟨_,rfl,?_⟩
 have hE1:(bh (aO cC (((b.take ((((b.getD 0 0)+1)).toNat)).drop 1)).length 0 ⟨((b.take ((((b.getD 0 0)+1)).toNat)).drop 1),false,0⟩ []).1.e != 0)=true:=by simpa using hE
 refine ap 5<|sq<|az 2<|ct hE1<|aq 2<|?_
 refine aD (ub E h) mZ fun aB a3 a4=>ap 1<|bj<|c8 a3 (vI (bh (aO cC (((b.take ((((b.getD 0 0)+1)).toNat)).drop 1)).length 0 ⟨((b.take ((((b.getD 0 0)+1)).toNat)).drop 1),false,0⟩ []).1.e))<|?_
 have hE3:((aO cC (((b.take ((((b.getD 0 0)+1)).toNat)).drop 1)).length 0 ⟨((b.take ((((b.getD 0 0)+1)).toNat)).drop 1),false,0⟩ []).1.e != 0)=true:=iA hE
 exact cZ (y:=(b7.zero,bh (aO cC (((b.take ((((b.getD 0 0)+1)).toNat)).drop 1)).length 0 ⟨((b.take ((((b.getD 0 0)+1)).toNat)).drop 1),false,0⟩ []).1.e)) (by unfold cg cU cc fZ;(try simp only[g,a,d,f,l,o,i,hE1,bq,hE3,fR,reduceIte])<;>rfl) (bo (ud k (uz E a4) j))
theorem pe(hd:dir=0∨dir=1)(hc:¬ c=20∧¬ c=21) :
    Calls Tryz.prog 112 #[vI dir,vB c,.slice A b.length cp] w (cz (.slice A b.length cp) b (b7.zero,4) w):=by
 have a:((dir != 0)&&(dir != 1))=false:=by rcases hd with rfl | rfl<;>rfl
 have e2:((c != 20)&&(c != 21))=true:=by simp[hc.1,hc.2]
 refine en 101 Tryz.func112 rfl<|sg<|aK mZ fun m n d e f=>ap 1<|sq<|aq 3<|cY 3 [14] 17 14 (dir != 0) (dir != 1) (fun K g h=>?_) ?_
 have o:=ay h
 exact Pl 3<|ce g _ rfl
 refine nt<|cf a<|bz<|sq<|aq 3<|cY 3 [21] 24 21 (c != 20) (c != 21) (fun K i j=>?_) ?_
 have p:=ay j
 exact Pl 3<|ce i _ rfl
 refine nt<|ct e2<|aq 1<|aD e mZ fun q k l=>ap 1<|bj<|c8 k (vI 4)<|?_
 exact bo (ud f l d)
theorem r3(hd:¬ (dir=0∨dir=1)) :
    Calls Tryz.prog 112 #[vI dir,vB c,.slice A b.length cp] w (cz (.slice A b.length cp) b (b7.zero,1) w):=by
 have a:((dir != 0)&&(dir != 1))=true:=by simp;omega
 refine en 101 Tryz.func112 rfl<|sg<|aK mZ fun k l d e f=>ap 1<|sq<|aq 3<|cY 3 [14] 17 14 (dir != 0) (dir != 1) (fun K g h=>?_) ?_
 have m:=ay h
 exact Pl 3<|ce g _ rfl
 refine nt<|ct a<|aq 1<|aD e mZ fun n i j=>ap 1<|bj<|c8 i (vI 1)<|?_
 exact bo (ud f j d)
theorem ny(hd:dir=0∨dir=1)(hc:¬ c=20∧¬ c=21) : aj bg dir c b=(b7.zero,4):=by
  unfold aj bg
  rw[if_pos hd,if_neg (by simpa using hc.1),if_neg (by simpa using hc.2)]
theorem pN{form:Int→Int→ah→Option (ah × b7)}   (hd:¬ (dir=0∨dir=1)) : aj form dir c b=(b7.zero,1):=by
  unfold aj
  rw[if_neg hd]
theorem ln(hc:B8 c)(h:aX m w v b)(hb:b.length≤1048576) :
    Calls Tryz.prog 112 #[.int .i64 dir,.int .u8 c,v] w (cz v b (aj bg dir c b) w):=by
  have hr:=aX.range h
  obtain⟨A,cp,rfl,_,_⟩:=h.shape
  by_cases hd:dir=0∨dir=1
  · by_cases a:c=20
    · subst a
      rcases hd with rfl|rfl
      · rw[nD hr];exact s6 h hb
      · rw[ol hr];exact rl h hb
    · by_cases d:c=21
      · subst d
        rw[s8 hd hr];exact rp hd h hb
      · rw[ny hd ⟨a,d⟩];exact pe hd ⟨a,d⟩
  · rw[pN hd];exact r3 hd
open Go.RowKit
theorem qY{i:Nat}  {L:List Obj}{R:ah × List Obj}(h:el (k-i) C L=R)(hk:k-i=0) : R=(C,L):=by
  rw[hk] at h
  exact h.symm
theorem jU(hcode:B8 c)(hsl:aX m w (.slice A b.length cp) b)(hb:b.length≤1048576) :
    Calls Tryz.prog 113 #[vI 0,vB c,.slice A b.length cp] w (cz (.slice A b.length cp) b (aj cl 0 c b) w):=by
 obtain⟨hcode1,hcode2⟩:=hcode
 have hln:(b.length:Int)≤1048576:=by omega
 refine en 176 Tryz.func113 rfl<|sg<|aK mZ fun bx bB q j a=>ap 1<|sq<|az 6<|c0<|bz<|sq<|az 2<|cb ((c != 43)) (fun k=>?_) (fun k=>?_)
 have aC:=ay k
 refine aq 1<|aD j mZ fun bC aF aG=>ap 1<|bj<|c8 aF (vI 4)<|?_
 exact cZ (by unfold aj cl dq hH fM fN f6 ee eW dw;(try simp only[k,bq,cR,cN,cO,cQ,cP,reduceIte])<;>rfl) (bo (ud a aG q))
 have aC:=aJ k
 refine bz<|aq 2<|L0<|dF #[.slice A b.length cp,vI 0,.bool false,vI 0] fun r bE d U h=>Pl 1<|aL 1<|aK mZ fun bF bG g aM aO=>aD aM (mC 43) fun aP aQ aS=>?_
 refine aL 1<|?_
 have V:=ud aO aS g
 have s:=aN h V
 have W:=aN a s
 have aT:RC w _ A cp b aP r (ah.mk b false 0):=⟨hsl,W,(Nat.le_trans a.size d),⟨0,(ub V U),Nat.zero_le _,rfl⟩,by omega⟩
 refine ax<|m3 (dk aT) fun bH aU X bI=>Pl 1<|?_
 have f:=nb (ag U) lr g
 refine L0<|bD (aV X (Ne.symm f) aQ) 16 (mG 43 0 0 0 0 0 0 0 0 0 0 0 nS nS nS nS ((ah.mk b false 0).byteV) 0 0 0 0 nS) fun bJ G Y=>aL 2<|aH G 16<|Pl 2<|ea 4 [38] 42 38 (((ah.mk b false 0).byteV)==13) (((ah.mk b false 0).byteV)==14) (fun K aW aY=>?_) ?_
 have bK:=au aY
 exact Pl 1<|L1<|cS G 16<|Pl 2<|ce aW _ rfl
 have t:=us X Y
 have Z:=ut W t (ac (ni a.size d) (ac (ni (le a.size h.size) g) aA))
 refine ax<|m2 (aR (((((ah.mk b false 0).byteV)==13)||(((ah.mk b false 0).byteV)==14))) 8 (RC.upd aU Y (aa f av) Z)) fun bL aZ o=>?_
 refine eU aZ fun x55 a0 x=>?_
 refine nt<|sq<|bk<|aq 1<|?_
 have H:=aV o (Ne.symm f) G
 refine aH H 16<|ap 2<|?_
 have a1:=ud Z o (le a.size d)
 refine cb ((((ah.mk b false 0).byteV)==13)) (fun y=>?_) (fun y=>?_)
 have b0:=ak y
 refine aq 1<|ax<|m1 (gC x) fun bM I=>?_
 have bN:=RC.clen x
 refine Pl 1<|aL 3<|?_
 refine ax<|m2 (aR ((decide ((x55.l.length:Int)≤251))) 5 (RC.upd x I av (aE.step (RC.u x) I))) fun bO a2 b1=>nt<|go<|Pl 2<|ax<|nc (eQ (n:=(x55.l.length:Int)) (by omega) a2) fun a3 a4 bP b2 b3 b4=>?_
 have bQ:=Nat.le_trans (ah.bytesR_le (x55.need (decide ((x55.l.length:Int)≤251)) 5) (x55.l.length:Int)) (RC.clen a2)
 refine eU b3 fun lK b5 b6=>?_
 refine Pl 1<|?_
 have a5:=uz I (u1 b1 b4 im)
 refine L0<|bD (aV a5 (Ne.symm f) H) 14 (mG 43 0 0 0 0 0 0 0 0 0 0 0 nS nS (.slice a3 (((x55.need (decide ((x55.l.length:Int)≤251)) 5).bytesR (x55.l.length:Int)).length) a4) nS ((ah.mk b false 0).byteV) 0 0 0 0 nS) fun bR b8 a6=>nl<|bn<|tn<|aq 1<|?_
 have J:=us a5 a6
 have a7:=ut a1 J (ac (ni a.size d) (ac (ni (le a.size h.size) g) aA))
 refine ax<|m2 (ki (RC.upd b6 a6 (aa f av) a7)) fun bS L C=>nt<|sq<|aq 3<|L0<|dC (p:=⟨r,3,none⟩) (v:=vI lK.endC.e) (RC.fld L)<|ap 1<|?_
 have a8:=ud a7 C (le a.size d)
 have hs:aj cl 0 c b=bp (b7.mk 43 0 0 0 0 0 0 0 0 0 0 0 [] [] ((x55.need (decide ((x55.l.length:Int)≤251)) 5).bytesR (x55.l.length:Int)) [] ((ah.mk b false 0).byteV) 0 0 0 0 []) lK:=by
   subst b5 a0
   unfold aj cl dq hH fM fN f6 ee eW dw
   (try simp only[k,y,bq,cR,cN,cO,cQ,cP,reduceIte])
   all_goals rfl
 refine cb ((lK.endC.e != 0)) (fun M=>?_) (fun M=>?_)
 have N:=ay M
 refine sq<|Rg 7 (fun w'=>w'.cell? ⟨r,3,none⟩=some (vI lK.endC.e)) fun bU D=>?_
 have a9:=RC.upd L D av (aE.step (RC.u L) D)
 refine bA (RC.fld a9) fun z=>Rt 0 z<|Rt 1 z<|Rt 2 z<|Rt 3 z<|Rl 4 z (fun _ hs=>hs)<|?_
 refine R0 5 rfl<|j5 (ub (ut s (ut t (ui o (u1 J (aN C D) im)) (ac im (ac im aA))) (ac (nr d) (ac (ni h.size g) aA))) j) mZ fun bV b9 ab=>?_
 have ad:=ud a8 (uz D ab) q
 refine bA (RC.fld (RC.upd a9 ab (aa (Ne.symm (nb (ag j) lr d)) av) ad)) fun ba=>Rt 6 ba<|re<|tn<|bj<|c8 b9 (vI lK.endC.e)<|?_
 rw[hs]
 exact cn N ad
 have N:=aJ M
 refine bz<|sg<|?_
 refine L0<|cJ (aV C (Ne.symm f) b8)<|?_
 refine aD (ub (ut s (ut t (ui o (u1 J C im)) (ac im (ac im aA))) (ac (nr d) (ac (ni h.size g) aA))) j) (mG 43 0 0 0 0 0 0 0 0 0 0 0 nS nS (.slice a3 (((x55.need (decide ((x55.l.length:Int)≤251)) 5).bytesR (x55.l.length:Int)).length) a4) nS ((ah.mk b false 0).byteV) 0 0 0 0 nS) fun bW bb bc=>ap 1<|rt<|c8 bb (vI 0)<|?_
 rw[hs]
 exact cM N ⟨_,_,_,_,_,rfl,aI.nil ..,aI.nil ..,b2,aI.nil ..,aI.nil ..,(bT (by omega))⟩ (ud a8 bc q)
 have b0:=au y
 refine az 3<|c1<|aq 1<|ax<|m3 (dk x) fun bX bd ae bY=>Pl 1<|?_
 refine L0<|bD (aV ae (Ne.symm f) H) 17 (mG 43 0 0 0 0 0 0 0 0 0 0 0 nS nS nS nS ((ah.mk b false 0).byteV) x55.byteV 0 0 0 nS) fun bZ O af=>aL 2<|aH O 17<|Pl 2<|cY 4 [154] 158 154 (decide (0<x55.byteV)) (decide (x55.byteV<5)) (fun K be bf=>?_) ?_
 have c2:=of_decide_eq_true bf
 exact Pl 1<|L1<|cS O 17<|Pl 2<|ce be _ rfl
 have P:=us ae af
 have ai:=ut a1 P (ac (ni a.size d) (ac (ni (le a.size h.size) g) aA))
 refine ax<|m2 (aR (((decide (0<x55.byteV))&&(decide (x55.byteV<5)))) 6 (RC.upd bd af (aa f av) ai)) fun c3 bg bh=>?_
 refine eU bg fun i bi bl=>?_
 refine nt<|go<|Pl 1<|ax<|m3 (dk bl) fun c4 bm br c5=>Pl 1<|?_
 have al:=u1 bh br im
 refine L0<|bD (aV al (Ne.symm f) O) 20 (mG 43 0 0 0 0 0 0 0 0 0 0 0 nS nS nS nS ((ah.mk b false 0).byteV) x55.byteV 0 0 i.byteV nS) fun c6 bs am=>nl<|bn<|tn<|aq 1<|?_
 have Q:=us al am
 have an:=ut ai Q (ac (ni a.size d) (ac (ni (le a.size h.size) g) aA))
 refine ax<|m2 (ki (RC.upd bm am (aa f av) an)) fun c7 R E=>nt<|sq<|aq 3<|L0<|dC (p:=⟨r,3,none⟩) (v:=vI (((i.bytesC 1).endC).e)) (RC.fld R)<|ap 1<|?_
 have ao:=ud an E (le a.size d)
 have hs:aj cl 0 c b=bp (b7.mk 43 0 0 0 0 0 0 0 0 0 0 0 [] [] [] [] ((ah.mk b false 0).byteV) x55.byteV 0 0 i.byteV []) (i.bytesC 1):=by
   subst bi a0
   unfold aj cl dq hH fM fN f6 ee eW dw
   (try simp only[k,y,bq,cR,cN,cO,cQ,cP,reduceIte])
   all_goals rfl
 refine cb (((((i.bytesC 1).endC).e)!=0)) (fun S=>?_) (fun S=>?_)
 have T:=ay S
 refine sq<|Rg 7 (fun w'=>w'.cell? ⟨r,3,none⟩=some (vI (((i.bytesC 1).endC).e))) fun c9 F=>?_
 have ar:=RC.upd R F av (aE.step (RC.u R) F)
 refine bA (RC.fld ar) fun B=>Rt 0 B<|Rt 1 B<|Rt 2 B<|Rt 3 B<|Rl 4 B (fun _ hs=>hs)<|?_
 refine R0 5 rfl<|j5 (ub (ut s (ut t (ui o (ut P (u1 Q (aN E F) im) (ac im (ac im aA)))) (ac im (ac im aA))) (ac (nr d) (ac (ni h.size g) aA))) j) mZ fun ca bt aw=>?_
 have aB:=ud ao (uz F aw) q
 refine bA (RC.fld (RC.upd ar aw (aa (Ne.symm (nb (ag j) lr d)) av) aB)) fun bu=>Rt 6 bu<|re<|tn<|bj<|c8 bt (vI (((i.bytesC 1).endC).e))<|?_
 rw[hs]
 exact cn T aB
 have T:=aJ S
 refine bz<|sg<|?_
 refine L0<|cJ (aV E (Ne.symm f) bs)<|?_
 refine aD (ub (ut s (ut t (ui o (ut P (u1 Q E im) (ac im (ac im aA)))) (ac im (ac im aA))) (ac (nr d) (ac (ni h.size g) aA))) j) (mG 43 0 0 0 0 0 0 0 0 0 0 0 nS nS nS nS ((ah.mk b false 0).byteV) x55.byteV 0 0 i.byteV nS) fun cc bv bw=>ap 1<|rt<|c8 bv (vI 0)<|?_
 rw[hs]
 exact cM T ⟨_,_,_,_,_,rfl,aI.nil ..,aI.nil ..,(fun _ _ _=>aI.nil ..),aI.nil ..,aI.nil ..,(bT (by omega))⟩ (ud ao bw q)
theorem ke(hcode:B8 c)(hsl:aX m w (.slice A b.length cp) b)(hb:b.length≤1048576) :
    Calls Tryz.prog 113 #[vI 1,vB c,.slice A b.length cp] w (cz (.slice A b.length cp) b (aj cl 1 c b) w):=by
 obtain⟨hcode1,hcode2⟩:=hcode
 have hln:(b.length:Int)≤1048576:=by omega
 refine en 176 Tryz.func113 rfl<|sg<|aK mZ fun S dO H s a=>ap 1<|sq<|az 6<|c0<|bz<|sq<|az 2<|cb ((c != 43)) (fun D=>?_) (fun D=>?_)
 have ch:=ay D
 refine aq 1<|aD s mZ fun dP ci cj=>ap 1<|bj<|c8 ci (vI 4)<|?_
 exact cZ (by unfold aj cl dq hH fM fN f6 ee eW dw;(try simp only[D,bq,cR,cN,cO,cQ,cP,reduceIte])<;>rfl) (bo (ud a cj H))
 have ch:=aJ D
 refine bz<|aq 2<|L0<|dF #[.slice A b.length cp,vI 0,.bool false,vI 0] fun r dQ d aZ k=>Pl 1<|aL 1<|aK mZ fun E dR o ck b0=>aD ck (mC 43) fun cm co b1=>?_
 refine aL 1<|?_
 have b2:=ud b0 b1 o
 have T:=aN k b2
 have b3:=aN a T
 have cr:RC w _ A cp b cm r (ah.mk b false 0):=⟨hsl,b3,(Nat.le_trans a.size d),⟨0,(ub b2 aZ),Nat.zero_le _,rfl⟩,by omega⟩
 refine ax<|m3 (dk cr) fun dS cs a1 dT=>Pl 1<|?_
 have f:=nb (ag aZ) lr o
 refine L0<|bD (aV a1 (Ne.symm f) co) 16 (mG 43 0 0 0 0 0 0 0 0 0 0 0 nS nS nS nS ((ah.mk b false 0).byteV) 0 0 0 0 nS) fun dU a2 a3=>aL 2<|aH a2 16<|Pl 2<|ea 4 [38] 42 38 (((ah.mk b false 0).byteV)==13) (((ah.mk b false 0).byteV)==14) (fun K ct cu=>?_) ?_
 have dV:=au cu
 exact Pl 1<|L1<|cS a2 16<|Pl 2<|ce ct _ rfl
 have U:=us a1 a3
 have b4:=ut b3 U (ac (ni a.size d) (ac (ni (le a.size k.size) o) aA))
 refine ax<|m2 (aR (((((ah.mk b false 0).byteV)==13)||(((ah.mk b false 0).byteV)==14))) 8 (RC.upd cs a3 (aa f av) b4)) fun dW cv F=>?_
 refine eU cv fun x55 b5 I=>?_
 refine nt<|sq<|bk<|aq 1<|?_
 have a4:=aV F (Ne.symm f) a2
 refine aH a4 16<|ap 2<|?_
 have b6:=ud b4 F (le a.size d)
 refine cb ((((ah.mk b false 0).byteV)==13)) (fun J=>?_) (fun J=>?_)
 have cw:=ak J
 refine aq 1<|ax<|m1 (gC I) fun dX a5=>?_
 have dY:=RC.clen I
 refine Pl 1<|aL 3<|?_
 refine ax<|m2 (aR ((decide ((x55.l.length:Int)≤251))) 5 (RC.upd I a5 av (aE.step (RC.u I) a5))) fun dZ ba cx=>nt<|go<|Pl 2<|ax<|nc (eQ (n:=(x55.l.length:Int)) (by omega) ba) fun bb bc e0 cy cA cB=>?_
 have e1:=Nat.le_trans (ah.bytesR_le (x55.need (decide ((x55.l.length:Int)≤251)) 5) (x55.l.length:Int)) (RC.clen ba)
 refine eU cA fun lK cC cD=>?_
 refine Pl 1<|?_
 have bd:=uz a5 (u1 cx cB im)
 refine L0<|bD (aV bd (Ne.symm f) a4) 14 (mG 43 0 0 0 0 0 0 0 0 0 0 0 nS nS (.slice bb (((x55.need (decide ((x55.l.length:Int)≤251)) 5).bytesR (x55.l.length:Int)).length) bc) nS ((ah.mk b false 0).byteV) 0 0 0 0 nS) fun e2 cE bf=>nl<|bn<|tn<|aq 1<|?_
 have a6:=us bd bf
 have bg:=ut b6 a6 (ac (ni a.size d) (ac (ni (le a.size k.size) o) aA))
 refine ax<|m2 (ki (RC.upd cD bf (aa f av) bg)) fun e3 a7 V=>nt<|sq<|aq 3<|L0<|dC (p:=⟨r,3,none⟩) (v:=vI lK.endC.e) (RC.fld a7)<|ap 1<|?_
 have bh:=ud bg V (le a.size d)
 have hs:aj cl 1 c b=bp (b7.mk 43 0 0 0 0 0 0 0 0 0 0 0 [] [] ((x55.need (decide ((x55.l.length:Int)≤251)) 5).bytesR (x55.l.length:Int)) [] ((ah.mk b false 0).byteV) 0 0 0 0 []) lK:=by
   subst cC b5
   unfold aj cl dq hH fM fN f6 ee eW dw
   (try simp only[D,J,bq,cR,cN,cO,cQ,cP,reduceIte])
   all_goals rfl
 refine cb ((lK.endC.e != 0)) (fun a8=>?_) (fun a8=>?_)
 have a9:=ay a8
 refine sq<|Rg 7 (fun w'=>w'.cell? ⟨r,3,none⟩=some (vI lK.endC.e)) fun e4 W=>?_
 have bi:=RC.upd a7 W av (aE.step (RC.u a7) W)
 refine bA (RC.fld bi) fun M=>Rt 0 M<|Rt 1 M<|Rt 2 M<|Rt 3 M<|Rl 4 M (fun _ hs=>hs)<|?_
 refine R0 5 rfl<|j5 (ub (ut T (ut U (ui F (u1 a6 (aN V W) im)) (ac im (ac im aA))) (ac (nr d) (ac (ni k.size o) aA))) s) mZ fun e5 cF bl=>?_
 have bm:=ud bh (uz W bl) H
 refine bA (RC.fld (RC.upd bi bl (aa (Ne.symm (nb (ag s) lr d)) av) bm)) fun cG=>Rt 6 cG<|re<|tn<|bj<|c8 cF (vI lK.endC.e)<|?_
 rw[hs]
 exact cn a9 bm
 have a9:=aJ a8
 refine bz<|sg<|?_
 refine L0<|cJ (aV V (Ne.symm f) cE)<|?_
 refine aD (ub (ut T (ut U (ui F (u1 a6 V im)) (ac im (ac im aA))) (ac (nr d) (ac (ni k.size o) aA))) s) (mG 43 0 0 0 0 0 0 0 0 0 0 0 nS nS (.slice bb (((x55.need (decide ((x55.l.length:Int)≤251)) 5).bytesR (x55.l.length:Int)).length) bc) nS ((ah.mk b false 0).byteV) 0 0 0 0 nS) fun e6 cH cI=>ap 1<|rt<|c8 cH (vI 0)<|?_
 rw[hs]
 exact cM a9 ⟨_,_,_,_,_,rfl,aI.nil ..,aI.nil ..,cy,aI.nil ..,aI.nil ..,(bT (by omega))⟩ (ud bh cI H)
 have cw:=au J
 refine az 3<|c0<|aq 1<|ax<|m3 (dk I) fun e7 cK ab e8=>Pl 1<|?_
 refine L0<|bD (aV ab (Ne.symm f) a4) 17 (mG 43 0 0 0 0 0 0 0 0 0 0 0 nS nS nS nS ((ah.mk b false 0).byteV) x55.byteV 0 0 0 nS) fun e9 ad ae=>aL 2<|aH ad 17<|Pl 2<|cY 4 [51] 55 51 (decide (0<x55.byteV)) (decide (x55.byteV<5)) (fun K cL cT=>?_) ?_
 have eb:=of_decide_eq_true cT
 exact Pl 1<|L1<|cS ad 17<|Pl 2<|ce cL _ rfl
 have br:=us ab ae
 have bs:=ut b6 br (ac (ni a.size d) (ac (ni (le a.size k.size) o) aA))
 refine ax<|m2 (aR (((decide (0<x55.byteV))&&(decide (x55.byteV<5)))) 6 (RC.upd cK ae (aa f av) bs)) fun ec cU bt=>?_
 refine eU cU fun j cV cW=>?_
 refine aL 1<|ax<|m3 (dk cW) fun ef cX bu eg=>Pl 1<|?_
 have bv:=u1 bt bu im
 refine L0<|bD (aV bv (Ne.symm f) ad) 18 (mG 43 0 0 0 0 0 0 0 0 0 0 0 nS nS nS nS ((ah.mk b false 0).byteV) x55.byteV j.byteV 0 0 nS) fun eh bw af=>aL 1<|aH bw 18<|L0<|Oe (vB (Int.tmod j.byteV 128)) (vB (j.byteV%128)) (congrArg (Value.int .u8) (Int.tmod_eq_emod_of_nonneg (by omega)))<|Pl 1<|aL 4<|cY 3 [66] 69 66 (decide (1≤(j.byteV%128))) (decide ((j.byteV%128)≤3)) (fun K d0 d1=>?_) ?_
 have ej:=of_decide_eq_true d1
 exact Pl 3<|ce d0 _ rfl
 have bB:=us bv af
 have bE:=ut bs bB (ac (ni a.size d) (ac (ni (le a.size k.size) o) aA))
 refine ax<|m2 (aR (((decide (1≤(j.byteV%128)))&&(decide ((j.byteV%128)≤3)))) 6 (RC.upd cX af (aa f av) bE)) fun ek d2 bF=>?_
 refine eU d2 fun q d3 d4=>?_
 refine aL 1<|ax<|m3 (dk d4) fun em d5 bG eo=>Pl 1<|?_
 have bH:=u1 bF bG im
 refine L0<|bD (aV bH (Ne.symm f) bw) 19 (mG 43 0 0 0 0 0 0 0 0 0 0 0 nS nS nS nS ((ah.mk b false 0).byteV) x55.byteV j.byteV q.byteV 0 nS) fun ep ai am=>aL 2<|aH ai 19<|Pl 2<|ea 4 [78] 82 78 (q.byteV==0) (q.byteV==255) (fun K d6 d7=>?_) ?_
 have eq:=au d7
 exact Pl 1<|L1<|cS ai 19<|Pl 2<|ce d6 _ rfl
 have bI:=us bH am
 have bJ:=ut bE bI (ac (ni a.size d) (ac (ni (le a.size k.size) o) aA))
 refine ax<|m2 (aR (((q.byteV==0)||(q.byteV==255))) 6 (RC.upd d5 am (aa f av) bJ)) fun er d9 bK=>?_
 refine eU d9 fun y da dc=>?_
 refine aL 1<|ax<|m3 (dk dc) fun es dd bL et=>Pl 1<|?_
 have bM:=u1 bK bL im
 refine L0<|bD (aV bM (Ne.symm f) ai) 20 (mG 43 0 0 0 0 0 0 0 0 0 0 0 nS nS nS nS ((ah.mk b false 0).byteV) x55.byteV j.byteV q.byteV y.byteV nS) fun eu X an=>aL 2<|aH X 20<|Pl 2<|ea 4 [91] 95 91 (y.byteV==0) (q.byteV==255) (fun K de df=>?_) ?_
 have ev:=au df
 exact Pl 1<|L1<|cS X 19<|Pl 2<|ce de _ rfl
 have bN:=us bM an
 have bO:=ut bJ bN (ac (ni a.size d) (ac (ni (le a.size k.size) o) aA))
 refine ax<|m2 (aR (((y.byteV==0)||(q.byteV==255))) 6 (RC.upd dd an (aa f av) bO)) fun ew dg ao=>?_
 refine eU dg fun g dh di=>?_
 refine aL 1<|ax<|m3 (dk di) fun ex dj ar ey=>be g.byteV<|Pl 1<|aL 4<|ea 4 [103] 107 103 (g.byteV==1) (x55.byteV != 4) (fun K dl dm=>?_) ?_
 have ez:=au dm
 refine Pl 1<|?_
 exact L1<|cS (aV (u1 ao ar im) (Ne.symm f) X) 17<|Pl 2<|ce dl _ rfl
 refine ax<|m2 (aR (((g.byteV==1)||(x55.byteV != 4))) 5 dj) fun dn dp bP=>?_
 refine eU dp fun N dr ds=>?_
 refine db 1<|bk<|?_
 have hKr:0≤g.byteV∧g.byteV<256:=by omega
 have aw:=u1 ao (u1 ar bP im) im
 refine gw (fun x=>[(6,vP S 0),(7,vI 0),(8,vP r 0),(9,vP E 0),(12,vI g.byteV),(13,vI (x.1:Int))]) (fun(x:Nat × ah × List Obj × Option Addr × Nat) w'=>aE [] w w'∧dn.heap.size≤w'.heap.size∧w'.heap[S]? = some (.cells mZ 45 (0,0))∧RC w m A cp b w' r x.2.1∧w'.heap[E]? = some (.cells (mG 43 0 0 0 0 0 0 0 0 0 0 0 nS nS nS nS ((ah.mk b false 0).byteV) x55.byteV j.byteV q.byteV y.byteV (.slice x.2.2.2.1 x.2.2.1.length x.2.2.2.2)) 45 (0,0))∧aW w.heap.size 100 2 (mu (.slice A b.length cp) b) w' (.slice x.2.2.2.1 x.2.2.1.length x.2.2.2.2) x.2.2.1∧(x.1≤g.byteV.toNat)∧(x.2.2.1.length=x.1)∧(el (g.byteV.toNat-x.1) x.2.1 x.2.2.1=el g.byteV.toNat N [])) (fun x=>g.byteV.toNat-x.1) (0,N,[],none,0) ⟨(ud bO aw (le a.size d)),lr,(ub (ut T (ut U (ui F (ut br (ut bB (ut bI (u1 bN aw im) (ac im (ac im aA))) (ac im (ac im aA))) (ac im (ac im aA)))) (ac im (ac im aA))) (ac (nr d) (ac (ni k.size o) aA))) s),ds,(aV aw (Ne.symm f) X),(aW.nil w.heap.size _ _ (mu (.slice A b.length cp) b) _),(by(try dsimp only);omega),rfl,rfl⟩ ?_
 rintro⟨i,C,L,B,cq⟩ Y ⟨bQ,bR,dt,du,dv,dx,dy,dz,dA⟩
 refine f5 [(6,vP S 0),(7,vI 0),(8,vP r 0),(9,vP E 0),(12,vI g.byteV),(13,vI (i:Int))] ?_
 have O:Y.heap[S]? = some (.cells mZ 45 (0,0)):=dt
 have z:RC w m A cp b Y r C:=du
 have hlC:=RC.clen z
 have hrC:i2 C:=RC.rng z
 have hbv:=gJ hrC
 have hbv2:=gJ (gl hrC (n:=1))
 have bS:Y.heap[E]? = some (.cells (mG 43 0 0 0 0 0 0 0 0 0 0 0 nS nS nS nS ((ah.mk b false 0).byteV) x55.byteV j.byteV q.byteV y.byteV (.slice B L.length cq)) 45 (0,0)):=dv
 have t:aW w.heap.size 100 2 (mu (.slice A b.length cp) b) Y (.slice B L.length cq) L:=dx
 have eA:i≤g.byteV.toNat:=dy
 have eB:L.length=i:=dz
 have bU:el (g.byteV.toNat-i) C L=el g.byteV.toNat N []:=dA
 refine sq<|az 3<|cb ((decide ((i:Int)<g.byteV))) (fun Z=>?_) (fun Z=>?_)
 have dB:=of_decide_eq_true Z
 refine bz<|sq<|bk<|aq 1<|ax<|m3 (dk z) fun eC dD aC eD=>Pl 1<|aL 1<|ax<|m3 (dk dD) fun eE bV aF eF=>?_
 refine be ((C.bytesC 1).byteV)<|Pl 1<|aL 2<|ax<|nc (eQ (n:=(C.bytesC 1).byteV) (by omega) bV) fun dE dG eG dH bW aG=>?_
 have eH:=Nat.le_trans (ah.bytesR_le ((C.bytesC 1).bytesC 1) ((C.bytesC 1).byteV)) (RC.clen bV)
 refine ap 1<|go<|Pl 1<|?_
 have aM:=u1 aC (u1 aF aG im) im
 have aO:=aV aM (Ne.symm f) bS
 refine aH aO 21<|Pl 3<|L0<|eX (m:=1) (e:=100) #[vB C.byteV,.slice dE ((((C.bytesC 1).bytesC 1).bytesR ((C.bytesC 1).byteV)).length) dG] fun eI eJ eK dI G=>?_
 have bX:=RC.upd bW G av (aE.step (RC.u bW) G)
 have dJ:=iU (R:=mu (.slice A b.length cp) b) (x:=(Obj.mk C.byteV (((C.bytesC 1).bytesC 1).bytesR ((C.bytesC 1).byteV)))) dI rfl ⟨_,_,_,rfl,dH,b8 (x:=C.byteV) (by omega)⟩
 have bY:=aN aM G
 have bZ:=al t bY (fun x hx=>(aa (fun e=>(RC.nrow z t (by decide)) (e▸hx)) av)) (fun _ _ h=>h)
 refine L0<|fL (xs:=L) (ys:=([(Obj.mk C.byteV (((C.bytesC 1).bytesC 1).bytesR ((C.bytesC 1).byteV)))])) (.agg #[vB 0,nS]) 2 32 bZ dJ (by simp) mu.ones (fun _ _ _ _ h=>h) (by(try simp only[d8,aQ]);omega) (le (le (le (le (le (le (le (le (le (le (le (le (le (le (le (le (le (le (le (le (le (le (le (le (le a.size k.size) b0.size) b1.size) a1.size) a3.size) F.size) ab.size) ae.size) bt.size) bu.size) af.size) bF.size) bG.size) am.size) bK.size) bL.size) an.size) ao.size) ar.size) bP.size) bR) aC.size) aF.size) aG.size) G.size) fun c1 c2 eL c3 aP=>Pl 1<|?_
 have c4:=aE.blk (ut (aE.mono (S':=(ob B++[])) G aA) aP (aB il aA)) (b9 (ei aO (al t aM (fun x hx=>(aa (fun e=>(RC.nrow z t (by decide)) (e▸hx)) av)) (fun _ _ h=>h)) (by decide)) av) aO
 refine L0<|bD c4 21 (mG 43 0 0 0 0 0 0 0 0 0 0 0 nS nS nS nS ((ah.mk b false 0).byteV) x55.byteV j.byteV q.byteV y.byteV (.slice c1 ((L++[(Obj.mk C.byteV (((C.bytesC 1).bytesC 1).bytesR ((C.bytesC 1).byteV)))]).length) c2)) fun eM dK aS=>nl<|bn<|tn<|go<|Pl 1<|be ((i:Int)+1)<|Pl 1<|nl<|?_
 have c5:=u1 (aE.mono (S':=(ob B++(E :: []))) aP (aB il aA)) aS im
 have c6:=ut (aE.mono (S':=(r :: (ob B++(E :: [])))) bY (ac im aA)) c5 (aB il (ac im aA))
 have c7:=ut bQ c6 (ac (ni a.size d) (aB (bC t lr) (ac (ni (le a.size k.size) o) aA)))
 exact ed ((i+1),(((C.bytesC 1).bytesC 1).bytesC ((C.bytesC 1).byteV)),(L++[(Obj.mk C.byteV (((C.bytesC 1).bytesC 1).bytesR ((C.bytesC 1).byteV)))]),c1,c2) ⟨c7,(le (le (le (le (le (le bR aC.size) aF.size) aG.size) G.size) aP.size) aS.size),(aE.blk c6 (aa (nb (ag s) lr d) (b9 (ei O t (by decide)) (aa (nb (ag s) k.size o) av))) O),(RC.upd bX c5 (b9 (RC.nrow bX bZ (by decide)) (aa f av)) c7),dK,(al c3 aS (fun x hx=>(aa (fun e=>(ei c4 c3 (by decide)) (e▸hx)) av)) (fun _ _ h=>h)),(by(try dsimp only);omega),(by(try dsimp only);simp only[d8];omega),(by(try dsimp only);rw[← bU,show g.byteV.toNat-i=(g.byteV.toNat-(i+1))+1 from by omega];rfl)⟩ (by omega)
 have dB:=of_decide_eq_false Z
 refine xt<|tx<|tx<|bx<|bn<|tn<|aq 1<|?_
 have hR:=qY bU (by omega)
 refine ax<|m2 (ki z) fun eN aT P=>nt<|sq<|aq 3<|L0<|dC (p:=⟨r,3,none⟩) (v:=vI C.endC.e) (RC.fld aT)<|ap 1<|?_
 have c9:=ud bQ P (le a.size d)
 have hs:aj cl 1 c b=bp (b7.mk 43 0 0 0 0 0 0 0 0 0 0 0 [] [] [] [] ((ah.mk b false 0).byteV) x55.byteV j.byteV q.byteV y.byteV (el g.byteV.toNat N []).2) (el g.byteV.toNat N []).1:=by
   subst dr dh da d3 cV b5
   unfold aj cl dq hH fM fN f6 ee eW dw
   (try simp only[D,J,Z,bq,cR,cN,cO,cQ,cP,reduceIte])
   all_goals rfl
 refine cb ((C.endC.e != 0)) (fun aU=>?_) (fun aU=>?_)
 have aY:=ay aU
 refine sq<|Rg 7 (fun w'=>w'.cell? ⟨r,3,none⟩=some (vI C.endC.e)) fun eO a0=>?_
 have ca:=RC.upd aT a0 av (aE.step (RC.u aT) a0)
 refine bA (RC.fld ca) fun Q=>Rt 0 Q<|Rt 1 Q<|Rt 2 Q<|Rt 3 Q<|Rl 4 Q (fun _ hs=>hs)<|?_
 have cc:=nb (ag s) lr d
 refine R0 5 rfl<|j5 (aV (aN P a0) cc O) mZ fun eP dL cd=>?_
 have cf:=ud c9 (uz a0 cd) H
 refine bA (RC.fld (RC.upd ca cd (aa (Ne.symm cc) av) cf)) fun dM=>Rt 6 dM<|re<|tn<|bj<|c8 dL (vI C.endC.e)<|?_
 rw[hR] at hs
 rw[hs]
 exact cn aY cf
 have aY:=aJ aU
 refine bz<|sg<|?_
 refine L0<|cJ (aV P (Ne.symm f) bS)<|?_
 refine aD (aV P (nb (ag s) lr d) O) (mG 43 0 0 0 0 0 0 0 0 0 0 0 nS nS nS nS ((ah.mk b false 0).byteV) x55.byteV j.byteV q.byteV y.byteV (.slice B L.length cq)) fun eR dN cg=>ap 1<|rt<|c8 dN (vI 0)<|?_
 rw[hR] at hs
 rw[hs]
 exact cM aY ⟨_,_,_,_,_,rfl,aI.nil ..,aI.nil ..,(fun _ _ _=>aI.nil ..),aI.nil ..,((al t (us P cg) (fun x hx=>(aa (fun e=>(RC.nrow z t (by decide)) (e▸hx)) (aa (fun e=>(ei O t (by decide)) (e▸hx)) av))) (fun _ _ h=>h))).rd,(bT (by omega))⟩ (ud c9 cg H)
theorem kc(hcode:B8 c)(hsl:aX m w (.slice A b.length cp) b)(hb:b.length≤1048576)(hd:¬ (dir=0∨dir=1)) :
    Calls Tryz.prog 113 #[vI dir,vB c,.slice A b.length cp] w (cz (.slice A b.length cp) b (aj cl dir c b) w):=by
 obtain⟨hcode1,hcode2⟩:=hcode
 have hln:(b.length:Int)≤1048576:=by omega
 have e0:(dir != 0)=true:=by simp;omega
 have e1:(dir != 1)=true:=by simp;omega
 refine en 176 Tryz.func113 rfl<|sg<|aK mZ fun g h a d e=>ap 1<|sq<|aq 3<|sy 19 e0<|Pl 3<|nl<|tn<|ct e1<|aq 1<|aD d mZ fun i dB f=>ap 1<|bj<|c8 dB (vI 1)<|?_
 exact cZ (by unfold aj cl dq hH fM fN f6 ee eW dw;(try simp only[e0,e1,bq,cR,cN,cO,cQ,cP,reduceIte,hd])<;>rfl) (bo (ud e f a))
theorem nJ(hc:B8 c)(h:aX m w v b)(hb:b.length≤1048576) :
    Calls Tryz.prog 113 #[.int .i64 dir,.int .u8 c,v] w (cz v b (aj bY dir c b) w):=by
  rw[← md (aX.range h)]
  obtain⟨A,cp,rfl,_,_⟩:=h.shape
  by_cases h0:dir=0
  · subst h0;exact jU hc h hb
  by_cases h1:dir=1
  · subst h1;exact ke hc h hb
  exact kc hc h hb (by omega)
open Go.RowKit
theorem rI:Calls Tryz.prog 164 #[vB x] w (bW (.bool (mt x)) w):=by
 refine en 37 Tryz.func164 rfl<|aq 1<|aL 3<|cY 3 [5] 8 5 (decide (1≤x)) (decide (x≤8)) (fun K e f=>?_) ?_
 have n:=of_decide_eq_true f
 exact Pl 3<|ce e _ rfl
 refine Pl 1<|ea 3 [9] 12 9 ((decide (1≤x))&&(decide (x≤8))) (x==11) (fun K g o=>?_) ?_
 exact Pl 3<|ce g _ rfl
 refine Pl 1<|ea 3 [13] 16 13 (((decide (1≤x))&&(decide (x≤8)))||(x==11)) (x==12) (fun K h p=>?_) ?_
 exact Pl 3<|ce h _ rfl
 refine Pl 1<|cu 7 [17] 24 ((((((decide (1≤x))&&(decide (x≤8)))||(x==11))||(x==12))||((decide (15≤x))&&(decide (x≤17))))) (fun K c=>?_) ?_
 refine bl 17 (((((decide (1≤x))&&(decide (x≤8)))||(x==11))||(x==12))) (fun a=>?_) (fun a=>?_)
 exact Pl 7<|ce c true (by rw[a];rfl)
 refine Pl 3<|cY 3 [20] 23 20 (decide (15≤x)) (decide (x≤17)) (fun K i j=>?_) ?_
 have q:=of_decide_eq_true j
 exact Pl 3<|ce i _ rfl
 exact Pl 1<|ce c ((decide (15≤x))&&(decide (x≤17))) (by rw[a];rfl)
 refine Pl 1<|cu 7 [25] 32 (((((((decide (1≤x))&&(decide (x≤8)))||(x==11))||(x==12))||((decide (15≤x))&&(decide (x≤17))))||((decide (20≤x))&&(decide (x≤24))))) (fun K d=>?_) ?_
 refine bl 25 ((((((decide (1≤x))&&(decide (x≤8)))||(x==11))||(x==12))||((decide (15≤x))&&(decide (x≤17))))) (fun b=>?_) (fun b=>?_)
 exact Pl 7<|ce d true (by rw[b];rfl)
 refine Pl 3<|cY 3 [28] 31 28 (decide (20≤x)) (decide (x≤24)) (fun K k l=>?_) ?_
 have r:=of_decide_eq_true l
 exact Pl 3<|ce k _ rfl
 exact Pl 1<|ce d ((decide (20≤x))&&(decide (x≤24))) (by rw[b];rfl)
 refine Pl 1<|ea 3 [33] 36 33 ((((((decide (1≤x))&&(decide (x≤8)))||(x==11))||(x==12))||((decide (15≤x))&&(decide (x≤17))))||((decide (20≤x))&&(decide (x≤24)))) (x==43) (fun K m s=>?_) ?_
 exact Pl 3<|ce m _ rfl
 exact ap 1<|rt<|rr (.bool (((((((decide (1≤x))&&(decide (x≤8)))||(x==11))||(x==12))||((decide (15≤x))&&(decide (x≤17))))||((decide (20≤x))&&(decide (x≤24))))||(x==43)))<|cZ (by unfold mt;(try simp only[bq])<;>rfl) ⟨rfl,(aE.refl [] _)⟩
open Go.RowKit
def gD (b:List Int) : b7 × Int :=
  if decide ((b.length:Int)<1) then (b7.zero,2)
  else if decide (b.getD 0 0-128<0) then (b7.zero,4)
  else if !(mt ((b.getD 0 0-128)%256)) then (b7.zero,4)
  else if decide ((b.length:Int)<2) then (b7.zero,2)
  else if !(da (b.getD 1 0)) then (b7.zero,6)
  else if decide (2<(b.length:Int)) then (b7.zero,3)
  else (vA ((b.getD 0 0-128)%256) (b.getD 1 0),0)
theorem uL:mt x=fy x:=by
  unfold mt fy
  rw[Bool.eq_iff_iff]
  simp only[decide_eq_true_eq,List.mem_cons,List.not_mem_nil,or_false,Bool.or_eq_true,Bool.and_eq_true,beq_iff_eq]
  omega
theorem sc(b:List Int) : gD b=g8 b:=by
  unfold gD g8
  rw[uL,show decide ((b.length:Int)<1)=((b.length:Int)==0) from by rw[Bool.eq_iff_iff];simp only[decide_eq_true_eq,beq_iff_eq];omega,show decide (b.getD 0 0-128<0)=decide (b.getD 0 0<128) from by rw[Bool.eq_iff_iff];simp only[decide_eq_true_eq];omega]
  by_cases h:b.length=0
  · rw[show((b.length:Int)==0)=true from by rw[beq_iff_eq];omega];rfl
  · rw[show decide ((b.length:Int)<2)=((b.length:Int)==1) from by rw[Bool.eq_iff_iff];simp only[decide_eq_true_eq,beq_iff_eq];omega]
theorem mc(hsl:aX m w (.slice A b.length cp) b)(hb:b.length≤1048576) :
    Calls Tryz.prog 108 #[.slice A b.length cp] w (cz (.slice A b.length cp) b (gD b) w):=by
 have hln:(b.length:Int)≤1048576:=by omega
 refine en 46 Tryz.func108 rfl<|sg<|aK mZ fun a3 a4 e f n=>ap 1<|sq<|az 3<|cb ((decide ((b.length:Int)<1))) (fun a=>?_) (fun a=>?_)
 have u:=of_decide_eq_true a
 refine aq 1<|aD f mZ fun a5 z B=>ap 1<|bj<|c8 z (vI 2)<|?_
 exact cZ (y:=(b7.zero,2)) (by unfold gD;(try simp only[a,bq,Bool.not_eq_true,reduceIte])<;>rfl) (bo (ud n B e))
 have u:=of_decide_eq_false a
 refine bz<|aq 1<|?_
 have s:=aX.old hsl n
 refine eF (aX.at_ s 0 (by omega)) fun C D E F a6=>L0<|hM b.length 0 E (by omega)<|L0<|dC (p:=⟨C,D+0,none⟩) (v:=vB (b.getD 0 0)) F<|be (b.getD 0 0)<|be ((b.getD 0 0)-128)<|ap 1<|sq<|az 2<|cb ((decide (((b.getD 0 0)-128)<0))) (fun c=>?_) (fun c=>?_)
 have G:=of_decide_eq_true c
 refine aq 1<|aD f mZ fun a7 H I=>ap 1<|bj<|c8 H (vI 4)<|?_
 exact cZ (y:=(b7.zero,4)) (by unfold gD;(try simp only[a,c,bq,Bool.not_eq_true,reduceIte])<;>rfl) (bo (ud n I e))
 have G:=of_decide_eq_false c
 refine bz<|aq 2<|ax<|m1 (rI (x:=(((b.getD 0 0)-128)%256))) fun a8 g=>ap 1<|sq<|aq 2<|nl<|tn<|?_
 have q:=aN n g
 refine cb ((!(mt (((b.getD 0 0)-128)%256)))) (fun d=>?_) (fun d=>?_)
 have i:(mt (((b.getD 0 0)-128)%256))=false:=by simpa using d
 refine aq 1<|?_
 refine aD (ub g f) mZ fun a9 J K=>ap 1<|bj<|c8 J (vI 4)<|?_
 exact cZ (y:=(b7.zero,4)) (by unfold gD;(try simp only[a,c,d,i,bq,Bool.not_eq_true,reduceIte])<;>rfl) (bo (ud q K e))
 have i:(mt (((b.getD 0 0)-128)%256))=true:=by simpa using d
 refine bz<|sq<|az 3<|cb ((decide ((b.length:Int)<2))) (fun h=>?_) (fun h=>?_)
 have L:=of_decide_eq_true h
 refine aq 1<|?_
 refine aD (ub g f) mZ fun aa M N=>ap 1<|bj<|c8 M (vI 2)<|?_
 exact cZ (y:=(b7.zero,2)) (by unfold gD;(try simp only[a,c,d,i,h,bq,Bool.not_eq_true,reduceIte])<;>rfl) (bo (ud q N e))
 have L:=of_decide_eq_false h
 refine bz<|aq 1<|?_
 have t:=aX.old s g
 refine eF (aX.at_ t 1 (by omega)) fun O P Q R ab=>L0<|hM b.length 1 Q (by omega)<|L0<|dC (p:=⟨O,P+1,none⟩) (v:=vB (b.getD 1 0)) R<|ax<|m1 (s0 (x:=(b.getD 1 0)) (by omega)) fun ac k=>ap 1<|sq<|az 2<|?_
 have r:=aN q k
 refine cb ((!(da (b.getD 1 0)))) (fun j=>?_) (fun j=>?_)
 have o:(da (b.getD 1 0))=false:=by simpa using j
 refine aq 1<|?_
 refine aD (ub (aN g k) f) mZ fun ad S T=>ap 1<|bj<|c8 S (vI 6)<|?_
 exact cZ (y:=(b7.zero,6)) (by unfold gD;(try simp only[a,c,d,i,h,j,o,bq,Bool.not_eq_true,reduceIte])<;>rfl) (bo (ud r T e))
 have o:(da (b.getD 1 0))=true:=by simpa using j
 refine bz<|sq<|az 3<|cb ((decide (2<(b.length:Int)))) (fun l=>?_) (fun l=>?_)
 have U:=of_decide_eq_true l
 refine aq 1<|?_
 refine aD (ub (aN g k) f) mZ fun ae V W=>ap 1<|bj<|c8 V (vI 3)<|?_
 exact cZ (y:=(b7.zero,3)) (by unfold gD;(try simp only[a,c,d,i,h,j,o,l,bq,Bool.not_eq_true,reduceIte])<;>rfl) (bo (ud r W e))
 have U:=of_decide_eq_false l
 refine bz<|aq 3<|?_
 refine eF (aX.at_ (aX.old t k) 1 (by omega)) fun X Y Z a0 af=>L0<|hM b.length 1 Z (by omega)<|L0<|dC (p:=⟨X,Y+1,none⟩) (v:=vB (b.getD 1 0)) a0<|Pl 1<|?_
 refine aD (ub (aN g k) f) (mG (((b.getD 0 0)-128)%256) (b.getD 1 0) 0 0 0 0 0 0 0 0 0 0 nS nS nS nS 0 0 0 0 0 nS) fun ag a1 a2=>ap 1<|rt<|c8 a1 (vI 0)<|?_
 exact cZ (y:=((b7.mk (((b.getD 0 0)-128)%256) (b.getD 1 0) 0 0 0 0 0 0 0 0 0 0 [] [] [] [] 0 0 0 0 0 []),0)) (by unfold gD;(try simp only[a,c,d,i,h,j,o,l,bq,Bool.not_eq_true,reduceIte])<;>rfl) ⟨_,rfl,⟨_,_,_,_,_,rfl,aI.nil ..,aI.nil ..,(fun _ _ _=>aI.nil ..),aI.nil ..,aI.nil ..,(bT (by omega))⟩,(ud r a2 e)⟩
theorem nv(h:aX m w v b)(hb:b.length≤1048576) : Calls Tryz.prog 108 #[v] w (cz v b (g8 b) w):=by
  obtain⟨A,cp,rfl,_,_⟩:=h.shape
  rw[← sc]
  exact mc h hb
end Go.Proofs.YtdkhbcefkfgbdaaGreat
