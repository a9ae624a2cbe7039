/- Contracts of functions, part CRtuWrites5. -/
import Derived.Test.YtogbnemojakcpaaGreatCRtuWrites1
import Derived.Test.YtogbnemojakcpaaGreatCRtuWrites2
import Derived.Test.YtogbnemojakcpaaGreatCRtuWrites3
import Derived.Test.YtogbnemojakcpaaGreatCRtuWrites4
set_option linter.unusedVariables false
set_option linter.unusedSimpArgs false
set_option maxRecDepth 100000
set_option maxHeartbeats 4000000
namespace Go.Proofs.YtogbnemojakcpaaGreat
open Go.RowKit
def A8 (A:Option Addr)(cp:Nat)(full:List Int)(k:Nat)(C:aj) : Array Value:=#[.slice A full.length cp,.int .i64 ((k:Nat) : Int),.bool C.sh,.int .i64 C.e]
structure RC (w0:World) (m:Md) (A:Option Addr) (cp:Nat) (full:List Int) (w:World) (g:Nat) (C:aj) : Prop where
  src:b9 m w0 (.slice A full.length cp) full
  u:aC [] w0 w
  new:w0.heap.size≤g
  cell:∃ k:Nat,w.heap[g]? = some (.cells (A8 A cp full k C) 159 (0,0))∧k≤full.length∧C.l=full.drop k
  len:full.length≤1048576
theorem RC.upd{w0:World}{m:Md}{A:Option Addr}{cp:Nat}{full:List Int}{w w':World}{g:Nat}{C:aj}{S:List Nat}(h:RC w0 m A cp full w g C)(hu:aC S w w')(hg:g∉S)(U:aC [] w0 w') : RC w0 m A cp full w' g C:=by
  obtain⟨h1,h2,h3,⟨k,h4,h5,h6⟩,h7⟩:=h
  exact⟨h1,U,h3,⟨k,hu.blk hg h4,h5,h6⟩,h7⟩
theorem RC.rd{w0:World}{m:Md}{A:Option Addr}{cp:Nat}{full:List Int}{w:World}{g:Nat}{C:aj}(h:RC w0 m A cp full w g C) : b9 m w (.slice A full.length cp) full:=b9.old h.src h.u
theorem RC.rng{w0:World}{m:Md}{A:Option Addr}{cp:Nat}{full:List Int}{w:World}{g:Nat}{C:aj}(h:RC w0 m A cp full w g C) : ∀ x,x∈C.l→0≤x∧x<256:=fun x hx=>by
  obtain⟨k,_,_,h2⟩:=h.cell
  rw[h2] at hx
  exact b9.range h.src x (List.mem_of_mem_drop hx)
theorem wG(C:aj){ok:Bool}{x:Int}(h:(ok || (C.e != 0))=true) : C.need ok x=C:=by
  unfold aj.need
  rw[if_neg]
  rintro⟨h1,rfl⟩
  rw[h1] at h
  cases h
theorem wA(C:aj){ok:Bool}{x:Int}(h:(ok || (C.e != 0))=false) : C.need ok x = { C with e:=x }:=by
  simp only[Bool.or_eq_false_iff,bne_eq_false_iff_eq] at h
  unfold aj.need
  rw[if_pos ⟨h.2,h.1⟩]
def wL (w0:World)(m:Md)(A:Option Addr)(cp:Nat)(full:List Int)(g:Nat)(C:aj)(w:World)(e:Ending)(w':World) : Prop:=e = .returned (.tuple #[])∧RC w0 m A cp full w' g C∧aC [g] w w'
theorem aY{w0:World}{m:Md}{A:Option Addr}{cp:Nat}{full:List Int}{w:World}{g:Nat}{C:aj}(ok:Bool)(x:Int)(hC:RC w0 m A cp full w g C) :
    Calls Tryz.prog 152 #[.pointer (some ⟨g,0,none⟩),.bool ok,.int .i64 x] w (wL w0 m A cp full g (C.need ok x) w):=by
 obtain⟨hsrc,hU,hnew,⟨k,hB,hk,hl⟩,hlen⟩:=hC
 refine en 18 Tryz.func152 rfl<|sq<|sg<|Pl 2<|cu 6 [7] 13 ((ok || (C.e != 0))) (fun K c=>?_) ?_
 refine bl 7 (ok) (fun b=>?_) (fun b=>?_)
 exact Pl 6<|ce c true (by rw[b];rfl)
 exact Pl 3<|L1<|aN hB 3<|Pl 2<|ce c (C.e != 0) (by rw[b];rfl)
 refine nt<|cb ((ok || (C.e != 0))) (fun a=>?_) (fun a=>?_)
 refine rt<|tr<|rr (.tuple #[])<|?_
 rw[wG C a]
 exact⟨rfl,⟨hsrc,hU.trans' (aC.mono (S':=[g]) (aC.refl [] _) ax) (fun x hx=>.inr (by simp at hx;subst hx;exact hnew)),hnew,⟨k,hB,hk,hl⟩,hlen⟩,(aC.mono (S':=[g]) (aC.refl [] _) ax)⟩
 have i:=(aF a).1
 have f:=(aF a).2
 have j:=ag f
 refine bi<|go<|Pl 4<|L0<|bX hB 3 #[.slice A full.length cp,.int .i64 ((k:Nat) : Int),.bool C.sh,.int .i64 x] fun l h d=>nl<|rm (.tuple #[])<|?_
 rw[wA C a]
 exact⟨rfl,⟨hsrc,hU.trans' d (fun x hx=>.inr (by simp at hx;subst hx;exact hnew)),hnew,⟨k,h,hk,hl⟩,hlen⟩,d⟩
theorem jm{C:aj}{full:List Int}{k:Nat}{n:Int}(hk:k≤full.length)(hl:C.l=full.drop k) : C.fails n=((C.sh || decide (n<0))||decide ((((full.length:Nat) : Int)-((k:Nat) : Int))<n)):=by
  unfold aj.fails
  rw[hl,List.length_drop,show((full.length-k:Nat) : Int)=((full.length:Nat) : Int)-((k:Nat) : Int) by omega]
def wE (w0:World)(m:Md)(A:Option Addr)(cp:Nat)(full:List Int)(g:Nat)(C:aj)(n:Int)(w:World)(e:Ending)(w':World) : Prop:=∃ A2 n2 c2,e = .returned (.slice A2 n2 c2)∧(∀ m' w'',b9 m' w'' (.slice A full.length cp) full→b9 m' w'' (.slice A2 n2 c2) (C.bytesR n))∧RC w0 m A cp full w' g (C.bytesC n)∧aC [g] w w'
theorem wq{l full:List Int}{k a b:Nat}(hl:l=full.drop k)(h:b=k+a) : l.drop a=full.drop b:=by
  rw[hl,List.drop_drop,h]
theorem pX{C:aj}{full:List Int}{k:Nat}{n:Int}(hk:k≤full.length)(hl:C.l=full.drop k)(hf:C.fails n=false)(a b:Nat)(ha:(a:Int)=k)(hb:(b:Int)=(k:Int)+n) : (full.take b).drop a=C.bytesR n:=by
  obtain rfl:a=k:=by omega
  unfold aj.bytesR
  rw[hf,hl,List.drop_take]
  show _=(full.drop a).take n.toNat
  rw[show b-a=n.toNat by omega]
theorem pN{w0:World}{m:Md}{A:Option Addr}{cp:Nat}{full:List Int}{w:World}{g:Nat}{C:aj}{n:Int}(hn : -1048576≤n∧n≤2097152)(hC:RC w0 m A cp full w g C) :
    Calls Tryz.prog 153 #[.pointer (some ⟨g,0,none⟩),.int .i64 n] w (wE w0 m A cp full g C n w):=by
 obtain⟨hsrc,hU,hnew,⟨k,hB,hk,hl⟩,hlen⟩:=hC
 have hcp:full.length≤cp:=by obtain⟨_,_,hv,h1,_⟩:=aL.shape hsrc;injection hv with _ _ h3;omega
 refine en 64 Tryz.func153 rfl<|sg<|Pl 1<|nt<|sq<|sq<|Rg 22 (fun w'=>w'.cell? ⟨g,2,none⟩=some (.bool C.sh)∧w'.cell? ⟨g,0,none⟩=some (.slice A full.length cp)∧w'.cell? ⟨g,1,none⟩=some (.int .i64 ((k:Nat) : Int))) fun a4 i=>?_
 have d:=ub i hB
 refine bg ⟨(ae d rfl),(ae d rfl),(ae d rfl)⟩ fun a=>Rt 0 a<|Rt 1 a<|Rt 2 a<|Rl 3 a (fun _ hs=>hs.1)<|Rt 4 a<|ru 9 (C.sh) (fun j=>?_) (fun j=>?_)
 refine Ro 5 a<|Ro 6 a<|Rt 7 a<|Rt 8 a<|Ro 9 a<|Ro 10 a<|Ro 11 a<|Ro 12 a<|Ro 13 a<|Ro 14 a<|Ro 15 a<|Ro 16 a<|Ro 17 a<|Ro 18 a<|?_
 refine Ro 19 a<|Ro 20 a<|Rt 21 a<|re<|tn<|c1<|sg<|Pl 3<|L0<|bX d 2 #[.slice A full.length cp,.int .i64 ((k:Nat) : Int),.bool true,.int .i64 C.e] fun a5 q D=>ng<|?_
 refine Pl 4<|L0<|aN q 0<|Pl 3<|L0<|bX q 1 #[.slice A full.length cp,.int .i64 ((full.length:Nat) : Int),.bool true,.int .i64 C.e] fun E F G=>ng<|Pl 1<|?_
 have r:=u1 (u1 (aC.mono (S':=[g]) i ax) D im) G im
 have H:RC w0 m A cp full E g { C with l:=[],sh:=true }:=⟨hsrc,hU.trans' r (fun x hx=>.inr (by simp at hx;subst hx;exact hnew)),hnew,⟨full.length,F,Nat.le_refl _,List.drop_length.symm⟩,hlen⟩
 refine L0<|Oc<|m2 (aY false 2 H) fun a6 I J=>ng<|Pl 1<|nt<|rt<|tr<|rr (.slice none 0 0)<|?_
 have hf:C.fails n=true:=by rw[jm (n:=n) hk hl,j];rfl
 have e1:C.bytesR n=[]:=by unfold aj.bytesR;rw[hf];rfl
 have e2:C.bytesC n=aj.need { C with l:=[],sh:=true } false 2:=by unfold aj.bytesC;rw[hf];rfl
 exact⟨none,0,0,rfl,fun _ _ _=>by rw[e1];exact aL.nil ..,by rw[e2];exact I,(u1 r J im)⟩
 refine Rt 5 a<|Rt 6 a<|Rt 7 a<|Rt 8 a<|ru 13 ((decide (n<0))) (fun f=>?_) (fun f=>?_)
 have K:=of_decide_eq_true f
 refine Ro 9 a<|Ro 10 a<|Ro 11 a<|Ro 12 a<|Ro 13 a<|Ro 14 a<|Ro 15 a<|Ro 16 a<|Ro 17 a<|Ro 18 a<|Ro 19 a<|Ro 20 a<|Rt 21 a<|re<|?_
 refine tn<|c1<|sg<|Pl 3<|L0<|bX d 2 #[.slice A full.length cp,.int .i64 ((k:Nat) : Int),.bool true,.int .i64 C.e] fun a7 s L=>ng<|Pl 4<|L0<|aN s 0<|Pl 3<|L0<|bX s 1 #[.slice A full.length cp,.int .i64 ((full.length:Nat) : Int),.bool true,.int .i64 C.e] fun M N O=>?_
 refine ng<|Pl 1<|?_
 have t:=u1 (u1 (aC.mono (S':=[g]) i ax) L im) O im
 have Q:RC w0 m A cp full M g { C with l:=[],sh:=true }:=⟨hsrc,hU.trans' t (fun x hx=>.inr (by simp at hx;subst hx;exact hnew)),hnew,⟨full.length,N,Nat.le_refl _,List.drop_length.symm⟩,hlen⟩
 refine L0<|Oc<|m2 (aY false 2 Q) fun a8 R S=>ng<|Pl 1<|nt<|rt<|tr<|rr (.slice none 0 0)<|?_
 have hf:C.fails n=true:=by rw[jm (n:=n) hk hl,j,f];rfl
 have e1:C.bytesR n=[]:=by unfold aj.bytesR;rw[hf];rfl
 have e2:C.bytesC n=aj.need { C with l:=[],sh:=true } false 2:=by unfold aj.bytesC;rw[hf];rfl
 exact⟨none,0,0,rfl,fun _ _ _=>by rw[e1];exact aL.nil ..,by rw[e2];exact R,(u1 t S im)⟩
 have K:=of_decide_eq_false f
 refine Rt 9 a<|Rt 10 a<|Rt 11 a<|Rt 12 a<|Rl 13 a (fun _ hs=>hs.2.1)<|Rt 14 a<|Rt 15 a<|Rt 16 a<|Rt 17 a<|Rl 18 a (fun _ hs=>hs.2.2)<|Rr 19 a (.int .i64 (((full.length:Nat) : Int)-((k:Nat) : Int))) (fun _ _=>cy (.int .i64 (IntKind.i64.wrap (((full.length:Nat) : Int)-((k:Nat) : Int)))) (by kernel_rfl) (congrArg (Value.int .i64) (IntWalk.i64_in _ (by omega))))<|Rt 20 a<|Rt 21 a<|re<|?_
 refine tn<|cb ((decide ((((full.length:Nat) : Int)-((k:Nat) : Int))<n))) (fun o=>?_) (fun o=>?_)
 have T:=of_decide_eq_true o
 refine sg<|Pl 3<|L0<|bX d 2 #[.slice A full.length cp,.int .i64 ((k:Nat) : Int),.bool true,.int .i64 C.e] fun a9 u U=>ng<|Pl 4<|L0<|aN u 0<|Pl 3<|L0<|bX u 1 #[.slice A full.length cp,.int .i64 ((full.length:Nat) : Int),.bool true,.int .i64 C.e] fun V W X=>nt<|?_
 refine sg<|Pl 1<|?_
 have v:=u1 (u1 (aC.mono (S':=[g]) i ax) U im) X im
 have Y:RC w0 m A cp full V g { C with l:=[],sh:=true }:=⟨hsrc,hU.trans' v (fun x hx=>.inr (by simp at hx;subst hx;exact hnew)),hnew,⟨full.length,W,Nat.le_refl _,List.drop_length.symm⟩,hlen⟩
 refine L0<|Oc<|m2 (aY false 2 Y) fun aa Z a0=>ng<|Pl 1<|nt<|rt<|tr<|rr (.slice none 0 0)<|?_
 have hf:C.fails n=true:=by rw[jm (n:=n) hk hl,j,f,o];rfl
 have e1:C.bytesR n=[]:=by unfold aj.bytesR;rw[hf];rfl
 have e2:C.bytesC n=aj.need { C with l:=[],sh:=true } false 2:=by unfold aj.bytesC;rw[hf];rfl
 exact⟨none,0,0,rfl,fun _ _ _=>by rw[e1];exact aL.nil ..,by rw[e2];exact Z,(u1 v a0 im)⟩
 have T:=of_decide_eq_false o
 refine bi<|sg<|Pl 4<|L0<|aN d 1<|Pl 1<|L0<|Oi (((k:Nat) : Int)+n)<|Pl 2<|L0<|bX d 1 #[.slice A full.length cp,.int .i64 (((k:Nat) : Int)+n),.bool C.sh,.int .i64 C.e] fun ab a1 a2=>nt<|sq<|Rg 16 (fun w'=>w'.cell? ⟨g,0,none⟩=some (.slice A full.length cp)∧w'.cell? ⟨g,1,none⟩=some (.int .i64 (((k:Nat) : Int)+n))) fun ac y=>?_
 have p:=ub y a1
 refine bg ⟨(ae p rfl),(ae p rfl)⟩ fun b=>Rt 0 b<|Rt 1 b<|Rt 2 b<|Rl 3 b (fun _ hs=>hs.1)<|Rt 4 b<|Rt 5 b<|Rt 6 b<|Rl 7 b (fun _ hs=>hs.2)<|Rt 8 b<|Rr 9 b (.int .i64 ((((k:Nat) : Int)+n)-n)) (fun _ _=>cy (.int .i64 (IntKind.i64.wrap ((((k:Nat) : Int)+n)-n))) (by kernel_rfl) (congrArg (Value.int .i64) (IntWalk.i64_in _ (by omega))))<|Rt 10 b<|Rt 11 b<|Rt 12 b<|?_
 refine Rl 13 b (fun _ hs=>hs.2)<|nF (iz (P:=Tryz.prog) 22 5 1 Tryz.underlying22 rfl rfl A full.length cp (lo:=((((k:Nat) : Int)+n)-n)) (up:=(((k:Nat) : Int)+n)) ((((((k:Nat) : Int)+n)-n)).toNat) (((((k:Nat) : Int)+n)).toNat) (by omega) (by omega) (by omega) (by omega) (by omega)) fun z hrun69 a3=>Rr 14 b (.slice z ((((((k:Nat) : Int)+n)).toNat)-((((((k:Nat) : Int)+n)-n)).toNat)) (cp-((((((k:Nat) : Int)+n)-n)).toNat))) (fun _ _=>ft (kl:=.i64) (kh:=.i64) (lo:=((((k:Nat) : Int)+n)-n)) (hi:=(((k:Nat) : Int)+n)) (A:=A) (n:=full.length) (c:=cp) rfl Tryz.underlying22 (by kernel_rfl) (by kernel_rfl) (by kernel_rfl) (hrun69 _ _ _))<|Rt 15 b<|re<|tn<|rt<|rr (.slice z ((((((k:Nat) : Int)+n)).toNat)-((((((k:Nat) : Int)+n)-n)).toNat)) (cp-((((((k:Nat) : Int)+n)-n)).toNat)))<|?_
 have hf:C.fails n=false:=by rw[jm (n:=n) hk hl,j,f,o];rfl
 have B:=aD (u1 (aC.mono (S':=[g]) i ax) a2 im) y
 have e2:C.bytesC n = { C with l:=C.l.drop n.toNat }:=by unfold aj.bytesC;rw[hf];rfl
 exact⟨_,_,_,rfl,fun m' w'' h=>by have:=a3 m' _ _ w'' full h;rw[pX hk hl hf _ _ (by omega) (by omega)] at this;exact this,by rw[e2];exact⟨hsrc,hU.trans' B (fun x hx=>.inr (by simp at hx;subst hx;exact hnew)),hnew,⟨(((k:Nat) : Int)+n).toNat,(by unfold A8;rw[show((((((k:Nat) : Int)+n).toNat:Nat) : Int))=((k:Nat) : Int)+n by omega];exact p),by omega,wq hl (by omega)⟩,hlen⟩,B⟩
def wu (w0:World)(m:Md)(A:Option Addr)(cp:Nat)(full:List Int)(g:Nat)(C:aj)(n:Int)(w:World)(e:Ending)(w':World) : Prop:=∃ A2 c2,e = .returned (.slice A2 (C.bytesR n).length c2)∧(∀ m' w'',b9 m' w'' (.slice A full.length cp) full→b9 m' w'' (.slice A2 (C.bytesR n).length c2) (C.bytesR n))∧RC w0 m A cp full w' g (C.bytesC n)∧aC [g] w w'
theorem fz{w0:World}{m:Md}{A:Option Addr}{cp:Nat}{full:List Int}{w:World}{g:Nat}{C:aj}{n:Int}(hn : -1048576≤n∧n≤2097152)(hC:RC w0 m A cp full w g C) : Calls Tryz.prog 153 #[.pointer (some ⟨g,0,none⟩),.int .i64 n] w (wu w0 m A cp full g C n w):=by
  refine(pN hn hC).mono ?_
  rintro e w' ⟨A2,n2,c2,rfl,h1,h2,h3⟩
  obtain⟨_,_,hv,_⟩:=aL.shape (h1 m w0 hC.src)
  injection hv with _ e2 _
  subst e2
  exact⟨A2,c2,rfl,h1,h2,h3⟩
theorem vP{full:List Int}{k:Nat}{C:aj}(hk:k≤full.length)(hl:C.l=full.drop k) : ((full.length:Nat) : Int)-((k:Nat) : Int)=((C.l.length:Nat) : Int):=by
  rw[hl,List.length_drop]
  omega
theorem iF{w0:World}{m:Md}{A:Option Addr}{cp:Nat}{full:List Int}{w:World}{g:Nat}{C:aj}(hC:RC w0 m A cp full w g C) :
    Calls Tryz.prog 161 #[.pointer (some ⟨g,0,none⟩)] w (cY (.int .i64 ((C.l.length:Nat) : Int)) w):=by
 obtain⟨hsrc,hU,hnew,⟨k,hB,hk,hl⟩,hlen⟩:=hC
 have hcp:full.length≤1048576:=hlen
 refine en 13 Tryz.func161 rfl<|sg<|Pl 1<|nt<|sq<|Rg 11 (fun w'=>w'.cell? ⟨g,0,none⟩=some (.slice A full.length cp)∧w'.cell? ⟨g,1,none⟩=some (.int .i64 ((k:Nat) : Int))) fun d b=>?_
 have c:=ub b hB
 refine bg ⟨(ae c rfl),(ae c rfl)⟩ fun a=>Rt 0 a<|Rt 1 a<|Rt 2 a<|Rl 3 a (fun _ hs=>hs.1)<|Rt 4 a<|Rt 5 a<|Rt 6 a<|Rt 7 a<|Rl 8 a (fun _ hs=>hs.2)<|Rr 9 a (.int .i64 (((full.length:Nat) : Int)-((k:Nat) : Int))) (fun _ _=>cy (.int .i64 (IntKind.i64.wrap (((full.length:Nat) : Int)-((k:Nat) : Int)))) (by kernel_rfl) (congrArg (Value.int .i64) (IntWalk.i64_in _ (by omega))))<|Rt 10 a<|re<|tn<|?_
 refine rt<|rr (.int .i64 (((full.length:Nat) : Int)-((k:Nat) : Int)))<|?_
 rw[vP hk hl]
 exact⟨rfl,b⟩
theorem et{w0:World}{m:Md}{A:Option Addr}{cp:Nat}{full:List Int}{w:World}{g:Nat}{C:aj}(hC:RC w0 m A cp full w g C) :
    Calls Tryz.prog 157 #[.pointer (some ⟨g,0,none⟩)] w (wL w0 m A cp full g C.endC w):=by
 refine en 7 Tryz.func157 rfl<|go<|Pl 2<|L0<|Oc<|m1 (iF hC) fun e a=>?_
 have b:=RC.upd hC a aA (aC.step (RC.u hC) a)
 refine Pl 1<|L0<|Oc<|m2 (aY ((((C.l.length:Nat) : Int)==0)) 3 b) fun f c d=>nl<|rm (.tuple #[])<|?_
 exact⟨rfl,c,(u1 (aC.mono (S':=[g]) a ax) d im)⟩
theorem RC.clen{w0:World}{m:Md}{A:Option Addr}{cp:Nat}{full:List Int}{w:World}{g:Nat}{C:aj}(h:RC w0 m A cp full w g C) : C.l.length≤1048576:=by
  obtain⟨k,_,_,h2⟩:=h.cell
  have:=h.len
  rw[h2,List.length_drop]
  omega
theorem rY{C:aj}(h:((((C.bytesR 1).length:Nat) : Int)==0)=true) : C.byteV=0:=by
  have hz:C.bytesR 1=[]:=List.eq_nil_of_length_eq_zero (by have:=ah h;omega)
  unfold aj.byteV
  rw[hz]
  rfl
def qu (w0:World)(m:Md)(A:Option Addr)(cp:Nat)(full:List Int)(g:Nat)(q:IntKind)(M x:Int)(C:aj)(w:World)(e:Ending)(w':World) : Prop:=e = .returned (.int q x)∧RC w0 m A cp full w' g C∧aC [g] w w'∧0≤x∧x<M
theorem dX{w0:World}{m:Md}{A:Option Addr}{cp:Nat}{full:List Int}{w:World}{g:Nat}{C:aj}(hC:RC w0 m A cp full w g C) :
    Calls Tryz.prog 151 #[.pointer (some ⟨g,0,none⟩)] w (qu w0 m A cp full g .u8 256 C.byteV (C.bytesC 1) w):=by
 refine en 12 Tryz.func151 rfl<|sg<|Pl 1<|ng<|Pl 1<|L0<|Oc<|pg (fz (n:=1) (by omega) hC) fun k l o d b c=>?_
 have q:=Nat.le_trans (aj.bytesR_le C 1) (RC.clen hC)
 refine Pl 1<|nt<|sq<|sg<|Pl 3<|nt<|cb (((((C.bytesR 1).length:Nat) : Int)==0)) (fun a=>?_) (fun a=>?_)
 have e:=ah a
 refine sg<|Pl 1<|nt<|rt<|tr<|rr (.int .u8 0)<|?_
 exact⟨by rw[rY a],b,c,mU (RC.rng hC)⟩
 have e:=ak a
 refine bi<|sg<|Pl 1<|gj (b9.at_ (d _ _ (RC.rd b)) 0 (by omega)) fun f h i j r=>L0<|m0 ((C.bytesR 1).length) 0 i (by omega)<|L0<|eq (p:=⟨f,h+0,none⟩) (v:=.int .u8 ((C.bytesR 1).getD 0 0)) j<|Pl 1<|nt<|rt<|rr (.int .u8 ((C.bytesR 1).getD 0 0))<|?_
 exact⟨rfl,b,c,mU (RC.rng hC)⟩
theorem rU{C:aj}{full:List Int}{k:Nat}{n:Int}(hk:k≤full.length)(hl:C.l=full.drop k)(h:(decide (n<0)||decide (((full.length:Nat) : Int)<n))=true) : C.wordsR n=cI (C.bytesR (-1))∧C.wordsC n=C.bytesC (-1):=by
  have hb:C.wbad n=true:=by
    unfold aj.wbad
    simp only[Bool.or_eq_true,decide_eq_true_eq] at h ⊢
    rw[hl,List.length_drop]
    omega
  have hf:C.fails (-1)=true:=by
    unfold aj.fails
    simp
  constructor
  · unfold aj.wordsR aj.bytesR
    rw[hb,hf]
    rfl
  · unfold aj.wordsC
    rw[hb]
    rfl
theorem tY{C:aj}{full:List Int}{k:Nat}{n:Int}(hk:k≤full.length)(hl:C.l=full.drop k)(h:(decide (n<0)||decide (((full.length:Nat) : Int)<n))=false) : C.wordsR n=cI (C.bytesR (n+n))∧C.wordsC n=C.bytesC (n+n):=by
  simp only[Bool.or_eq_false_iff,decide_eq_false_iff_not] at h
  by_cases hw:((C.l.length:Int)<n)
  · have hb:C.wbad n=true:=by
      unfold aj.wbad
      simp only[Bool.or_eq_true,decide_eq_true_eq]
      omega
    have hf:C.fails (-1)=true:=by
      unfold aj.fails
      simp
    have hf2:C.fails (n+n)=true:=by
      unfold aj.fails
      simp only[Bool.or_eq_true,decide_eq_true_eq]
      omega
    constructor
    · unfold aj.wordsR aj.bytesR
      rw[hb,hf2]
      rfl
    · unfold aj.wordsC
      rw[hb]
      unfold aj.bytesC
      rw[hf2,hf]
      rfl
  · have hb:C.wbad n=false:=by
      unfold aj.wbad
      simp only[Bool.or_eq_false_iff,decide_eq_false_iff_not]
      omega
    constructor
    · unfold aj.wordsR
      rw[hb,show 2*n=n+n by omega]
      rfl
    · unfold aj.wordsC
      rw[hb,show 2*n=n+n by omega]
      rfl
def vt (w0:World)(m:Md)(A:Option Addr)(cp:Nat)(full:List Int)(g:Nat)(C:aj)(n:Int)(w:World)(e:Ending)(w':World) : Prop:=∃ v,e = .returned v∧ky w.heap.size w' v (C.wordsR n)∧RC w0 m A cp full w' g (C.wordsC n)∧aC [g] w w'
theorem ge{w0:World}{m:Md}{A:Option Addr}{cp:Nat}{full:List Int}{w:World}{g:Nat}{C:aj}{n:Int}(hn : -1048576≤n∧n≤1048576)(hC:RC w0 m A cp full w g C) :
    Calls Tryz.prog 158 #[.pointer (some ⟨g,0,none⟩),.int .i64 n] w (vt w0 m A cp full g C n w):=by
 have hC0:=hC
 obtain⟨hsrc,hU,hnew,⟨k,hB,hk,hl⟩,hlen⟩:=hC0
 refine en 25 Tryz.func158 rfl<|sg<|Pl 1<|nt<|sq<|sg<|Pl 3<|cu 8 [7] 15 (((decide (n<0))||(decide (((full.length:Nat) : Int)<n)))) (fun K h=>?_) ?_
 refine bl 7 ((decide (n<0))) (fun a=>?_) (fun a=>?_)
 have l:=of_decide_eq_true a
 exact Pl 8<|ce h true (by rw[a];rfl)
 have l:=of_decide_eq_false a
 exact Pl 4<|L1<|aN hB 0<|Pl 3<|ce h (decide (((full.length:Nat) : Int)<n)) (by rw[a];rfl)
 refine nt<|cb (((decide (n<0))||(decide (((full.length:Nat) : Int)<n)))) (fun b=>?_) (fun b=>?_)
 refine sg<|Pl 1<|?_
 have o:=RC.upd hC (aC.refl [] _) aA (aC.step hC.u (aC.refl [] _))
 refine L0<|Oc<|pg (fz (n:=-1) (by omega) o) fun E F G p c i=>?_
 have H:=Nat.le_trans (aj.bytesR_le C (-1)) (RC.clen hC)
 refine L0<|Oc<|du (wV (p _ _ (RC.rd c)) (by omega)) fun q r I s J L d=>Pl 1<|nt<|rt<|tr<|rr (.slice q ((cI (C.bytesR (-1))).length) r)<|?_
 have hw:=rU hk hl b
 exact⟨_,rfl,by rw[hw.1];exact(aS.weaken s i.size),by rw[hw.2];exact(RC.upd c d aA (aC.step (RC.u c) d)),(aD i d)⟩
 have t:=(aF b).1
 have v:=(aF b).2
 have M:=of_decide_eq_false t
 have N:=of_decide_eq_false v
 refine bi<|sg<|Pl 3<|L0<|Oi (n+n)<|?_
 have x:=RC.upd hC (aC.refl [] _) aA (aC.step hC.u (aC.refl [] _))
 refine L0<|Oc<|pg (fz (n:=(n+n)) (by omega) x) fun O P Q y e j=>?_
 have R:=Nat.le_trans (aj.bytesR_le C (n+n)) (RC.clen hC)
 refine L0<|Oc<|du (wV (y _ _ (RC.rd e)) (by omega)) fun z B S D T U f=>Pl 1<|nt<|rt<|rr (.slice z ((cI (C.bytesR (n+n))).length) B)<|?_
 have hw:=tY hk hl b
 exact⟨_,rfl,by rw[hw.1];exact(aS.weaken D j.size),by rw[hw.2];exact(RC.upd e f aA (aC.step (RC.u e) f)),(aD j f)⟩
theorem sK{C:aj}(h:((((C.wordsR 1).length:Nat) : Int)==0)=true) : C.wordV=0:=by
  have hz:C.wordsR 1=[]:=List.eq_nil_of_length_eq_zero (by have:=ah h;omega)
  unfold aj.wordV
  rw[hz]
  rfl
theorem cN{w0:World}{m:Md}{A:Option Addr}{cp:Nat}{full:List Int}{w:World}{g:Nat}{C:aj}(hC:RC w0 m A cp full w g C) :
    Calls Tryz.prog 154 #[.pointer (some ⟨g,0,none⟩)] w (qu w0 m A cp full g .u16 65536 C.wordV (C.wordsC 1) w):=by
 refine en 12 Tryz.func154 rfl<|sg<|Pl 1<|ng<|Pl 1<|L0<|Oc<|nf (ge (n:=1) (by omega) hC) fun k l o d q r b c=>Pl 1<|nt<|sq<|?_
 refine sg<|Pl 3<|nt<|cb (((((C.wordsR 1).length:Nat) : Int)==0)) (fun a=>?_) (fun a=>?_)
 have e:=ah a
 refine sg<|Pl 1<|nt<|rt<|tr<|rr (.int .u16 0)<|?_
 exact⟨by rw[sK a],b,c,bO (RC.rng hC)⟩
 have e:=ak a
 refine bi<|sg<|Pl 1<|gj (dP.at_ (d).rd 0 (by omega)) fun f h i j s=>L0<|m0 ((C.wordsR 1).length) 0 i (by omega)<|L0<|eq (p:=⟨f,h+0,none⟩) (v:=.int .u16 ((C.wordsR 1).getD 0 0)) j<|Pl 1<|nt<|rt<|rr (.int .u16 ((C.wordsR 1).getD 0 0))<|?_
 exact⟨rfl,b,c,bO (RC.rng hC)⟩
theorem fP{w0:World}{m:Md}{A:Option Addr}{cp:Nat}{full:List Int}{w:World}{g:Nat}{C:aj}{G:Prop}(h:RC w0 m A cp full w g C)(k:∀ x,C=x→RC w0 m A cp full w g x→G) : G:=k C rfl h
open Go.RowKit
theorem rj{x:Int}(hx:0≤x∧x<65536) : er x=((decide (x≤4)||(decide (10≤x)&&decide (x≤18)))||x==20):=by
  unfold er
  rw[Bool.eq_iff_iff]
  simp only[decide_eq_true_eq,List.mem_cons,List.not_mem_nil,or_false,Bool.or_eq_true,Bool.and_eq_true,beq_iff_eq]
  omega
theorem mc{x:Int}(hx:0≤x∧x<256) : cD x=((((decide (1≤x)&&decide (x≤6))||x==8)||x==10)||x==11):=by
  unfold cD
  rw[Bool.eq_iff_iff]
  simp only[decide_eq_true_eq,List.mem_cons,List.not_mem_nil,or_false,Bool.or_eq_true,Bool.and_eq_true,beq_iff_eq]
  omega
theorem yR{x:Int}{w:World}(hx:0≤x∧x<65536) : Calls Tryz.prog 160 #[.int .u16 x] w (cY (.bool (er x)) w):=by
 refine en 17 Tryz.func160 rfl<|sg<|Pl 1<|ng<|Pl 3<|cu 7 [5] 12 (((decide (x≤4))||((decide (10≤x))&&(decide (x≤18))))) (fun K d=>?_) ?_
 refine bl 5 ((decide (x≤4))) (fun a=>?_) (fun a=>?_)
 have g:=of_decide_eq_true a
 exact Pl 7<|ce d true (by rw[a];rfl)
 have g:=of_decide_eq_false a
 refine Pl 3<|cu 3 [8] 11 (((decide (10≤x))&&(decide (x≤18)))) (fun K e=>?_) ?_
 refine bl 8 ((decide (10≤x))) (fun b=>?_) (fun b=>?_)
 have h:=of_decide_eq_true b
 exact Pl 3<|ce e (decide (x≤18)) (by rw[b];rfl)
 have h:=of_decide_eq_false b
 exact Pl 3<|ce e false (by rw[b];rfl)
 exact Pl 1<|ce d ((decide (10≤x))&&(decide (x≤18))) (by rw[a];rfl)
 refine Pl 1<|cu 3 [13] 16 ((((decide (x≤4))||((decide (10≤x))&&(decide (x≤18))))||(x==20))) (fun K f=>?_) ?_
 refine bl 13 (((decide (x≤4))||((decide (10≤x))&&(decide (x≤18))))) (fun c=>?_) (fun c=>?_)
 exact Pl 3<|ce f true (by rw[c];rfl)
 have i:=(aF c).1
 have j:=(aF c).2
 have k:=of_decide_eq_false i
 exact Pl 3<|ce f (x==20) (by rw[c];rfl)
 refine Pl 1<|nt<|rt<|rr (.bool (((decide (x≤4))||((decide (10≤x))&&(decide (x≤18))))||(x==20)))<|?_
 rw[rj hx]
 have hs:((decide (x≤4)||(decide (10≤x)&&decide (x≤18)))||x==20)=(((decide (x≤4))||((decide (10≤x))&&(decide (x≤18))))||(x==20)):=by(try simp only[Bool.true_or,Bool.false_or,Bool.true_and,Bool.false_and,Bool.or_true,Bool.or_false]);all_goals rfl
 rw[hs]
 exact⟨rfl,(aC.refl [] _)⟩
theorem uP{x:Int}{w:World}(hx:0≤x∧x<256) : Calls Tryz.prog 149 #[.int .u8 x] w (cY (.bool (cD x)) w):=by
 refine en 21 Tryz.func149 rfl<|sg<|Pl 1<|ng<|Pl 3<|cu 3 [5] 8 (((decide (1≤x))&&(decide (x≤6)))) (fun K e=>?_) ?_
 refine bl 5 ((decide (1≤x))) (fun a=>?_) (fun a=>?_)
 have j:=of_decide_eq_true a
 exact Pl 3<|ce e (decide (x≤6)) (by rw[a];rfl)
 have j:=of_decide_eq_false a
 exact Pl 3<|ce e false (by rw[a];rfl)
 refine Pl 1<|cu 3 [9] 12 ((((decide (1≤x))&&(decide (x≤6)))||(x==8))) (fun K f=>?_) ?_
 refine bl 9 (((decide (1≤x))&&(decide (x≤6)))) (fun b=>?_) (fun b=>?_)
 have k:=(aU b).1
 have l:=(aU b).2
 have p:=of_decide_eq_true k
 have q:=of_decide_eq_true l
 exact Pl 3<|ce f true (by rw[b];rfl)
 exact Pl 3<|ce f (x==8) (by rw[b];rfl)
 refine Pl 1<|cu 3 [13] 16 (((((decide (1≤x))&&(decide (x≤6)))||(x==8))||(x==10))) (fun K g=>?_) ?_
 refine bl 13 ((((decide (1≤x))&&(decide (x≤6)))||(x==8))) (fun c=>?_) (fun c=>?_)
 exact Pl 3<|ce g true (by rw[c];rfl)
 have r:=(aF c).1
 have m:=(aF c).2
 have s:=ak m
 exact Pl 3<|ce g (x==10) (by rw[c];rfl)
 refine Pl 1<|cu 3 [17] 20 ((((((decide (1≤x))&&(decide (x≤6)))||(x==8))||(x==10))||(x==11))) (fun K h=>?_) ?_
 refine bl 17 (((((decide (1≤x))&&(decide (x≤6)))||(x==8))||(x==10))) (fun d=>?_) (fun d=>?_)
 exact Pl 3<|ce h true (by rw[d];rfl)
 have i:=(aF d).1
 have n:=(aF d).2
 have t:=(aF i).1
 have o:=(aF i).2
 have q16abp:=ak o
 have u:=ak n
 exact Pl 3<|ce h (x==11) (by rw[d];rfl)
 refine Pl 1<|nt<|rt<|rr (.bool (((((decide (1≤x))&&(decide (x≤6)))||(x==8))||(x==10))||(x==11)))<|?_
 rw[mc hx]
 have hs:((((decide (1≤x)&&decide (x≤6))||x==8)||x==10)||x==11)=(((((decide (1≤x))&&(decide (x≤6)))||(x==8))||(x==10))||(x==11)):=by(try simp only[Bool.true_or,Bool.false_or,Bool.true_and,Bool.false_and,Bool.or_true,Bool.or_false]);all_goals rfl
 rw[hs]
 exact⟨rfl,(aC.refl [] _)⟩
theorem iq{dir sub v:Int}:fh dir sub v=if sub==1 then (v==0 || v==65280) else if sub==3 then v%256==0 else if dir==1&&(sub==2 || (decide (11≤sub)&&decide (sub≤18))) then true else v==0:=by
  unfold fh
  by_cases h1:sub=1
  · subst h1
    rfl
  by_cases h3:sub=3
  · subst h3
    rfl
  have e1:(sub==1)=false:=by simpa using h1
  have e3:(sub==3)=false:=by simpa using h3
  rw[e1,e3,Bool.and_comm]
  rfl
theorem yE{dir sub v:Int}{w:World}(hv:0≤v∧v<65536) : Calls Tryz.prog 162 #[.int .i64 dir,.int .u16 sub,.int .u16 v] w (cY (.bool (fh dir sub v)) w):=by
 refine en 39 Tryz.func162 rfl<|sg<|Pl 1<|nt<|sq<|bk<|sg<|Pl 3<|nt<|cb ((sub==1)) (fun a=>?_) (fun a=>?_)
 have m:=ah a
 refine sg<|Pl 3<|cu 3 [12] 15 (((v==0)||(v==65280))) (fun K h=>?_) ?_
 refine bl 12 ((v==0)) (fun c=>?_) (fun c=>?_)
 have n:=ah c
 exact Pl 3<|ce h true (by rw[c];rfl)
 have n:=ak c
 exact Pl 3<|ce h (v==65280) (by rw[c];rfl)
 refine Pl 1<|nt<|rt<|br<|tr<|rr (.bool ((v==0)||(v==65280)))<|?_
 have hs:fh dir sub v=((v==0)||(v==65280)):=by
   rw[iq]
   (try simp only[a,bs,if_true,if_false,decide_true,decide_false,reduceIte])
   all_goals rfl
 rw[hs]
 exact⟨rfl,(aC.refl [] _)⟩
 have m:=ak a
 refine sg<|Pl 3<|nt<|cb ((sub==3)) (fun b=>?_) (fun b=>?_)
 have o:=ah b
 refine sg<|Pl 1<|L0<|Oe (.int .u16 (Int.tmod v 256)) (.int .u16 (v%256)) (congrArg (Value.int .u16) (Int.tmod_eq_emod_of_nonneg (by omega)))<|Pl 2<|nt<|rt<|br<|tr<|rr (.bool ((v%256)==0))<|?_
 have hs:fh dir sub v=((v%256)==0):=by
   rw[iq]
   (try simp only[a,b,bs,if_true,if_false,decide_true,decide_false,reduceIte])
   all_goals rfl
 rw[hs]
 exact⟨rfl,(aC.refl [] _)⟩
 have o:=ak b
 refine sg<|Pl 3<|cu 11 [25] 36 (((dir==1)&&((sub==2)||((decide (11≤sub))&&(decide (sub≤18)))))) (fun K i=>?_) ?_
 refine bl 25 ((dir==1)) (fun d=>?_) (fun d=>?_)
 have p:=ah d
 refine Pl 3<|cu 7 [28] 35 (((sub==2)||((decide (11≤sub))&&(decide (sub≤18))))) (fun K j=>?_) ?_
 refine bl 28 ((sub==2)) (fun e=>?_) (fun e=>?_)
 have q:=ah e
 exact Pl 7<|ce j true (by rw[e];rfl)
 have q:=ak e
 refine Pl 3<|cu 3 [31] 34 (((decide (11≤sub))&&(decide (sub≤18)))) (fun K k=>?_) ?_
 refine bl 31 ((decide (11≤sub))) (fun f=>?_) (fun f=>?_)
 have r:=of_decide_eq_true f
 exact Pl 3<|ce k (decide (sub≤18)) (by rw[f];rfl)
 have r:=of_decide_eq_false f
 exact Pl 3<|ce k false (by rw[f];rfl)
 exact Pl 1<|ce j ((decide (11≤sub))&&(decide (sub≤18))) (by rw[e];rfl)
 exact Pl 1<|ce i ((sub==2)||((decide (11≤sub))&&(decide (sub≤18)))) (by rw[d];rfl)
 have p:=ak d
 exact Pl 11<|ce i false (by rw[d];rfl)
 refine Pl 1<|nt<|cb (((dir==1)&&((sub==2)||((decide (11≤sub))&&(decide (sub≤18)))))) (fun g=>?_) (fun g=>?_)
 have l:=(aU g).1
 have s:=(aU g).2
 have t:=ah l
 refine sg<|Pl 1<|nt<|rt<|br<|tr<|rr (.bool true)<|?_
 have hs:fh dir sub v=true:=by
   rw[iq]
   (try simp only[a,b,g,l,s,bs,if_true,if_false,decide_true,decide_false,reduceIte])
   all_goals rfl
 rw[hs]
 exact⟨rfl,(aC.refl [] _)⟩
 refine sk<|bn<|tn<|sg<|Pl 3<|nt<|rt<|rr (.bool (v==0))<|?_
 have hs:fh dir sub v=(v==0):=by
   rw[iq]
   (try simp only[a,b,g,bs,if_true,if_false,decide_true,decide_false,reduceIte])
   all_goals rfl
 rw[hs]
 exact⟨rfl,(aC.refl [] _)⟩
open Go.RowKit
theorem RC.lt{w0:World}{m:Md}{A:Option Addr}{cp:Nat}{full:List Int}{w:World}{g:Nat}{C:aj}(h:RC w0 m A cp full w g C) : g<w.heap.size:=by
  obtain⟨k,h1,_⟩:=h.cell
  exact am h1
theorem RC.fld{w0:World}{m:Md}{A:Option Addr}{cp:Nat}{full:List Int}{w:World}{g:Nat}{C:aj}(h:RC w0 m A cp full w g C) : w.cell? ⟨g,3,none⟩=some (.int .i64 C.e):=by
  obtain⟨k,h1,_⟩:=h.cell
  rw[bv h1]
  rfl
theorem uF{c:Int}{C:aj}(h:(((c==3)||(c==4))||(c==23))=true) : aM 1 c C=some (ck c C):=by
  unfold aM
  by_cases h1:(c==3 || c==4)=true
  · rw[if_pos h1]
    rfl
  · rw[if_neg h1]
    have h2:c=23:=by
      simp only[Bool.or_eq_true,beq_iff_eq] at h h1
      omega
    subst h2
    rfl
theorem qF{n m:Int}:((n%2==0&&decide (0<n))&&decide (n≤m))=i9 n m:=by
  unfold i9
  rw[Bool.eq_iff_iff]
  simp only[Bool.and_eq_true,decide_eq_true_eq,beq_iff_eq]
  omega
theorem qZ{a k:Int}:(a==2*k+2)=(2+2*k==a):=by
  rw[Bool.eq_iff_iff]
  simp only[beq_iff_eq]
  omega
theorem eQ{x:Int}:decide (0<x)=decide (1≤x):=by
  rw[Bool.eq_iff_iff]
  simp only[decide_eq_true_eq]
  omega
theorem kM{w0:World}{m:Md}{A:Option Addr}{cp:Nat}{full:List Int}{w:World}{g:Nat}{C:aj}{a most:Int}(ha:0≤a∧a<65536)(hC:RC w0 m A cp full w g C) :
    Calls Tryz.prog 159 #[.pointer (some ⟨g,0,none⟩),.int .u16 a,.int .i64 most] w (qu w0 m A cp full g .i64 65536 C.wordV (bG C a most) w):=by
 have hrng:=bO (RC.rng hC)
 refine en 26 Tryz.func159 rfl<|sg<|Pl 1<|ng<|Pl 1<|L0<|Oc<|m3 (cN hC) fun r f h s=>L0<|Oi C.wordV<|Pl 1<|nt<|?_
 refine sg<|Pl 4<|cu 4 [14] 18 (((decide (0<C.wordV))&&(decide (C.wordV≤most)))) (fun K d=>?_) ?_
 refine bl 14 ((decide (0<C.wordV))) (fun b=>?_) (fun b=>?_)
 have i:=of_decide_eq_true b
 exact Pl 4<|ce d (decide (C.wordV≤most)) (by rw[b];rfl)
 have i:=of_decide_eq_false b
 exact Pl 4<|ce d false (by rw[b];rfl)
 refine L0<|Oc<|m2 (aY (((decide (0<C.wordV))&&(decide (C.wordV≤most)))) 5 f) fun j k l=>?_
 refine fP k fun x19 o e=>?_
 refine ng<|Pl 3<|L0<|Oc<|m1 (qY (a:=a) (n:=C.wordV) (w:=j) (by omega) (by omega)) fun t c=>?_
 refine L0<|Oc<|m2 (aY ((dv a C.wordV)) 7 (RC.upd e c aA (aC.step (RC.u e) c))) fun v p q=>ng<|Pl 2<|nt<|rt<|rr (.int .i64 C.wordV)<|?_
 subst o
 have e1:bG C a most=((C.wordsC 1).need (decide (0<C.wordV)&&decide (C.wordV≤most)) 5).need (dv a C.wordV) 7:=by unfold bG;rw[← eQ]
 rw[e1]
 exact⟨rfl,p,(u1 h (u1 l (uz c q) im) im),hrng⟩
theorem aL.upd0{α:Type}{m:Md}{e:TypeId}{sz:Nat}{R R':World→α→List Value→Prop}{w:World}{v:Value}{xs:List α}(h:aL m e sz R w v xs)(hR:∀ x cs,R w x cs→R' w x cs) : aL m e sz R' w v xs:=by
  obtain⟨A,c,rfl,h1,h2,h0,h3⟩:=h
  refine⟨A,c,rfl,h1,h2,h0,fun hp=>?_⟩
  obtain⟨b,off,cells,t,fr,rfl,hb,ht,hx⟩:=h3 hp
  exact⟨b,off,cells,t,fr,rfl,hb,ht,fun j x hj=>by obtain⟨cs,hl,hr,hc⟩:=hx j x hj;exact⟨cs,hl,hR _ _ hr,hc⟩⟩
def p5 (v0:Value)(b:List Int)(w:World)(o:Obj)(cs:List Value) : Prop:=∃ A n c,cs=[.int .u8 o.id,.slice A n c]∧(∀ m' w',b9 m' w' v0 b→b9 m' w' (.slice A n c) o.value)∧B8 o.id
theorem p5.ones{v0:Value}{b:List Int}{w:World}(x:Obj)(cs:List Value)(h:p5 v0 b w x cs) : ∀ v,v∈cs→v.oneCell'=true:=by
  obtain⟨A,n,c,rfl,h2,_⟩:=h
  intro u hu
  simp at hu
  rcases hu with rfl|rfl<;>rfl
def cF (v0:Value)(b:List Int)(w:World)(cs:List Value)(M:aO) : Prop :=
  ∃ vw vb vd vr vo,cs=bt M vw vb vd vr vo∧dP true w vw M.words∧i4 true w vb M.bits∧(∀ m' w',b9 m' w' v0 b→b9 m' w' vd M.data)∧lJ true w vr M.recs∧aL true 111 2 (p5 v0 b) w vo M.objects∧eR M
theorem cF.rd{v0:Value}{b:List Int}{m:Md}{w:World}{cs:List Value}{M:aO}(h:cF v0 b w cs M)(hb:b9 m w v0 b) : aH false w cs M:=by
  obtain⟨vw,vb,vd,vr,vo,h0,h1,h2,h3,h4,h5,h6⟩:=h
  exact⟨vw,vb,vd,vr,vo,h0,aL.any h1 fun _ _ q=>q,aL.any h2 fun _ _ q=>q,aL.any (h3 _ _ hb) fun _ _ q=>q,aL.any h4 fun r cs ⟨v,a,b,c⟩=>⟨v,a,aL.any b fun _ _ q=>q,c⟩,aL.any h5 fun r cs ⟨A,n,k,a,b,c⟩=>⟨_,a,aL.any (b _ _ hb) fun _ _ q=>q,c⟩,h6⟩
theorem cF.rdt{v0:Value}{b:List Int}{w:World}{cs:List Value}{M:aO}(h:cF v0 b w cs M)(hb:b9 true w v0 b) : aH true w cs M:=by
  obtain⟨vw,vb,vd,vr,vo,h0,h1,h2,h3,h4,h5,h6⟩:=h
  exact⟨vw,vb,vd,vr,vo,h0,h1,h2,h3 _ _ hb,h4,aL.upd0 h5 fun r cs ⟨A,n,k,a,b,c⟩=>⟨_,a,b _ _ hb,c⟩,h6⟩
theorem cF.sub{v0 v1:Value}{b b1:List Int}{w:World}{cs:List Value}{M:aO}(h:cF v1 b1 w cs M)(hv:∀ m' w',b9 m' w' v0 b→b9 m' w' v1 b1) : cF v0 b w cs M:=by
  obtain⟨vw,vb,vd,vr,vo,h0,h1,h2,h3,h4,h5,h6⟩:=h
  exact⟨vw,vb,vd,vr,vo,h0,h1,h2,fun m' w' q=>h3 _ _ (hv _ _ q),h4,aL.upd0 h5 fun r cs ⟨A,n,k,a,b,c⟩=>⟨A,n,k,a,fun m' w' q=>b _ _ (hv _ _ q),c⟩,h6⟩
theorem cF.upd{v0:Value}{b:List Int}{w w':World}{cs:List Value}{M:aO}{S:List Nat}(h:cF v0 b w cs M)(hu:aC S w w')(hs:d9 true mz S w) : cF v0 b w' cs M:=by
  obtain⟨vw,vb,vd,vr,vo,h0,h1,h2,h3,h4,h5,h6⟩:=h
  exact⟨vw,vb,vd,vr,vo,h0,dP.upd' h1 hu (hs.sub (by decide)),i4.upd' h2 hu (hs.sub (by decide)),h3,lJ.upd' h4 hu hs,aL.upd h5 hu (hs.sub (by decide)) (fun _ _ q=>q),h6⟩
theorem cF.zero(v0:Value)(b:List Int)(w:World) : cF v0 b w ma.toList aO.zero:=by
  obtain⟨vw,vb,vd,vr,vo,h0,h1,h2,h3,h4,h5,h6⟩:=aH.zero true w
  exact⟨_,_,_,_,_,rfl,aL.nil ..,aL.nil ..,(fun _ _ _=>aL.nil ..),aL.nil ..,aL.nil ..,h6⟩
theorem cF.size{v0:Value}{b:List Int}{w:World}{cs:Array Value}{M:aO}(h:cF v0 b w cs.toList M) : cs.size=22:=by
  obtain⟨vw,vb,vd,vr,vo,h0,_⟩:=h
  rw[← Array.length_toList,h0]
  rfl
theorem cF.one{v0:Value}{b:List Int}{w w2:World}{m:Md}{cs:Array Value}{M:aO}(h:cF v0 b w cs.toList M)(hb:b9 m w2 v0 b) : cs.all (·.oneCell')=true:=by
  obtain⟨vw,vb,vd,vr,vo,h0,h1,h2,h3,h4,h5,h6⟩:=h
  rw[← Array.all_toList,h0]
  obtain⟨_,_,rfl,_⟩:=h1
  obtain⟨_,_,rfl,_⟩:=h2
  obtain⟨_,_,rfl,_⟩:=h3 _ _ hb
  obtain⟨_,_,rfl,_⟩:=h4
  obtain⟨_,_,rfl,_⟩:=h5
  rfl
def co (v0:Value)(b:List Int)(res:aO × Int)(w:World)(e:Ending)(w':World) : Prop:=∃ cs,e = .returned (.tuple #[.agg cs,.int .i64 res.2])∧cF v0 b w' cs.toList res.1∧aC [] w w'
theorem bo{v0:Value}{b:List Int}{M:aO}{c:aj}{w W:World}{cs:Array Value}(h0:c.endC.e=0)(h:cF v0 b W cs.toList M)(hu:aC [] w W) : co v0 b (b6 M c) w (.returned (.tuple #[.agg cs,.int .i64 0])) W:=by
  unfold b6
  rw[if_pos h0]
  exact⟨cs,rfl,h,hu⟩
theorem bf{v0:Value}{b:List Int}{M:aO}{c:aj}{w W:World}(h0:¬ c.endC.e=0)(hu:aC [] w W) : co v0 b (b6 M c) w (.returned (.tuple #[.agg ma,.int .i64 c.endC.e])) W:=by
  unfold b6
  rw[if_neg h0]
  exact⟨ma,rfl,cF.zero ..,hu⟩
theorem bu{v0:Value}{b:List Int}{x:Int}{w W:World}(hu:aC [] w W) : co v0 b (aO.zero,x) w (.returned (.tuple #[.agg ma,.int .i64 x])) W:=⟨ma,rfl,cF.zero ..,hu⟩
theorem m7{m:Md}{A:Option Addr}{cp:Nat}{b:List Int}{w:World}{c:Int}(hcode:B8 c)(hsl:b9 m w (.slice A b.length cp) b)(hb:b.length≤1048576) :
    Calls Tryz.prog 94 #[.int .i64 0,.int .u8 c,.slice A b.length cp] w (co (.slice A b.length cp) b (ai aM 0 c b) w):=by
 obtain⟨hcode1,hcode2⟩:=hcode
 have hln:(b.length:Int)≤1048576:=by omega
 refine en 221 Tryz.func94 rfl<|sg<|L0<|bH mZ fun eG eH r j f=>Pl 1<|nt<|sq<|sg<|Pl 6<|nt<|c0<|?_
 refine bi<|sg<|Pl 2<|L0<|dq #[.slice A b.length cp,.int .i64 0,.bool false,.int .i64 0] fun l eI d o i=>Pl 1<|ng<|Pl 2<|L0<|bH mZ fun eJ eK g a8 z=>L0<|b7 a8 (mC c) fun a4 a5 s=>?_
 refine nt<|sq<|bk<|sg<|Pl 15<|nt<|c0<|sg<|Pl 3<|cu 3 [68] 71 (((c==3)||(c==4))) (fun K bL=>?_) ?_
 refine bl 68 ((c==3)) (fun a9=>?_) (fun a9=>?_)
 have de:=ah a9
 exact Pl 3<|ce bL true (by rw[a9];rfl)
 have de:=ak a9
 exact Pl 3<|ce bL (c==4) (by rw[a9];rfl)
 refine Pl 1<|nt<|?_
 have W:=ud z s g
 have q:=aD i W
 have t:=aD f q
 refine cb (((c==3)||(c==4))) (fun y=>?_) (fun y=>?_)
 refine sg<|Pl 1<|?_
 have df:RC w _ A cp b a4 l (aj.mk b false 0):=⟨hsl,t,(Nat.le_trans f.size d),⟨0,(ub W o),Nat.zero_le _,rfl⟩,by omega⟩
 refine L0<|Oc<|m3 (cN df) fun eL dg bO eM=>Pl 1<|?_
 have ab:=nb (am o) lr g
 refine L0<|bX (aW bO (Ne.symm ab) a5) 2 (mG c 0 ((aj.mk b false 0).wordV) 0 0 0 0 0 0 0 0 0 nS nS nS nS 0 0 0 0 0 nS) fun eN bP bQ=>nt<|go<|Pl 2<|L0<|aN bP 2<|?_
 have aT:=us bO bQ
 have bR:=ut t aT (ac (ni f.size d) (ac (ni (le f.size i.size) g) ax))
 refine L0<|Oc<|m3 (kM (a:=(aj.mk b false 0).wordV) (most:=125) (by omega) (RC.upd dg bQ (aa ab aA) bR)) fun eO dh bS eP=>?_
 refine fP dh fun x52 di dj=>?_
 refine L0<|wZ (((aj.mk b false 0).wordsC 1).wordV)<|Pl 1<|?_
 refine L0<|bX (aW bS (Ne.symm ab) bP) 3 (mG c 0 ((aj.mk b false 0).wordV) (((aj.mk b false 0).wordsC 1).wordV) 0 0 0 0 0 0 0 0 nS nS nS nS 0 0 0 0 0 nS) fun eQ dk bT=>nl<|bn<|tn<|sg<|Pl 1<|?_
 have aU:=us bS bT
 have bU:=ut bR aU (ac (ni f.size d) (ac (ni (le f.size i.size) g) ax))
 refine L0<|Oc<|m2 (et (RC.upd dj bT (aa ab aA) bU)) fun eR aV aw=>nt<|sq<|sg<|Pl 3<|L0<|eq (p:=⟨l,3,none⟩) (v:=.int .i64 x52.endC.e) (RC.fld aV)<|Pl 1<|nt<|?_
 have bV:=ud bU aw (le f.size d)
 have hs:ai aM 0 c b=b6 (aO.mk c 0 ((aj.mk b false 0).wordV) (((aj.mk b false 0).wordsC 1).wordV) 0 0 0 0 0 0 0 0 [] [] [] [] 0 0 0 0 0 []) x52:=by
   subst di
   unfold ai aM bZ ck dL d7 cT d8 cZ kz
   (try simp only[y,bs,if_true,if_false,decide_true,decide_false,eq_self,true_or,or_true,or_false,false_or,if_true,if_false,dC,dD,dB,dA,reduceIte,qF,qZ])
   all_goals rfl
 refine cb ((x52.endC.e != 0)) (fun aX=>?_) (fun aX=>?_)
 have aZ:=ay aX
 refine sq<|Rg 7 (fun w'=>w'.cell? ⟨l,3,none⟩=some (.int .i64 x52.endC.e)) fun eS az=>?_
 have bW:=RC.upd aV az aA (aC.step (RC.u aV) az)
 refine bg (RC.fld bW) fun ad=>Rt 0 ad<|Rt 1 ad<|Rt 2 ad<|Rt 3 ad<|Rl 4 ad (fun _ hs=>hs)<|?_
 refine R0 5 rfl<|b7 (ub (ut q (ut aT (u1 aU (aD aw az) im) (ac im (ac im ax))) (ac (nr d) (ac (ni i.size g) ax))) j) mZ fun eT dl bY=>?_
 have c2:=ud bV (uz az bY) r
 refine bg (RC.fld (RC.upd bW bY (aa (Ne.symm (nb (am j) lr d)) aA) c2)) fun dm=>Rt 6 dm<|re<|tn<|rt<|tr<|bN dl (.int .i64 x52.endC.e)<|?_
 rw[hs]
 exact bf aZ c2
 have aZ:=ag aX
 refine bi<|sg<|?_
 refine L0<|bM (aW aw (Ne.symm ab) dk)<|?_
 refine L0<|b7 (ub (ut q (ut aT (u1 aU aw im) (ac im (ac im ax))) (ac (nr d) (ac (ni i.size g) ax))) j) (mG c 0 ((aj.mk b false 0).wordV) (((aj.mk b false 0).wordsC 1).wordV) 0 0 0 0 0 0 0 0 nS nS nS nS 0 0 0 0 0 nS) fun eU dn dp=>Pl 1<|nt<|rt<|bN dn (.int .i64 0)<|?_
 rw[hs]
 exact bo aZ ⟨_,_,_,_,_,rfl,aL.nil ..,aL.nil ..,(fun _ _ _=>aL.nil ..),aL.nil ..,aL.nil ..,(ch (by omega))⟩ (ud bV dp r)
 have X:=(aF y).1
 have Y:=(aF y).2
 have eV:=ak X
 have eW:=ak Y
 refine sg<|Pl 3<|nt<|cb ((c==6)) (fun B=>?_) (fun B=>?_)
 have dr:=ah B
 refine sg<|Pl 1<|?_
 have ds:RC w _ A cp b a4 l (aj.mk b false 0):=⟨hsl,t,(Nat.le_trans f.size d),⟨0,(ub W o),Nat.zero_le _,rfl⟩,by omega⟩
 refine L0<|Oc<|m3 (cN ds) fun eX dt c3 eY=>Pl 1<|?_
 have ae:=nb (am o) lr g
 refine L0<|bX (aW c3 (Ne.symm ae) a5) 2 (mG c 0 ((aj.mk b false 0).wordV) 0 0 0 0 0 0 0 0 0 nS nS nS nS 0 0 0 0 0 nS) fun eZ du c4=>nt<|go<|Pl 1<|?_
 have b0:=us c3 c4
 have c5:=ut t b0 (ac (ni f.size d) (ac (ni (le f.size i.size) g) ax))
 refine L0<|Oc<|m3 (cN (RC.upd dt c4 (aa ae aA) c5)) fun f0 dv c6 f1=>Pl 1<|?_
 refine L0<|bX (aW c6 (Ne.symm ae) du) 4 (mG c 0 ((aj.mk b false 0).wordV) 0 (((aj.mk b false 0).wordsC 1).wordV) 0 0 0 0 0 0 0 nS nS nS nS 0 0 0 0 0 nS) fun f2 dw c7=>nl<|bn<|tn<|sg<|Pl 1<|?_
 have b1:=us c6 c7
 have c8:=ut c5 b1 (ac (ni f.size d) (ac (ni (le f.size i.size) g) ax))
 refine L0<|Oc<|m2 (et (RC.upd dv c7 (aa ae aA) c8)) fun f3 b2 aE=>nt<|sq<|sg<|Pl 3<|L0<|eq (p:=⟨l,3,none⟩) (v:=.int .i64 (((((aj.mk b false 0).wordsC 1).wordsC 1).endC).e)) (RC.fld b2)<|Pl 1<|nt<|?_
 have c9:=ud c8 aE (le f.size d)
 have hs:ai aM 0 c b=b6 (aO.mk c 0 ((aj.mk b false 0).wordV) 0 (((aj.mk b false 0).wordsC 1).wordV) 0 0 0 0 0 0 0 [] [] [] [] 0 0 0 0 0 []) (((aj.mk b false 0).wordsC 1).wordsC 1):=by
   unfold ai aM bZ ck dL d7 cT d8 cZ kz
   (try simp only[y,X,Y,B,bs,if_true,if_false,decide_true,decide_false,eq_self,true_or,or_true,or_false,false_or,if_true,if_false,dC,dD,dB,dA,reduceIte,qF,qZ])
   all_goals rfl
 refine cb (((((((aj.mk b false 0).wordsC 1).wordsC 1).endC).e)!=0)) (fun b3=>?_) (fun b3=>?_)
 have b4:=ay b3
 refine sq<|Rg 7 (fun w'=>w'.cell? ⟨l,3,none⟩=some (.int .i64 (((((aj.mk b false 0).wordsC 1).wordsC 1).endC).e))) fun f4 aG=>?_
 have ca:=RC.upd b2 aG aA (aC.step (RC.u b2) aG)
 refine bg (RC.fld ca) fun af=>Rt 0 af<|Rt 1 af<|Rt 2 af<|Rt 3 af<|Rl 4 af (fun _ hs=>hs)<|?_
 refine R0 5 rfl<|b7 (ub (ut q (ut b0 (u1 b1 (aD aE aG) im) (ac im (ac im ax))) (ac (nr d) (ac (ni i.size g) ax))) j) mZ fun f5 dx cc=>?_
 have cd:=ud c9 (uz aG cc) r
 refine bg (RC.fld (RC.upd ca cc (aa (Ne.symm (nb (am j) lr d)) aA) cd)) fun dy=>Rt 6 dy<|re<|tn<|rt<|tr<|bN dx (.int .i64 (((((aj.mk b false 0).wordsC 1).wordsC 1).endC).e))<|?_
 rw[hs]
 exact bf b4 cd
 have b4:=ag b3
 refine bi<|sg<|?_
 refine L0<|bM (aW aE (Ne.symm ae) dw)<|?_
 refine L0<|b7 (ub (ut q (ut b0 (u1 b1 aE im) (ac im (ac im ax))) (ac (nr d) (ac (ni i.size g) ax))) j) (mG c 0 ((aj.mk b false 0).wordV) 0 (((aj.mk b false 0).wordsC 1).wordV) 0 0 0 0 0 0 0 nS nS nS nS 0 0 0 0 0 nS) fun f6 dz dE=>Pl 1<|nt<|rt<|bN dz (.int .i64 0)<|?_
 rw[hs]
 exact bo b4 ⟨_,_,_,_,_,rfl,aL.nil ..,aL.nil ..,(fun _ _ _=>aL.nil ..),aL.nil ..,aL.nil ..,(ch (by omega))⟩ (ud c9 dE r)
 have dr:=ak B
 refine sg<|Pl 3<|nt<|cb ((c==16)) (fun E=>?_) (fun E=>?_)
 have dF:=ah E
 refine sg<|Pl 1<|?_
 have dG:RC w _ A cp b a4 l (aj.mk b false 0):=⟨hsl,t,(Nat.le_trans f.size d),⟨0,(ub W o),Nat.zero_le _,rfl⟩,by omega⟩
 refine L0<|Oc<|m3 (cN dG) fun f7 dH F f8=>Pl 1<|?_
 have C:=nb (am o) lr g
 refine L0<|bX (aW F (Ne.symm C) a5) 2 (mG c 0 ((aj.mk b false 0).wordV) 0 0 0 0 0 0 0 0 0 nS nS nS nS 0 0 0 0 0 nS) fun f9 cg G=>ng<|Pl 2<|L0<|aN cg 2<|?_
 have b5:=us F G
 have ci:=ut t b5 (ac (ni f.size d) (ac (ni (le f.size i.size) g) ax))
 refine L0<|Oc<|m3 (kM (a:=(aj.mk b false 0).wordV) (most:=123) (by omega) (RC.upd dH G (aa C aA) ci)) fun fa dI H fb=>?_
 refine fP dI fun cj dJ dK=>?_
 refine L0<|wZ (((aj.mk b false 0).wordsC 1).wordV)<|Pl 1<|?_
 refine L0<|bX (aW H (Ne.symm C) cg) 3 (mG c 0 ((aj.mk b false 0).wordV) (((aj.mk b false 0).wordsC 1).wordV) 0 0 0 0 0 0 0 0 nS nS nS nS 0 0 0 0 0 nS) fun fc dM I=>ng<|Pl 2<|nt<|c1<|sg<|Pl 1<|?_
 have b8:=us H I
 have cl:=ut ci b8 (ac (ni f.size d) (ac (ni (le f.size i.size) g) ax))
 refine L0<|Oc<|m3 (dX (RC.upd dK I (aa C aA) cl)) fun fd dN J fe=>L0<|Oi cj.byteV<|Pl 1<|ng<|Pl 3<|?_
 have cm:=aW J (Ne.symm C) dM
 refine L0<|aN cm 3<|L0<|Oi (((aj.mk b false 0).wordsC 1).wordV)<|L0<|Oi (2*(((aj.mk b false 0).wordsC 1).wordV))<|Pl 1<|L0<|Oc<|m2 (aY ((cj.byteV==(2*(((aj.mk b false 0).wordsC 1).wordV)))) 5 dN) fun ff dO L=>?_
 refine fP dO fun M dP dQ=>?_
 refine nt<|go<|Pl 2<|?_
 have cn:=aW L (Ne.symm C) cm
 refine L0<|aN cn 3<|L0<|Oi (((aj.mk b false 0).wordsC 1).wordV)<|L0<|Oc<|nf (ge (n:=((aj.mk b false 0).wordsC 1).wordV) (by omega) dQ) fun cq cr fg N fh fi dR cs=>Pl 1<|?_
 refine L0<|bX (aW cs (Ne.symm C) cn) 12 (mG c 0 ((aj.mk b false 0).wordV) (((aj.mk b false 0).wordsC 1).wordV) 0 0 0 0 0 0 0 0 (.slice cq ((M.wordsR (((aj.mk b false 0).wordsC 1).wordV)).length) cr) nS nS nS 0 0 0 0 0 nS) fun fj dS aH=>nl<|bn<|tn<|sg<|Pl 1<|?_
 have ba:=ui J (ui L (us cs aH))
 have ct:=ut cl ba (ac (ni f.size d) (ac (ni (le f.size i.size) g) ax))
 refine L0<|Oc<|m2 (et (RC.upd dR aH (aa C aA) ct)) fun fk bb al=>nt<|sq<|sg<|Pl 3<|L0<|eq (p:=⟨l,3,none⟩) (v:=.int .i64 (((M.wordsC (((aj.mk b false 0).wordsC 1).wordV)).endC).e)) (RC.fld bb)<|Pl 1<|nt<|?_
 have cv:=ud ct al (le f.size d)
 have hs:ai aM 0 c b=b6 (aO.mk c 0 ((aj.mk b false 0).wordV) (((aj.mk b false 0).wordsC 1).wordV) 0 0 0 0 0 0 0 0 (M.wordsR (((aj.mk b false 0).wordsC 1).wordV)) [] [] [] 0 0 0 0 0 []) (M.wordsC (((aj.mk b false 0).wordsC 1).wordV)):=by
   subst dP dJ
   unfold ai aM bZ ck dL d7 cT d8 cZ kz
   (try simp only[y,X,Y,B,E,bs,if_true,if_false,decide_true,decide_false,eq_self,true_or,or_true,or_false,false_or,if_true,if_false,dC,dD,dB,dA,reduceIte,qF,qZ])
   all_goals rfl
 refine cb (((((M.wordsC (((aj.mk b false 0).wordsC 1).wordV)).endC).e)!=0)) (fun bc=>?_) (fun bc=>?_)
 have bd:=ay bc
 refine sq<|Rg 7 (fun w'=>w'.cell? ⟨l,3,none⟩=some (.int .i64 (((M.wordsC (((aj.mk b false 0).wordsC 1).wordV)).endC).e))) fun fl aI=>?_
 have cw:=RC.upd bb aI aA (aC.step (RC.u bb) aI)
 refine bg (RC.fld cw) fun an=>Rt 0 an<|Rt 1 an<|Rt 2 an<|Rt 3 an<|Rl 4 an (fun _ hs=>hs)<|?_
 have cx:=aD al aI
 refine R0 5 rfl<|b7 (ub (ut q (ut b5 (ut b8 (u1 ba cx im) (ac im (ac im ax))) (ac im (ac im ax))) (ac (nr d) (ac (ni i.size g) ax))) j) mZ fun fm dT be=>?_
 have cy:=ud cv (uz aI be) r
 refine bg (RC.fld (RC.upd cw be (aa (Ne.symm (nb (am j) lr d)) aA) cy)) fun dU=>Rt 6 dU<|re<|tn<|rt<|tr<|bN dT (.int .i64 (((M.wordsC (((aj.mk b false 0).wordsC 1).wordV)).endC).e))<|?_
 have fn:=aq N (us aH (us cx be)) (fun x hx=>(aa (fun e=>(aB (am a8) (le (le (le (le (le (le s.size F.size) G.size) H.size) I.size) J.size) L.size) N) (e▸hx)) (aa (fun e=>(aB (am o) (le (le (le (le (le (le (le z.size s.size) F.size) G.size) H.size) I.size) J.size) L.size) N) (e▸hx)) (aa (fun e=>(aB (am j) (le (le (le (le (le (le (le (le i.size z.size) s.size) F.size) G.size) H.size) I.size) J.size) L.size) N) (e▸hx)) aA)))) (fun _ _ h=>h)
 rw[hs]
 exact bf bd cy
 have bd:=ag bc
 refine bi<|sg<|?_
 refine L0<|bM (aW al (Ne.symm C) dS)<|?_
 refine L0<|b7 (ub (ut q (ut b5 (ut b8 (u1 ba al im) (ac im (ac im ax))) (ac im (ac im ax))) (ac (nr d) (ac (ni i.size g) ax))) j) (mG c 0 ((aj.mk b false 0).wordV) (((aj.mk b false 0).wordsC 1).wordV) 0 0 0 0 0 0 0 0 (.slice cq ((M.wordsR (((aj.mk b false 0).wordsC 1).wordV)).length) cr) nS nS nS 0 0 0 0 0 nS) fun fo dV cz=>Pl 1<|nt<|rt<|bN dV (.int .i64 0)<|?_
 rw[hs]
 exact bo bd ⟨_,_,_,_,_,rfl,((aq N (us aH (us al cz)) (fun x hx=>(aa (fun e=>(aB (am a8) (le (le (le (le (le (le s.size F.size) G.size) H.size) I.size) J.size) L.size) N) (e▸hx)) (aa (fun e=>(aB (am o) (le (le (le (le (le (le (le z.size s.size) F.size) G.size) H.size) I.size) J.size) L.size) N) (e▸hx)) (aa (fun e=>(aB (am j) (le (le (le (le (le (le (le (le i.size z.size) s.size) F.size) G.size) H.size) I.size) J.size) L.size) N) (e▸hx)) aA)))) (fun _ _ h=>h))).rd,aL.nil ..,(fun _ _ _=>aL.nil ..),aL.nil ..,aL.nil ..,(ch (by omega))⟩ (ud cv cz r)
 have dF:=ak E
 refine sg<|Pl 3<|nt<|cb ((c==22)) (fun Z=>?_) (fun Z=>?_)
 have dW:=ah Z
 refine sg<|Pl 1<|?_
 have dY:RC w _ A cp b a4 l (aj.mk b false 0):=⟨hsl,t,(Nat.le_trans f.size d),⟨0,(ub W o),Nat.zero_le _,rfl⟩,by omega⟩
 refine L0<|Oc<|m3 (cN dY) fun fp dZ cA fq=>Pl 1<|?_
 have a0:=nb (am o) lr g
 refine L0<|bX (aW cA (Ne.symm a0) a5) 2 (mG c 0 ((aj.mk b false 0).wordV) 0 0 0 0 0 0 0 0 0 nS nS nS nS 0 0 0 0 0 nS) fun fr e0 cB=>ng<|Pl 1<|?_
 have bh:=us cA cB
 have cC:=ut t bh (ac (ni f.size d) (ac (ni (le f.size i.size) g) ax))
 refine L0<|Oc<|m3 (cN (RC.upd dZ cB (aa a0 aA) cC)) fun fs e1 cD ft=>Pl 1<|?_
 refine L0<|bX (aW cD (Ne.symm a0) e0) 5 (mG c 0 ((aj.mk b false 0).wordV) 0 0 (((aj.mk b false 0).wordsC 1).wordV) 0 0 0 0 0 0 nS nS nS nS 0 0 0 0 0 nS) fun fu e2 cE=>nt<|go<|Pl 1<|?_
 have bj:=us cD cE
 have cF:=ut cC bj (ac (ni f.size d) (ac (ni (le f.size i.size) g) ax))
 refine L0<|Oc<|m3 (cN (RC.upd e1 cE (aa a0 aA) cF)) fun fv e3 cG fw=>Pl 1<|?_
 refine L0<|bX (aW cG (Ne.symm a0) e2) 6 (mG c 0 ((aj.mk b false 0).wordV) 0 0 (((aj.mk b false 0).wordsC 1).wordV) ((((aj.mk b false 0).wordsC 1).wordsC 1).wordV) 0 0 0 0 0 nS nS nS nS 0 0 0 0 0 nS) fun fx e4 cH=>nl<|bn<|tn<|sg<|Pl 1<|?_
 have bm:=us cG cH
 have cI:=ut cF bm (ac (ni f.size d) (ac (ni (le f.size i.size) g) ax))
 refine L0<|Oc<|m2 (et (RC.upd e3 cH (aa a0 aA) cI)) fun fy bp aJ=>nt<|sq<|sg<|Pl 3<|L0<|eq (p:=⟨l,3,none⟩) (v:=.int .i64 ((((((aj.mk b false 0).wordsC 1).wordsC 1).wordsC 1).endC).e)) (RC.fld bp)<|Pl 1<|nt<|?_
 have cJ:=ud cI aJ (le f.size d)
 have hs:ai aM 0 c b=b6 (aO.mk c 0 ((aj.mk b false 0).wordV) 0 0 (((aj.mk b false 0).wordsC 1).wordV) ((((aj.mk b false 0).wordsC 1).wordsC 1).wordV) 0 0 0 0 0 [] [] [] [] 0 0 0 0 0 []) ((((aj.mk b false 0).wordsC 1).wordsC 1).wordsC 1):=by
   unfold ai aM bZ ck dL d7 cT d8 cZ kz
   (try simp only[y,X,Y,B,E,Z,bs,if_true,if_false,decide_true,decide_false,eq_self,true_or,or_true,or_false,false_or,if_true,if_false,dC,dD,dB,dA,reduceIte,qF,qZ])
   all_goals rfl
 refine cb ((((((((aj.mk b false 0).wordsC 1).wordsC 1).wordsC 1).endC).e)!=0)) (fun bq=>?_) (fun bq=>?_)
 have bt:=ay bq
 refine sq<|Rg 7 (fun w'=>w'.cell? ⟨l,3,none⟩=some (.int .i64 ((((((aj.mk b false 0).wordsC 1).wordsC 1).wordsC 1).endC).e))) fun fz aK=>?_
 have cK:=RC.upd bp aK aA (aC.step (RC.u bp) aK)
 refine bg (RC.fld cK) fun ao=>Rt 0 ao<|Rt 1 ao<|Rt 2 ao<|Rt 3 ao<|Rl 4 ao (fun _ hs=>hs)<|?_
 refine R0 5 rfl<|b7 (ub (ut q (ut bh (ut bj (u1 bm (aD aJ aK) im) (ac im (ac im ax))) (ac im (ac im ax))) (ac (nr d) (ac (ni i.size g) ax))) j) mZ fun fA e5 cL=>?_
 have cM:=ud cJ (uz aK cL) r
 refine bg (RC.fld (RC.upd cK cL (aa (Ne.symm (nb (am j) lr d)) aA) cM)) fun e6=>Rt 6 e6<|re<|tn<|rt<|tr<|bN e5 (.int .i64 ((((((aj.mk b false 0).wordsC 1).wordsC 1).wordsC 1).endC).e))<|?_
 rw[hs]
 exact bf bt cM
 have bt:=ag bq
 refine bi<|sg<|?_
 refine L0<|bM (aW aJ (Ne.symm a0) e4)<|?_
 refine L0<|b7 (ub (ut q (ut bh (ut bj (u1 bm aJ im) (ac im (ac im ax))) (ac im (ac im ax))) (ac (nr d) (ac (ni i.size g) ax))) j) (mG c 0 ((aj.mk b false 0).wordV) 0 0 (((aj.mk b false 0).wordsC 1).wordV) ((((aj.mk b false 0).wordsC 1).wordsC 1).wordV) 0 0 0 0 0 nS nS nS nS 0 0 0 0 0 nS) fun fB e7 e8=>Pl 1<|nt<|rt<|bN e7 (.int .i64 0)<|?_
 rw[hs]
 exact bo bt ⟨_,_,_,_,_,rfl,aL.nil ..,aL.nil ..,(fun _ _ _=>aL.nil ..),aL.nil ..,aL.nil ..,(ch (by omega))⟩ (ud cJ e8 r)
 have dW:=ak Z
 refine sg<|Pl 3<|nt<|cb ((c==23)) (fun a6=>?_) (fun a6=>?_)
 have e9:=ah a6
 refine sg<|Pl 1<|?_
 have ea:RC w _ A cp b a4 l (aj.mk b false 0):=⟨hsl,t,(Nat.le_trans f.size d),⟨0,(ub W o),Nat.zero_le _,rfl⟩,by omega⟩
 refine L0<|Oc<|m3 (cN ea) fun fC eb O fD=>Pl 1<|?_
 have D:=nb (am o) lr g
 refine L0<|bX (aW O (Ne.symm D) a5) 2 (mG c 0 ((aj.mk b false 0).wordV) 0 0 0 0 0 0 0 0 0 nS nS nS nS 0 0 0 0 0 nS) fun fE cO P=>ng<|Pl 2<|L0<|aN cO 2<|?_
 have bv:=us O P
 have cP:=ut t bv (ac (ni f.size d) (ac (ni (le f.size i.size) g) ax))
 refine L0<|Oc<|m3 (kM (a:=(aj.mk b false 0).wordV) (most:=125) (by omega) (RC.upd eb P (aa D aA) cP)) fun fF ec Q fG=>?_
 refine fP ec fun k ed ee=>?_
 refine L0<|wZ (((aj.mk b false 0).wordsC 1).wordV)<|Pl 1<|?_
 refine L0<|bX (aW Q (Ne.symm D) cO) 3 (mG c 0 ((aj.mk b false 0).wordV) (((aj.mk b false 0).wordsC 1).wordV) 0 0 0 0 0 0 0 0 nS nS nS nS 0 0 0 0 0 nS) fun fH ef R=>ng<|Pl 1<|?_
 have bw:=us Q R
 have cQ:=ut cP bw (ac (ni f.size d) (ac (ni (le f.size i.size) g) ax))
 refine L0<|Oc<|m3 (cN (RC.upd ee R (aa D aA) cQ)) fun fI eg S fJ=>Pl 1<|?_
 refine L0<|bX (aW S (Ne.symm D) ef) 7 (mG c 0 ((aj.mk b false 0).wordV) (((aj.mk b false 0).wordsC 1).wordV) 0 0 0 k.wordV 0 0 0 0 nS nS nS nS 0 0 0 0 0 nS) fun fK cR T=>ng<|Pl 2<|L0<|aN cR 7<|?_
 have bx:=us S T
 have cS:=ut cQ bx (ac (ni f.size d) (ac (ni (le f.size i.size) g) ax))
 refine L0<|Oc<|m3 (kM (a:=k.wordV) (most:=121) (by omega) (RC.upd eg T (aa D aA) cS)) fun fL eh a1 fM=>Pl 1<|ng<|Pl 1<|L0<|Oc<|m3 (dX eh) fun fN ei a2 fO=>L0<|Oi ((bG (k.wordsC 1) k.wordV 121).byteV)<|Pl 1<|ng<|?_
 refine Pl 3<|L0<|Oi (2*((k.wordsC 1).wordV))<|Pl 1<|L0<|Oc<|m2 (aY ((((bG (k.wordsC 1) k.wordV 121).byteV)==(2*((k.wordsC 1).wordV)))) 5 ei) fun fQ ej a3=>?_
 refine fP ej fun U ek el=>?_
 refine nt<|go<|Pl 2<|L0<|Oc<|nf (ge (n:=(k.wordsC 1).wordV) (by omega) el) fun cU cV fR V fS fT em eo=>Pl 1<|?_
 have cW:=u1 a1 (u1 a2 (u1 a3 eo im) im) im
 refine L0<|bX (aW cW (Ne.symm D) cR) 12 (mG c 0 ((aj.mk b false 0).wordV) (((aj.mk b false 0).wordsC 1).wordV) 0 0 0 k.wordV 0 0 0 0 (.slice cU ((U.wordsR ((k.wordsC 1).wordV)).length) cV) nS nS nS 0 0 0 0 0 nS) fun fU ep aP=>nl<|bn<|tn<|sg<|Pl 1<|?_
 have bz:=us cW aP
 have cX:=ut cS bz (ac (ni f.size d) (ac (ni (le f.size i.size) g) ax))
 refine L0<|Oc<|m2 (et (RC.upd em aP (aa D aA) cX)) fun fV bA ap=>nt<|sq<|sg<|Pl 3<|L0<|eq (p:=⟨l,3,none⟩) (v:=.int .i64 (((U.wordsC ((k.wordsC 1).wordV)).endC).e)) (RC.fld bA)<|Pl 1<|nt<|?_
 have cY:=ud cX ap (le f.size d)
 have hs:ai aM 0 c b=b6 (aO.mk c 0 ((aj.mk b false 0).wordV) (((aj.mk b false 0).wordsC 1).wordV) 0 0 0 k.wordV 0 0 0 0 (U.wordsR ((k.wordsC 1).wordV)) [] [] [] 0 0 0 0 0 []) (U.wordsC ((k.wordsC 1).wordV)):=by
   subst ek ed
   unfold ai aM bZ ck dL d7 cT d8 cZ kz
   (try simp only[y,X,Y,B,E,Z,a6,bs,if_true,if_false,decide_true,decide_false,eq_self,true_or,or_true,or_false,false_or,if_true,if_false,dC,dD,dB,dA,reduceIte,qF,qZ])
   all_goals rfl
 refine cb (((((U.wordsC ((k.wordsC 1).wordV)).endC).e)!=0)) (fun bB=>?_) (fun bB=>?_)
 have bC:=ay bB
 refine sq<|Rg 7 (fun w'=>w'.cell? ⟨l,3,none⟩=some (.int .i64 (((U.wordsC ((k.wordsC 1).wordV)).endC).e))) fun fW aQ=>?_
 have d0:=RC.upd bA aQ aA (aC.step (RC.u bA) aQ)
 refine bg (RC.fld d0) fun ar=>Rt 0 ar<|Rt 1 ar<|Rt 2 ar<|Rt 3 ar<|Rl 4 ar (fun _ hs=>hs)<|?_
 have d1:=aD ap aQ
 refine R0 5 rfl<|b7 (ub (ut q (ut bv (ut bw (ut bx (u1 bz d1 im) (ac im (ac im ax))) (ac im (ac im ax))) (ac im (ac im ax))) (ac (nr d) (ac (ni i.size g) ax))) j) mZ fun fX er bD=>?_
 have d2:=ud cY (uz aQ bD) r
 refine bg (RC.fld (RC.upd d0 bD (aa (Ne.symm (nb (am j) lr d)) aA) d2)) fun es=>Rt 6 es<|re<|tn<|rt<|tr<|bN er (.int .i64 (((U.wordsC ((k.wordsC 1).wordV)).endC).e))<|?_
 have fY:=aq V (us aP (us d1 bD)) (fun x hx=>(aa (fun e=>(aB (am a8) (le (le (le (le (le (le (le (le (le s.size O.size) P.size) Q.size) R.size) S.size) T.size) a1.size) a2.size) a3.size) V) (e▸hx)) (aa (fun e=>(aB (am o) (le (le (le (le (le (le (le (le (le (le z.size s.size) O.size) P.size) Q.size) R.size) S.size) T.size) a1.size) a2.size) a3.size) V) (e▸hx)) (aa (fun e=>(aB (am j) (le (le (le (le (le (le (le (le (le (le (le i.size z.size) s.size) O.size) P.size) Q.size) R.size) S.size) T.size) a1.size) a2.size) a3.size) V) (e▸hx)) aA)))) (fun _ _ h=>h)
 rw[hs]
 exact bf bC d2
 have bC:=ag bB
 refine bi<|sg<|?_
 refine L0<|bM (aW ap (Ne.symm D) ep)<|?_
 refine L0<|b7 (ub (ut q (ut bv (ut bw (ut bx (u1 bz ap im) (ac im (ac im ax))) (ac im (ac im ax))) (ac im (ac im ax))) (ac (nr d) (ac (ni i.size g) ax))) j) (mG c 0 ((aj.mk b false 0).wordV) (((aj.mk b false 0).wordsC 1).wordV) 0 0 0 k.wordV 0 0 0 0 (.slice cU ((U.wordsR ((k.wordsC 1).wordV)).length) cV) nS nS nS 0 0 0 0 0 nS) fun fZ eu d3=>Pl 1<|nt<|rt<|bN eu (.int .i64 0)<|?_
 rw[hs]
 exact bo bC ⟨_,_,_,_,_,rfl,((aq V (us aP (us ap d3)) (fun x hx=>(aa (fun e=>(aB (am a8) (le (le (le (le (le (le (le (le (le s.size O.size) P.size) Q.size) R.size) S.size) T.size) a1.size) a2.size) a3.size) V) (e▸hx)) (aa (fun e=>(aB (am o) (le (le (le (le (le (le (le (le (le (le z.size s.size) O.size) P.size) Q.size) R.size) S.size) T.size) a1.size) a2.size) a3.size) V) (e▸hx)) (aa (fun e=>(aB (am j) (le (le (le (le (le (le (le (le (le (le (le i.size z.size) s.size) O.size) P.size) Q.size) R.size) S.size) T.size) a1.size) a2.size) a3.size) V) (e▸hx)) aA)))) (fun _ _ h=>h))).rd,aL.nil ..,(fun _ _ _=>aL.nil ..),aL.nil ..,aL.nil ..,(ch (by omega))⟩ (ud cY d3 r)
 have e9:=ak a6
 refine sg<|Pl 3<|cu 3 [168] 171 ((c==24)) (fun K d4=>?_) ?_
 refine bl 168 ((c==24)) (fun au=>?_) (fun au=>?_)
 have ev:=ah au
 exact Pl 3<|ce d4 true au
 have ev:=ak au
 exact Pl 3<|ce d4 false au
 refine Pl 1<|nt<|cb ((c==24)) (fun a7=>?_) (fun a7=>?_)
 have ew:=ah a7
 refine go<|Pl 1<|?_
 have ex:RC w _ A cp b a4 l (aj.mk b false 0):=⟨hsl,t,(Nat.le_trans f.size d),⟨0,(ub W o),Nat.zero_le _,rfl⟩,by omega⟩
 refine L0<|Oc<|m3 (cN ex) fun g0 ey d5 g1=>Pl 1<|?_
 have bE:=nb (am o) lr g
 refine L0<|bX (aW d5 (Ne.symm bE) a5) 2 (mG c 0 ((aj.mk b false 0).wordV) 0 0 0 0 0 0 0 0 0 nS nS nS nS 0 0 0 0 0 nS) fun g2 ez d6=>nl<|bn<|tn<|sg<|Pl 1<|?_
 have bF:=us d5 d6
 have d9:=ut t bF (ac (ni f.size d) (ac (ni (le f.size i.size) g) ax))
 refine L0<|Oc<|m2 (et (RC.upd ey d6 (aa bE aA) d9)) fun g3 bI aR=>nt<|sq<|sg<|Pl 3<|L0<|eq (p:=⟨l,3,none⟩) (v:=.int .i64 ((((aj.mk b false 0).wordsC 1).endC).e)) (RC.fld bI)<|Pl 1<|nt<|?_
 have da:=ud d9 aR (le f.size d)
 have hs:ai aM 0 c b=b6 (aO.mk c 0 ((aj.mk b false 0).wordV) 0 0 0 0 0 0 0 0 0 [] [] [] [] 0 0 0 0 0 []) ((aj.mk b false 0).wordsC 1):=by
   unfold ai aM bZ ck dL d7 cT d8 cZ kz
   (try simp only[y,X,Y,B,E,Z,a6,a7,bs,if_true,if_false,decide_true,decide_false,eq_self,true_or,or_true,or_false,false_or,if_true,if_false,dC,dD,dB,dA,reduceIte,qF,qZ])
   all_goals rfl
 refine cb ((((((aj.mk b false 0).wordsC 1).endC).e)!=0)) (fun bJ=>?_) (fun bJ=>?_)
 have bK:=ay bJ
 refine sq<|Rg 7 (fun w'=>w'.cell? ⟨l,3,none⟩=some (.int .i64 ((((aj.mk b false 0).wordsC 1).endC).e))) fun g4 aS=>?_
 have db:=RC.upd bI aS aA (aC.step (RC.u bI) aS)
 refine bg (RC.fld db) fun av=>Rt 0 av<|Rt 1 av<|Rt 2 av<|Rt 3 av<|Rl 4 av (fun _ hs=>hs)<|?_
 refine R0 5 rfl<|b7 (ub (ut q (u1 bF (aD aR aS) im) (ac (nr d) (ac (ni i.size g) ax))) j) mZ fun g5 eA dc=>?_
 have dd:=ud da (uz aS dc) r
 refine bg (RC.fld (RC.upd db dc (aa (Ne.symm (nb (am j) lr d)) aA) dd)) fun eB=>Rt 6 eB<|re<|tn<|rt<|tr<|bN eA (.int .i64 ((((aj.mk b false 0).wordsC 1).endC).e))<|?_
 rw[hs]
 exact bf bK dd
 have bK:=ag bJ
 refine bi<|sg<|?_
 refine L0<|bM (aW aR (Ne.symm bE) ez)<|?_
 refine L0<|b7 (ub (ut q (u1 bF aR im) (ac (nr d) (ac (ni i.size g) ax))) j) (mG c 0 ((aj.mk b false 0).wordV) 0 0 0 0 0 0 0 0 0 nS nS nS nS 0 0 0 0 0 nS) fun g6 eC eD=>Pl 1<|nt<|rt<|bN eC (.int .i64 0)<|?_
 rw[hs]
 exact bo bK ⟨_,_,_,_,_,rfl,aL.nil ..,aL.nil ..,(fun _ _ _=>aL.nil ..),aL.nil ..,aL.nil ..,(ch (by omega))⟩ (ud da eD r)
 have ew:=ak a7
 refine sg<|Pl 3<|nt<|cf a7<|sg<|Pl 1<|?_
 refine L0<|b7 (ub q j) mZ fun g7 eE eF=>Pl 1<|nt<|rt<|br<|tr<|bN eE (.int .i64 4)<|?_
 have hs:ai aM 0 c b=(aO.zero,4):=by
   unfold ai aM bZ ck dL d7 cT d8 cZ kz
   (try simp only[y,X,Y,B,E,Z,a6,a7,bs,if_true,if_false,decide_true,decide_false,eq_self,true_or,or_true,or_false,false_or,if_true,if_false,dC,dD,dB,dA,reduceIte,qF,qZ])
   all_goals rfl
 rw[hs]
 exact bu (ud t eF r)
theorem lO{m:Md}{A:Option Addr}{cp:Nat}{b:List Int}{w:World}{c:Int}(hcode:B8 c)(hsl:b9 m w (.slice A b.length cp) b)(hb:b.length≤1048576) :
    Calls Tryz.prog 94 #[.int .i64 1,.int .u8 c,.slice A b.length cp] w (co (.slice A b.length cp) b (ai aM 1 c b) w):=by
 obtain⟨hcode1,hcode2⟩:=hcode
 have hln:(b.length:Int)≤1048576:=by omega
 refine en 221 Tryz.func94 rfl<|sg<|L0<|bH mZ fun e2 e3 s j f=>Pl 1<|nt<|sq<|sg<|Pl 6<|nt<|c0<|?_
 refine bi<|sg<|Pl 2<|L0<|dq #[.slice A b.length cp,.int .i64 0,.bool false,.int .i64 0] fun k e4 d l i=>Pl 1<|ng<|Pl 2<|L0<|bH mZ fun e5 e6 g U z=>L0<|b7 U (mC c) fun V W o=>?_
 refine nt<|sq<|bk<|sg<|Pl 6<|cu 3 [35] 38 (((c==3)||(c==4))) (fun K bq=>?_) ?_
 refine bl 35 ((c==3)) (fun X=>?_) (fun X=>?_)
 have cF:=ah X
 exact Pl 3<|ce bq true (by rw[X];rfl)
 have cF:=ak X
 exact Pl 3<|ce bq (c==4) (by rw[X];rfl)
 refine Pl 1<|cu 3 [39] 42 ((((c==3)||(c==4))||(c==23))) (fun K bt=>?_) ?_
 refine bl 39 (((c==3)||(c==4))) (fun Y=>?_) (fun Y=>?_)
 exact Pl 3<|ce bt true (by rw[Y];rfl)
 have cG:=(aF Y).1
 have cH:=(aF Y).2
 have e7:=ak cG
 have e8:=ak cH
 exact Pl 3<|ce bt (c==23) (by rw[Y];rfl)
 refine Pl 2<|nt<|?_
 have S:=ud z o g
 have r:=aD i S
 have t:=aD f r
 refine cb ((((c==3)||(c==4))||(c==23))) (fun y=>?_) (fun y=>?_)
 refine sg<|Pl 1<|?_
 have cI:RC w _ A cp b V k (aj.mk b false 0):=⟨hsl,t,(Nat.le_trans f.size d),⟨0,(ub S l),Nat.zero_le _,rfl⟩,by omega⟩
 refine L0<|Oc<|m3 (dX cI) fun e9 cJ F ea=>L0<|Oi ((aj.mk b false 0).byteV)<|Pl 1<|ng<|Pl 2<|L0<|Oe (.int .i64 (Int.tmod ((aj.mk b false 0).byteV) 2)) (.int .i64 (((aj.mk b false 0).byteV)%2)) (congrArg (Value.int .i64) (Int.tmod_eq_emod_of_nonneg (by omega)))<|Pl 2<|cu 3 [51] 54 ((((((aj.mk b false 0).byteV)%2)==0)&&(decide (0<((aj.mk b false 0).byteV))))) (fun K bv=>?_) ?_
 refine bl 51 (((((aj.mk b false 0).byteV)%2)==0)) (fun Z=>?_) (fun Z=>?_)
 have cK:=ah Z
 exact Pl 3<|ce bv (decide (0<((aj.mk b false 0).byteV))) (by rw[Z];rfl)
 have cK:=ak Z
 exact Pl 3<|ce bv false (by rw[Z];rfl)
 refine Pl 1<|cu 3 [55] 58 (((((((aj.mk b false 0).byteV)%2)==0)&&(decide (0<((aj.mk b false 0).byteV))))&&(decide (((aj.mk b false 0).byteV)≤250)))) (fun K bw=>?_) ?_
 refine bl 55 ((((((aj.mk b false 0).byteV)%2)==0)&&(decide (0<((aj.mk b false 0).byteV))))) (fun a0=>?_) (fun a0=>?_)
 have cL:=(aU a0).1
 have cM:=(aU a0).2
 have eb:=ah cL
 have ec:=of_decide_eq_true cM
 exact Pl 3<|ce bw (decide (((aj.mk b false 0).byteV)≤250)) (by rw[a0];rfl)
 exact Pl 3<|ce bw false (by rw[a0];rfl)
 refine L0<|Oc<|m2 (aY (((((((aj.mk b false 0).byteV)%2)==0)&&(decide (0<((aj.mk b false 0).byteV))))&&(decide (((aj.mk b false 0).byteV)≤250)))) 5 cJ) fun ed cO G=>?_
 refine fP cO fun x49 cP cQ=>?_
 refine nt<|go<|Pl 2<|L0<|Oe (.int .i64 (IntKind.i64.wrap (Int.tdiv ((aj.mk b false 0).byteV) 2))) (.int .i64 (((aj.mk b false 0).byteV)/2)) (congrArg (Value.int .i64) (fY (by omega) (by omega)))<|L0<|Oc<|nf (ge (n:=(((aj.mk b false 0).byteV)/2)) (by omega) cQ) fun bx bz ee B ef eg cR cS=>Pl 1<|?_
 have bA:=u1 F (u1 G cS im) im
 have aG:=nb (am l) lr g
 refine L0<|bX (aW bA (Ne.symm aG) W) 12 (mG c 0 0 0 0 0 0 0 0 0 0 0 (.slice bx ((x49.wordsR (((aj.mk b false 0).byteV)/2)).length) bz) nS nS nS 0 0 0 0 0 nS) fun eh cU al=>nl<|bn<|tn<|sg<|Pl 1<|?_
 have aH:=us bA al
 have bB:=ut t aH (ac (ni f.size d) (ac (ni (le f.size i.size) g) ax))
 refine L0<|Oc<|m2 (et (RC.upd cR al (aa aG aA) bB)) fun ei aI a1=>nt<|sq<|sg<|Pl 3<|L0<|eq (p:=⟨k,3,none⟩) (v:=.int .i64 (((x49.wordsC (((aj.mk b false 0).byteV)/2)).endC).e)) (RC.fld aI)<|Pl 1<|nt<|?_
 have bC:=ud bB a1 (le f.size d)
 have hs:ai aM 1 c b=b6 (aO.mk c 0 0 0 0 0 0 0 0 0 0 0 (x49.wordsR (((aj.mk b false 0).byteV)/2)) [] [] [] 0 0 0 0 0 []) (x49.wordsC (((aj.mk b false 0).byteV)/2)):=by
   subst cP
   unfold ai
   (try simp only[y,bs,if_true,if_false,decide_true,decide_false,eq_self,true_or,or_true,or_false,false_or,if_true,if_false,dC,dD,dB,dA,reduceIte,qF,qZ,uF y])
   all_goals rfl
 refine cb (((((x49.wordsC (((aj.mk b false 0).byteV)/2)).endC).e)!=0)) (fun aJ=>?_) (fun aJ=>?_)
 have aK:=ay aJ
 refine sq<|Rg 7 (fun w'=>w'.cell? ⟨k,3,none⟩=some (.int .i64 (((x49.wordsC (((aj.mk b false 0).byteV)/2)).endC).e))) fun ej an=>?_
 have bD:=RC.upd aI an aA (aC.step (RC.u aI) an)
 refine bg (RC.fld bD) fun a2=>Rt 0 a2<|Rt 1 a2<|Rt 2 a2<|Rt 3 a2<|Rl 4 a2 (fun _ hs=>hs)<|?_
 have bE:=aD a1 an
 refine R0 5 rfl<|b7 (ub (ut r (u1 aH bE im) (ac (nr d) (ac (ni i.size g) ax))) j) mZ fun ek cV aP=>?_
 have bF:=ud bC (uz an aP) s
 refine bg (RC.fld (RC.upd bD aP (aa (Ne.symm (nb (am j) lr d)) aA) bF)) fun cW=>Rt 6 cW<|re<|tn<|rt<|tr<|bN cV (.int .i64 (((x49.wordsC (((aj.mk b false 0).byteV)/2)).endC).e))<|?_
 have el:=aq B (us al (us bE aP)) (fun x hx=>(aa (fun e=>(aB (am U) (le (le o.size F.size) G.size) B) (e▸hx)) (aa (fun e=>(aB (am l) (le (le (le z.size o.size) F.size) G.size) B) (e▸hx)) (aa (fun e=>(aB (am j) (le (le (le (le i.size z.size) o.size) F.size) G.size) B) (e▸hx)) aA)))) (fun _ _ h=>h)
 rw[hs]
 exact bf aK bF
 have aK:=ag aJ
 refine bi<|sg<|?_
 refine L0<|bM (aW a1 (Ne.symm aG) cU)<|?_
 refine L0<|b7 (ub (ut r (u1 aH a1 im) (ac (nr d) (ac (ni i.size g) ax))) j) (mG c 0 0 0 0 0 0 0 0 0 0 0 (.slice bx ((x49.wordsR (((aj.mk b false 0).byteV)/2)).length) bz) nS nS nS 0 0 0 0 0 nS) fun em cX bG=>Pl 1<|nt<|rt<|bN cX (.int .i64 0)<|?_
 rw[hs]
 exact bo aK ⟨_,_,_,_,_,rfl,((aq B (us al (us a1 bG)) (fun x hx=>(aa (fun e=>(aB (am U) (le (le o.size F.size) G.size) B) (e▸hx)) (aa (fun e=>(aB (am l) (le (le (le z.size o.size) F.size) G.size) B) (e▸hx)) (aa (fun e=>(aB (am j) (le (le (le (le i.size z.size) o.size) F.size) G.size) B) (e▸hx)) aA)))) (fun _ _ h=>h))).rd,aL.nil ..,(fun _ _ _=>aL.nil ..),aL.nil ..,aL.nil ..,(ch (by omega))⟩ (ud bC bG s)
 have H:=(aF y).1
 have I:=(aF y).2
 have J:=(aF H).1
 have L:=(aF H).2
 have q35aap:=ak J
 have q35abp:=ak L
 have eo:=ak I
 refine sg<|Pl 3<|sy 68 J<|Pl 4<|nt<|cf L<|sg<|Pl 3<|nt<|cb ((c==6)) (fun C=>?_) (fun C=>?_)
 have cY:=ah C
 refine sg<|Pl 1<|?_
 have d0:RC w _ A cp b V k (aj.mk b false 0):=⟨hsl,t,(Nat.le_trans f.size d),⟨0,(ub S l),Nat.zero_le _,rfl⟩,by omega⟩
 refine L0<|Oc<|m3 (cN d0) fun ep d1 bI er=>Pl 1<|?_
 have a3:=nb (am l) lr g
 refine L0<|bX (aW bI (Ne.symm a3) W) 2 (mG c 0 ((aj.mk b false 0).wordV) 0 0 0 0 0 0 0 0 0 nS nS nS nS 0 0 0 0 0 nS) fun es d2 bJ=>nt<|go<|Pl 1<|?_
 have aQ:=us bI bJ
 have bK:=ut t aQ (ac (ni f.size d) (ac (ni (le f.size i.size) g) ax))
 refine L0<|Oc<|m3 (cN (RC.upd d1 bJ (aa a3 aA) bK)) fun eu d3 bL ev=>Pl 1<|?_
 refine L0<|bX (aW bL (Ne.symm a3) d2) 4 (mG c 0 ((aj.mk b false 0).wordV) 0 (((aj.mk b false 0).wordsC 1).wordV) 0 0 0 0 0 0 0 nS nS nS nS 0 0 0 0 0 nS) fun ew d4 bO=>nl<|bn<|tn<|sg<|Pl 1<|?_
 have aR:=us bL bO
 have bP:=ut bK aR (ac (ni f.size d) (ac (ni (le f.size i.size) g) ax))
 refine L0<|Oc<|m2 (et (RC.upd d3 bO (aa a3 aA) bP)) fun ex aS ao=>nt<|sq<|sg<|Pl 3<|L0<|eq (p:=⟨k,3,none⟩) (v:=.int .i64 (((((aj.mk b false 0).wordsC 1).wordsC 1).endC).e)) (RC.fld aS)<|Pl 1<|nt<|?_
 have bQ:=ud bP ao (le f.size d)
 have hs:ai aM 1 c b=b6 (aO.mk c 0 ((aj.mk b false 0).wordV) 0 (((aj.mk b false 0).wordsC 1).wordV) 0 0 0 0 0 0 0 [] [] [] [] 0 0 0 0 0 []) (((aj.mk b false 0).wordsC 1).wordsC 1):=by
   unfold ai aM bZ ck dL d7 cT d8 cZ kz
   (try simp only[y,H,J,L,I,C,bs,if_true,if_false,decide_true,decide_false,eq_self,true_or,or_true,or_false,false_or,if_true,if_false,dC,dD,dB,dA,reduceIte,qF,qZ])
   all_goals rfl
 refine cb (((((((aj.mk b false 0).wordsC 1).wordsC 1).endC).e)!=0)) (fun aT=>?_) (fun aT=>?_)
 have aV:=ay aT
 refine sq<|Rg 7 (fun w'=>w'.cell? ⟨k,3,none⟩=some (.int .i64 (((((aj.mk b false 0).wordsC 1).wordsC 1).endC).e))) fun ey ap=>?_
 have bR:=RC.upd aS ap aA (aC.step (RC.u aS) ap)
 refine bg (RC.fld bR) fun a4=>Rt 0 a4<|Rt 1 a4<|Rt 2 a4<|Rt 3 a4<|Rl 4 a4 (fun _ hs=>hs)<|?_
 refine R0 5 rfl<|b7 (ub (ut r (ut aQ (u1 aR (aD ao ap) im) (ac im (ac im ax))) (ac (nr d) (ac (ni i.size g) ax))) j) mZ fun ez d5 bS=>?_
 have bT:=ud bQ (uz ap bS) s
 refine bg (RC.fld (RC.upd bR bS (aa (Ne.symm (nb (am j) lr d)) aA) bT)) fun d6=>Rt 6 d6<|re<|tn<|rt<|tr<|bN d5 (.int .i64 (((((aj.mk b false 0).wordsC 1).wordsC 1).endC).e))<|?_
 rw[hs]
 exact bf aV bT
 have aV:=ag aT
 refine bi<|sg<|?_
 refine L0<|bM (aW ao (Ne.symm a3) d4)<|?_
 refine L0<|b7 (ub (ut r (ut aQ (u1 aR ao im) (ac im (ac im ax))) (ac (nr d) (ac (ni i.size g) ax))) j) (mG c 0 ((aj.mk b false 0).wordV) 0 (((aj.mk b false 0).wordsC 1).wordV) 0 0 0 0 0 0 0 nS nS nS nS 0 0 0 0 0 nS) fun eA d9 da=>Pl 1<|nt<|rt<|bN d9 (.int .i64 0)<|?_
 rw[hs]
 exact bo aV ⟨_,_,_,_,_,rfl,aL.nil ..,aL.nil ..,(fun _ _ _=>aL.nil ..),aL.nil ..,aL.nil ..,(ch (by omega))⟩ (ud bQ da s)
 have cY:=ak C
 refine sg<|Pl 3<|nt<|cb ((c==16)) (fun M=>?_) (fun M=>?_)
 have db:=ah M
 refine sg<|Pl 1<|?_
 have dc:RC w _ A cp b V k (aj.mk b false 0):=⟨hsl,t,(Nat.le_trans f.size d),⟨0,(ub S l),Nat.zero_le _,rfl⟩,by omega⟩
 refine L0<|Oc<|m3 (cN dc) fun eB dd bU eC=>Pl 1<|?_
 have a5:=nb (am l) lr g
 refine L0<|bX (aW bU (Ne.symm a5) W) 2 (mG c 0 ((aj.mk b false 0).wordV) 0 0 0 0 0 0 0 0 0 nS nS nS nS 0 0 0 0 0 nS) fun eD bV bW=>ng<|Pl 2<|L0<|aN bV 2<|?_
 have aX:=us bU bW
 have bY:=ut t aX (ac (ni f.size d) (ac (ni (le f.size i.size) g) ax))
 refine L0<|Oc<|m3 (kM (a:=(aj.mk b false 0).wordV) (most:=123) (by omega) (RC.upd dd bW (aa a5 aA) bY)) fun eE de c1 eF=>?_
 refine fP de fun a6 df dg=>?_
 refine L0<|wZ (((aj.mk b false 0).wordsC 1).wordV)<|Pl 1<|?_
 refine L0<|bX (aW c1 (Ne.symm a5) bV) 3 (mG c 0 ((aj.mk b false 0).wordV) (((aj.mk b false 0).wordsC 1).wordV) 0 0 0 0 0 0 0 0 nS nS nS nS 0 0 0 0 0 nS) fun eG dh c2=>ng<|Pl 2<|nt<|c0<|sk<|bn<|tn<|sg<|?_
 refine Pl 1<|?_
 have aZ:=us c1 c2
 have c3:=ut bY aZ (ac (ni f.size d) (ac (ni (le f.size i.size) g) ax))
 refine L0<|Oc<|m2 (et (RC.upd dg c2 (aa a5 aA) c3)) fun eH b0 ar=>nt<|sq<|sg<|Pl 3<|L0<|eq (p:=⟨k,3,none⟩) (v:=.int .i64 a6.endC.e) (RC.fld b0)<|Pl 1<|nt<|?_
 have c4:=ud c3 ar (le f.size d)
 have hs:ai aM 1 c b=b6 (aO.mk c 0 ((aj.mk b false 0).wordV) (((aj.mk b false 0).wordsC 1).wordV) 0 0 0 0 0 0 0 0 [] [] [] [] 0 0 0 0 0 []) a6:=by
   subst df
   unfold ai aM bZ ck dL d7 cT d8 cZ kz
   (try simp only[y,H,J,L,I,C,M,bs,if_true,if_false,decide_true,decide_false,eq_self,true_or,or_true,or_false,false_or,if_true,if_false,dC,dD,dB,dA,reduceIte,qF,qZ])
   all_goals rfl
 refine cb ((a6.endC.e != 0)) (fun b1=>?_) (fun b1=>?_)
 have b2:=ay b1
 refine sq<|Rg 7 (fun w'=>w'.cell? ⟨k,3,none⟩=some (.int .i64 a6.endC.e)) fun eI au=>?_
 have c5:=RC.upd b0 au aA (aC.step (RC.u b0) au)
 refine bg (RC.fld c5) fun a7=>Rt 0 a7<|Rt 1 a7<|Rt 2 a7<|Rt 3 a7<|Rl 4 a7 (fun _ hs=>hs)<|?_
 refine R0 5 rfl<|b7 (ub (ut r (ut aX (u1 aZ (aD ar au) im) (ac im (ac im ax))) (ac (nr d) (ac (ni i.size g) ax))) j) mZ fun eJ di c6=>?_
 have c7:=ud c4 (uz au c6) s
 refine bg (RC.fld (RC.upd c5 c6 (aa (Ne.symm (nb (am j) lr d)) aA) c7)) fun dj=>Rt 6 dj<|re<|tn<|rt<|tr<|bN di (.int .i64 a6.endC.e)<|?_
 rw[hs]
 exact bf b2 c7
 have b2:=ag b1
 refine bi<|sg<|?_
 refine L0<|bM (aW ar (Ne.symm a5) dh)<|?_
 refine L0<|b7 (ub (ut r (ut aX (u1 aZ ar im) (ac im (ac im ax))) (ac (nr d) (ac (ni i.size g) ax))) j) (mG c 0 ((aj.mk b false 0).wordV) (((aj.mk b false 0).wordsC 1).wordV) 0 0 0 0 0 0 0 0 nS nS nS nS 0 0 0 0 0 nS) fun eK dk dl=>Pl 1<|nt<|rt<|bN dk (.int .i64 0)<|?_
 rw[hs]
 exact bo b2 ⟨_,_,_,_,_,rfl,aL.nil ..,aL.nil ..,(fun _ _ _=>aL.nil ..),aL.nil ..,aL.nil ..,(ch (by omega))⟩ (ud c4 dl s)
 have db:=ak M
 refine sg<|Pl 3<|nt<|cb ((c==22)) (fun T=>?_) (fun T=>?_)
 have dm:=ah T
 refine sg<|Pl 1<|?_
 have dn:RC w _ A cp b V k (aj.mk b false 0):=⟨hsl,t,(Nat.le_trans f.size d),⟨0,(ub S l),Nat.zero_le _,rfl⟩,by omega⟩
 refine L0<|Oc<|m3 (cN dn) fun eL dp c8 eM=>Pl 1<|?_
 have N:=nb (am l) lr g
 refine L0<|bX (aW c8 (Ne.symm N) W) 2 (mG c 0 ((aj.mk b false 0).wordV) 0 0 0 0 0 0 0 0 0 nS nS nS nS 0 0 0 0 0 nS) fun eN dr c9=>ng<|Pl 1<|?_
 have b3:=us c8 c9
 have ca:=ut t b3 (ac (ni f.size d) (ac (ni (le f.size i.size) g) ax))
 refine L0<|Oc<|m3 (cN (RC.upd dp c9 (aa N aA) ca)) fun eO ds cc eP=>Pl 1<|?_
 refine L0<|bX (aW cc (Ne.symm N) dr) 5 (mG c 0 ((aj.mk b false 0).wordV) 0 0 (((aj.mk b false 0).wordsC 1).wordV) 0 0 0 0 0 0 nS nS nS nS 0 0 0 0 0 nS) fun eQ dt cd=>nt<|go<|Pl 1<|?_
 have b4:=us cc cd
 have cg:=ut ca b4 (ac (ni f.size d) (ac (ni (le f.size i.size) g) ax))
 refine L0<|Oc<|m3 (cN (RC.upd ds cd (aa N aA) cg)) fun eR du ci eS=>Pl 1<|?_
 refine L0<|bX (aW ci (Ne.symm N) dt) 6 (mG c 0 ((aj.mk b false 0).wordV) 0 0 (((aj.mk b false 0).wordsC 1).wordV) ((((aj.mk b false 0).wordsC 1).wordsC 1).wordV) 0 0 0 0 0 nS nS nS nS 0 0 0 0 0 nS) fun eT dv cj=>nl<|bn<|tn<|sg<|Pl 1<|?_
 have b5:=us ci cj
 have cl:=ut cg b5 (ac (ni f.size d) (ac (ni (le f.size i.size) g) ax))
 refine L0<|Oc<|m2 (et (RC.upd du cj (aa N aA) cl)) fun eU b8 av=>nt<|sq<|sg<|Pl 3<|L0<|eq (p:=⟨k,3,none⟩) (v:=.int .i64 ((((((aj.mk b false 0).wordsC 1).wordsC 1).wordsC 1).endC).e)) (RC.fld b8)<|Pl 1<|nt<|?_
 have cm:=ud cl av (le f.size d)
 have hs:ai aM 1 c b=b6 (aO.mk c 0 ((aj.mk b false 0).wordV) 0 0 (((aj.mk b false 0).wordsC 1).wordV) ((((aj.mk b false 0).wordsC 1).wordsC 1).wordV) 0 0 0 0 0 [] [] [] [] 0 0 0 0 0 []) ((((aj.mk b false 0).wordsC 1).wordsC 1).wordsC 1):=by
   unfold ai aM bZ ck dL d7 cT d8 cZ kz
   (try simp only[y,H,J,L,I,C,M,T,bs,if_true,if_false,decide_true,decide_false,eq_self,true_or,or_true,or_false,false_or,if_true,if_false,dC,dD,dB,dA,reduceIte,qF,qZ])
   all_goals rfl
 refine cb ((((((((aj.mk b false 0).wordsC 1).wordsC 1).wordsC 1).endC).e)!=0)) (fun ba=>?_) (fun ba=>?_)
 have bb:=ay ba
 refine sq<|Rg 7 (fun w'=>w'.cell? ⟨k,3,none⟩=some (.int .i64 ((((((aj.mk b false 0).wordsC 1).wordsC 1).wordsC 1).endC).e))) fun eV aw=>?_
 have cn:=RC.upd b8 aw aA (aC.step (RC.u b8) aw)
 refine bg (RC.fld cn) fun a8=>Rt 0 a8<|Rt 1 a8<|Rt 2 a8<|Rt 3 a8<|Rl 4 a8 (fun _ hs=>hs)<|?_
 refine R0 5 rfl<|b7 (ub (ut r (ut b3 (ut b4 (u1 b5 (aD av aw) im) (ac im (ac im ax))) (ac im (ac im ax))) (ac (nr d) (ac (ni i.size g) ax))) j) mZ fun eW dw cq=>?_
 have cr:=ud cm (uz aw cq) s
 refine bg (RC.fld (RC.upd cn cq (aa (Ne.symm (nb (am j) lr d)) aA) cr)) fun dx=>Rt 6 dx<|re<|tn<|rt<|tr<|bN dw (.int .i64 ((((((aj.mk b false 0).wordsC 1).wordsC 1).wordsC 1).endC).e))<|?_
 rw[hs]
 exact bf bb cr
 have bb:=ag ba
 refine bi<|sg<|?_
 refine L0<|bM (aW av (Ne.symm N) dv)<|?_
 refine L0<|b7 (ub (ut r (ut b3 (ut b4 (u1 b5 av im) (ac im (ac im ax))) (ac im (ac im ax))) (ac (nr d) (ac (ni i.size g) ax))) j) (mG c 0 ((aj.mk b false 0).wordV) 0 0 (((aj.mk b false 0).wordsC 1).wordV) ((((aj.mk b false 0).wordsC 1).wordsC 1).wordV) 0 0 0 0 0 nS nS nS nS 0 0 0 0 0 nS) fun eX dy dz=>Pl 1<|nt<|rt<|bN dy (.int .i64 0)<|?_
 rw[hs]
 exact bo bb ⟨_,_,_,_,_,rfl,aL.nil ..,aL.nil ..,(fun _ _ _=>aL.nil ..),aL.nil ..,aL.nil ..,(ch (by omega))⟩ (ud cm dz s)
 have dm:=ak T
 refine sg<|Pl 3<|nt<|cf I<|sg<|Pl 3<|cu 3 [168] 171 (false) (fun K cs=>?_) ?_
 refine bl 168 ((c==24)) (fun bc=>?_) (fun bc=>?_)
 have dE:=ah bc
 exact Pl 3<|ce cs false rfl
 have dE:=ak bc
 exact Pl 3<|ce cs false rfl
 refine Pl 1<|nt<|c0<|sg<|Pl 3<|nt<|cb ((c==24)) (fun a9=>?_) (fun a9=>?_)
 have dF:=ah a9
 refine sg<|Pl 1<|?_
 have dG:RC w _ A cp b V k (aj.mk b false 0):=⟨hsl,t,(Nat.le_trans f.size d),⟨0,(ub S l),Nat.zero_le _,rfl⟩,by omega⟩
 refine L0<|Oc<|m3 (cN dG) fun eY dH O eZ=>L0<|Oi ((aj.mk b false 0).wordV)<|Pl 1<|ng<|Pl 2<|L0<|Oe (.int .i64 (Int.tmod ((aj.mk b false 0).wordV) 2)) (.int .i64 (((aj.mk b false 0).wordV)%2)) (congrArg (Value.int .i64) (Int.tmod_eq_emod_of_nonneg (by omega)))<|Pl 2<|cu 3 [185] 188 ((((((aj.mk b false 0).wordV)%2)==0)&&(decide (2≤((aj.mk b false 0).wordV))))) (fun K ct=>?_) ?_
 refine bl 185 (((((aj.mk b false 0).wordV)%2)==0)) (fun ab=>?_) (fun ab=>?_)
 have dI:=ah ab
 exact Pl 3<|ce ct (decide (2≤((aj.mk b false 0).wordV))) (by rw[ab];rfl)
 have dI:=ak ab
 exact Pl 3<|ce ct false (by rw[ab];rfl)
 refine Pl 1<|cu 3 [189] 192 (((((((aj.mk b false 0).wordV)%2)==0)&&(decide (2≤((aj.mk b false 0).wordV))))&&(decide (((aj.mk b false 0).wordV)≤64)))) (fun K cv=>?_) ?_
 refine bl 189 ((((((aj.mk b false 0).wordV)%2)==0)&&(decide (2≤((aj.mk b false 0).wordV))))) (fun ad=>?_) (fun ad=>?_)
 have dJ:=(aU ad).1
 have dK:=(aU ad).2
 have f0:=ah dJ
 have f1:=of_decide_eq_true dK
 exact Pl 3<|ce cv (decide (((aj.mk b false 0).wordV)≤64)) (by rw[ad];rfl)
 exact Pl 3<|ce cv false (by rw[ad];rfl)
 refine L0<|Oc<|m2 (aY (((((((aj.mk b false 0).wordV)%2)==0)&&(decide (2≤((aj.mk b false 0).wordV))))&&(decide (((aj.mk b false 0).wordV)≤64)))) 5 dH) fun f2 dM P=>?_
 refine fP dM fun q dN dO=>?_
 refine ng<|Pl 1<|L0<|Oc<|m3 (cN dO) fun f3 dP Q f4=>L0<|Oi q.wordV<|Pl 1<|ng<|Pl 3<|L0<|Oi (2*q.wordV)<|?_
 refine L0<|Oi ((2*q.wordV)+2)<|Pl 1<|L0<|Oc<|m2 (aY ((((aj.mk b false 0).wordV)==((2*q.wordV)+2))) 5 dP) fun f5 dQ R=>?_
 refine fP dQ fun D dR dS=>?_
 refine nt<|go<|Pl 2<|L0<|Oc<|nf (ge (n:=q.wordV) (by omega) dS) fun cw cx f6 E f7 f8 dT dU=>Pl 1<|?_
 have cy:=u1 O (u1 P (u1 Q (u1 R dU im) im) im) im
 have bd:=nb (am l) lr g
 refine L0<|bX (aW cy (Ne.symm bd) W) 12 (mG c 0 0 0 0 0 0 0 0 0 0 0 (.slice cw ((D.wordsR q.wordV).length) cx) nS nS nS 0 0 0 0 0 nS) fun f9 dV az=>nl<|bn<|tn<|sg<|Pl 1<|?_
 have be:=us cy az
 have cz:=ut t be (ac (ni f.size d) (ac (ni (le f.size i.size) g) ax))
 refine L0<|Oc<|m2 (et (RC.upd dT az (aa bd aA) cz)) fun fa bh ae=>nt<|sq<|sg<|Pl 3<|L0<|eq (p:=⟨k,3,none⟩) (v:=.int .i64 (((D.wordsC q.wordV).endC).e)) (RC.fld bh)<|Pl 1<|nt<|?_
 have cA:=ud cz ae (le f.size d)
 have hs:ai aM 1 c b=b6 (aO.mk c 0 0 0 0 0 0 0 0 0 0 0 (D.wordsR q.wordV) [] [] [] 0 0 0 0 0 []) (D.wordsC q.wordV):=by
   subst dR dN
   unfold ai aM bZ ck dL d7 cT d8 cZ kz
   (try simp only[y,H,J,L,I,C,M,T,a9,bs,if_true,if_false,decide_true,decide_false,eq_self,true_or,or_true,or_false,false_or,if_true,if_false,dC,dD,dB,dA,reduceIte,qF,qZ])
   all_goals rfl
 refine cb (((((D.wordsC q.wordV).endC).e)!=0)) (fun bj=>?_) (fun bj=>?_)
 have bm:=ay bj
 refine sq<|Rg 7 (fun w'=>w'.cell? ⟨k,3,none⟩=some (.int .i64 (((D.wordsC q.wordV).endC).e))) fun fb aE=>?_
 have cB:=RC.upd bh aE aA (aC.step (RC.u bh) aE)
 refine bg (RC.fld cB) fun af=>Rt 0 af<|Rt 1 af<|Rt 2 af<|Rt 3 af<|Rl 4 af (fun _ hs=>hs)<|?_
 have cC:=aD ae aE
 refine R0 5 rfl<|b7 (ub (ut r (u1 be cC im) (ac (nr d) (ac (ni i.size g) ax))) j) mZ fun fc dW bp=>?_
 have cD:=ud cA (uz aE bp) s
 refine bg (RC.fld (RC.upd cB bp (aa (Ne.symm (nb (am j) lr d)) aA) cD)) fun dY=>Rt 6 dY<|re<|tn<|rt<|tr<|bN dW (.int .i64 (((D.wordsC q.wordV).endC).e))<|?_
 have fd:=aq E (us az (us cC bp)) (fun x hx=>(aa (fun e=>(aB (am U) (le (le (le (le o.size O.size) P.size) Q.size) R.size) E) (e▸hx)) (aa (fun e=>(aB (am l) (le (le (le (le (le z.size o.size) O.size) P.size) Q.size) R.size) E) (e▸hx)) (aa (fun e=>(aB (am j) (le (le (le (le (le (le i.size z.size) o.size) O.size) P.size) Q.size) R.size) E) (e▸hx)) aA)))) (fun _ _ h=>h)
 rw[hs]
 exact bf bm cD
 have bm:=ag bj
 refine bi<|sg<|?_
 refine L0<|bM (aW ae (Ne.symm bd) dV)<|?_
 refine L0<|b7 (ub (ut r (u1 be ae im) (ac (nr d) (ac (ni i.size g) ax))) j) (mG c 0 0 0 0 0 0 0 0 0 0 0 (.slice cw ((D.wordsR q.wordV).length) cx) nS nS nS 0 0 0 0 0 nS) fun fe dZ cE=>Pl 1<|nt<|rt<|bN dZ (.int .i64 0)<|?_
 rw[hs]
 exact bo bm ⟨_,_,_,_,_,rfl,((aq E (us az (us ae cE)) (fun x hx=>(aa (fun e=>(aB (am U) (le (le (le (le o.size O.size) P.size) Q.size) R.size) E) (e▸hx)) (aa (fun e=>(aB (am l) (le (le (le (le (le z.size o.size) O.size) P.size) Q.size) R.size) E) (e▸hx)) (aa (fun e=>(aB (am j) (le (le (le (le (le (le i.size z.size) o.size) O.size) P.size) Q.size) R.size) E) (e▸hx)) aA)))) (fun _ _ h=>h))).rd,aL.nil ..,(fun _ _ _=>aL.nil ..),aL.nil ..,aL.nil ..,(ch (by omega))⟩ (ud cA cE s)
 have dF:=ak a9
 refine sg<|Pl 1<|?_
 refine L0<|b7 (ub r j) mZ fun ff e0 e1=>Pl 1<|nt<|rt<|br<|tr<|bN e0 (.int .i64 4)<|?_
 have hs:ai aM 1 c b=(aO.zero,4):=by
   unfold ai aM bZ ck dL d7 cT d8 cZ kz
   (try simp only[y,H,J,L,I,C,M,T,a9,bs,if_true,if_false,decide_true,decide_false,eq_self,true_or,or_true,or_false,false_or,if_true,if_false,dC,dD,dB,dA,reduceIte,qF,qZ])
   all_goals rfl
 rw[hs]
 exact bu (ud t e1 s)
theorem md{m:Md}{A:Option Addr}{cp:Nat}{b:List Int}{w:World}{dir c:Int}(hcode:B8 c)(hsl:b9 m w (.slice A b.length cp) b)(hb:b.length≤1048576)(hd:¬ (dir=0∨dir=1)) :
    Calls Tryz.prog 94 #[.int .i64 dir,.int .u8 c,.slice A b.length cp] w (co (.slice A b.length cp) b (ai aM dir c b) w):=by
 obtain⟨hcode1,hcode2⟩:=hcode
 have hln:(b.length:Int)≤1048576:=by omega
 have e0:(dir != 0)=true:=by simp;omega
 have e1:(dir != 1)=true:=by simp;omega
 refine en 221 Tryz.func94 rfl<|sg<|L0<|bH mZ fun g h a d e=>Pl 1<|nt<|sq<|sg<|Pl 3<|sy 18 e0<|Pl 3<|nl<|?_
 refine tn<|ct e1<|sg<|Pl 1<|L0<|b7 d mZ fun i dr f=>Pl 1<|nt<|rt<|tr<|bN dr (.int .i64 1)<|?_
 have hs:ai aM dir c b=(aO.zero,1):=by
   unfold ai aM bZ ck dL d7 cT d8 cZ kz
   (try simp only[e0,e1,bs,if_true,if_false,decide_true,decide_false,eq_self,true_or,or_true,or_false,false_or,if_true,if_false,dC,dD,dB,dA,reduceIte,hd,qF,qZ])
   all_goals rfl
 rw[hs]
 exact bu (ud e f a)
open Go.RowKit
def eP (dir:Int)(C:aj) : aj:=(C.wordsC 1).need (er C.wordV&&((C.wordV != 4)||(dir==0))) 8
theorem kx{C:aj}:eP 0 C=(C.wordsC 1).need (er C.wordV) 8:=by
  unfold eP
  rw[show((0:Int)==0)=true from rfl,Bool.or_true,Bool.and_true]
theorem kq{C:aj}:eP 1 C=(C.wordsC 1).need (er C.wordV&&(C.wordV != 4)) 8:=by
  unfold eP
  rw[show((1:Int)==0)=false from rfl,Bool.or_false]
def ep (dir c:Int)(C:aj) : aj × aO :=
  if C.wordV==0 then ((j9 (eP dir C)).wordsC (((eP dir C).l.length:Int)/2),{ aO.zero with code:=c,sub:=C.wordV,words:=(j9 (eP dir C)).wordsR (((eP dir C).l.length:Int)/2) })
  else (((eP dir C).wordsC 1).need (fh dir C.wordV (eP dir C).wordV) 6,{ aO.zero with code:=c,sub:=C.wordV,words:=[(eP dir C).wordV] })
def dH (c:Int)(C:aj) : aj × aO :=
  if c==7 then (C.bytesC 1,{ aO.zero with code:=c,value:=C.byteV })
  else if c==11 then ((dy C).wordsC 1,{ aO.zero with code:=c,status:=C.wordV,events:=(dy C).wordV })
  else if c==12 then ((fK C).bytesC (C.byteV-6),{ aO.zero with code:=c,status:=(fg C 6 70).wordV,events:=(dy (fg C 6 70)).wordV,messages:=((dy (fg C 6 70)).wordsC 1).wordV,data:=(fK C).bytesR (C.byteV-6) })
  else ((fg C 1 251).bytesC C.byteV,{ aO.zero with code:=c,data:=(fg C 1 251).bytesR C.byteV })
def bB (dir c:Int)(C:aj) : Option (aj × aO) :=
  if ((((c != 7)&&(c != 8))&&(c != 11))&&(c != 12))&&(c != 17) then none
  else if c==8 then some (ep dir c C)
  else if dir==0 then some (C,{ aO.zero with code:=c })
  else some (dH c C)
theorem lY{m:Md}{A:Option Addr}{cp:Nat}{b:List Int}{w:World}{c:Int}(hcode:B8 c)(hsl:b9 m w (.slice A b.length cp) b)(hb:b.length≤1048576) :
    Calls Tryz.prog 95 #[.int .i64 0,.int .u8 c,.slice A b.length cp] w (co (.slice A b.length cp) b (ai bB 0 c b) w):=by
 obtain⟨hcode1,hcode2⟩:=hcode
 have hln:(b.length:Int)≤1048576:=by omega
 refine en 197 Tryz.func95 rfl<|sg<|L0<|bH mZ fun cJ cK G g i=>Pl 1<|nt<|sq<|sg<|Pl 6<|nt<|c0<|?_
 refine bi<|sq<|sg<|Pl 3<|cu 3 [24] 27 (((c != 7)&&(c != 8))) (fun K aQ=>?_) ?_
 refine bl 24 ((c != 7)) (fun N=>?_) (fun N=>?_)
 have bS:=ay N
 exact Pl 3<|ce aQ (c != 8) (by rw[N];rfl)
 have bS:=ag N
 exact Pl 3<|ce aQ false (by rw[N];rfl)
 refine Pl 1<|cu 3 [28] 31 ((((c != 7)&&(c != 8))&&(c != 11))) (fun K aR=>?_) ?_
 refine bl 28 (((c != 7)&&(c != 8))) (fun O=>?_) (fun O=>?_)
 have bT:=(aU O).1
 have bU:=(aU O).2
 have cM:=ay bT
 have cO:=ay bU
 exact Pl 3<|ce aR (c != 11) (by rw[O];rfl)
 exact Pl 3<|ce aR false (by rw[O];rfl)
 refine Pl 1<|cu 3 [32] 35 (((((c != 7)&&(c != 8))&&(c != 11))&&(c != 12))) (fun K aS=>?_) ?_
 refine bl 32 ((((c != 7)&&(c != 8))&&(c != 11))) (fun P=>?_) (fun P=>?_)
 have aT:=(aU P).1
 have bV:=(aU P).2
 have bW:=(aU aT).1
 have bY:=(aU aT).2
 have q19aap:=ay bW
 have q19abp:=ay bY
 have cP:=ay bV
 exact Pl 3<|ce aS (c != 12) (by rw[P];rfl)
 exact Pl 3<|ce aS false (by rw[P];rfl)
 refine Pl 1<|cu 3 [36] 39 ((((((c != 7)&&(c != 8))&&(c != 11))&&(c != 12))&&(c != 17))) (fun K aV=>?_) ?_
 refine bl 36 (((((c != 7)&&(c != 8))&&(c != 11))&&(c != 12))) (fun Q=>?_) (fun Q=>?_)
 have aX:=(aU Q).1
 have bZ:=(aU Q).2
 have aZ:=(aU aX).1
 have c2:=(aU aX).2
 have q21aaa:=(aU aZ).1
 have q21aab:=(aU aZ).2
 have q21aaap:=ay q21aaa
 have q21aabp:=ay q21aab
 have q21abp:=ay c2
 have cQ:=ay bZ
 exact Pl 3<|ce aV (c != 17) (by rw[Q];rfl)
 exact Pl 3<|ce aV false (by rw[Q];rfl)
 refine nt<|cb ((((((c != 7)&&(c != 8))&&(c != 11))&&(c != 12))&&(c != 17))) (fun H=>?_) (fun H=>?_)
 have ab:=(aU H).1
 have b0:=(aU H).2
 have ad:=(aU ab).1
 have b1:=(aU ab).2
 have q23aaa:=(aU ad).1
 have q23aab:=(aU ad).2
 have q23aaaa:=(aU q23aaa).1
 have q23aaab:=(aU q23aaa).2
 have q23aaaap:=ay q23aaaa
 have q23aaabp:=ay q23aaab
 have q23aabp:=ay q23aab
 have q23abp:=ay b1
 have cR:=ay b0
 refine sg<|Pl 1<|L0<|b7 g mZ fun cS c3 c4=>Pl 1<|nt<|rt<|tr<|bN c3 (.int .i64 4)<|?_
 have hs:ai bB 0 c b=(aO.zero,4):=by
   unfold ai bB ep dH
   (try simp only[H,ab,ad,q23aaa,q23aaaa,q23aaab,q23aab,b1,b0,bs,if_true,if_false,decide_true,decide_false,eq_self,true_or,or_true,or_false,false_or,if_true,if_false,dC,dD,dB,dA,reduceIte,kx,kq])
   all_goals rfl
 rw[hs]
 exact bu (ud i c4 G)
 refine bi<|sg<|Pl 2<|L0<|dq #[.slice A b.length cp,.int .i64 0,.bool false,.int .i64 0] fun B cT a C q=>Pl 1<|ng<|Pl 2<|L0<|bH mZ fun cU cV r R t=>L0<|b7 R (mC c) fun b2 b3 k=>?_
 refine nt<|sq<|bk<|sg<|Pl 3<|nt<|?_
 have ae:=ud t k r
 have I:=aD q ae
 have a3:=aD i I
 refine cb ((c==8)) (fun M=>?_) (fun M=>?_)
 have c5:=ah M
 refine sg<|Pl 1<|?_
 have c6:RC w _ A cp b b2 B (aj.mk b false 0):=⟨hsl,a3,(Nat.le_trans i.size a),⟨0,(ub ae C),Nat.zero_le _,rfl⟩,by omega⟩
 refine L0<|Oc<|m3 (cN c6) fun cW c7 j cX=>Pl 1<|?_
 have s:=nb (am C) lr r
 refine L0<|bX (aW j (Ne.symm s) b3) 8 (mG c 0 0 0 0 0 0 0 ((aj.mk b false 0).wordV) 0 0 0 nS nS nS nS 0 0 0 0 0 nS) fun c8 af o=>ng<|Pl 1<|L0<|aN af 8<|L0<|Oc<|m1 (yR (x:=(aj.mk b false 0).wordV) (w:=c8) (by omega)) fun cY f=>Pl 1<|ng<|Pl 3<|cu 8 [72] 80 ((er ((aj.mk b false 0).wordV))) (fun K b4=>?_) ?_
 refine bl 72 ((er ((aj.mk b false 0).wordV))) (fun al=>?_) (fun al=>?_)
 refine Pl 1<|?_
 refine L1<|aN (ub f af) 8<|Pl 2<|cu 3 [76] 79 (true) (fun K b5=>?_) ?_
 refine bl 76 ((((aj.mk b false 0).wordV)!=4)) (fun an=>?_) (fun an=>?_)
 have c9:=ay an
 exact Pl 3<|ce b5 true rfl
 have c9:=ag an
 exact Pl 3<|ce b5 true rfl
 exact Pl 1<|ce b4 true al
 exact Pl 8<|ce b4 false al
 have b8:=aD o f
 have S:=us j b8
 have ba:=ut a3 S (ac (ni i.size a) (ac (ni (le i.size q.size) r) ax))
 refine L0<|Oc<|m2 (aY ((er ((aj.mk b false 0).wordV))) 8 (RC.upd c7 b8 (aa s aA) ba)) fun cZ ca d=>?_
 refine fP ca fun x70 bb T=>?_
 refine nt<|sq<|sg<|Pl 1<|?_
 have ao:=aW (uz f d) (Ne.symm s) af
 refine L0<|aN ao 8<|Pl 1<|nt<|?_
 have bc:=ud ba d (le i.size a)
 refine cb ((((aj.mk b false 0).wordV)==0)) (fun U=>?_) (fun U=>?_)
 have cc:=ah U
 refine sg<|Pl 1<|L0<|Oc<|m1 (iF T) fun d0 y=>?_
 have d1:=RC.clen T
 refine Pl 1<|ng<|Pl 2<|L0<|Oe (.int .i64 (Int.tmod ((x70.l.length:Nat) : Int) 2)) (.int .i64 (((x70.l.length:Nat) : Int)%2)) (congrArg (Value.int .i64) (Int.tmod_eq_emod_of_nonneg (by omega)))<|Pl 2<|cu 3 [91] 94 ((((((x70.l.length:Nat) : Int)%2)==0)&&(decide (2≤((x70.l.length:Nat) : Int))))) (fun K bd=>?_) ?_
 refine bl 91 (((((x70.l.length:Nat) : Int)%2)==0)) (fun V=>?_) (fun V=>?_)
 have cd:=ah V
 exact Pl 3<|ce bd (decide (2≤((x70.l.length:Nat) : Int))) (by rw[V];rfl)
 have cd:=ak V
 exact Pl 3<|ce bd false (by rw[V];rfl)
 refine Pl 1<|cu 3 [95] 98 (((((((x70.l.length:Nat) : Int)%2)==0)&&(decide (2≤((x70.l.length:Nat) : Int))))&&(decide (((x70.l.length:Nat) : Int)≤250)))) (fun K be=>?_) ?_
 refine bl 95 ((((((x70.l.length:Nat) : Int)%2)==0)&&(decide (2≤((x70.l.length:Nat) : Int))))) (fun W=>?_) (fun W=>?_)
 have cf:=(aU W).1
 have cg:=(aU W).2
 have d2:=ah cf
 have d3:=of_decide_eq_true cg
 exact Pl 3<|ce be (decide (((x70.l.length:Nat) : Int)≤250)) (by rw[W];rfl)
 exact Pl 3<|ce be false (by rw[W];rfl)
 refine L0<|Oc<|m2 (aY (((((((x70.l.length:Nat) : Int)%2)==0)&&(decide (2≤((x70.l.length:Nat) : Int))))&&(decide (((x70.l.length:Nat) : Int)≤250)))) 5 (RC.upd T y aA (aC.step (RC.u T) y))) fun d4 ci J=>?_
 refine fP ci fun x88 cj ck=>?_
 refine ng<|Pl 2<|L0<|Oe (.int .i64 (IntKind.i64.wrap (Int.tdiv ((x70.l.length:Nat) : Int) 2))) (.int .i64 (((x70.l.length:Nat) : Int)/2)) (congrArg (Value.int .i64) (fY (by omega) (by omega)))<|L0<|Oc<|nf (ge (n:=(((x70.l.length:Nat) : Int)/2)) (by omega) ck) fun bh bj d5 D d6 d7 cl cm=>Pl 1<|?_
 have bm:=uz y (u1 J cm im)
 refine L0<|bX (aW bm (Ne.symm s) ao) 12 (mG c 0 0 0 0 0 0 0 ((aj.mk b false 0).wordV) 0 0 0 (.slice bh ((x88.wordsR (((x70.l.length:Nat) : Int)/2)).length) bj) nS nS nS 0 0 0 0 0 nS) fun d8 cn a4=>nt<|xt<|tx<|bx<|tn<|sg<|Pl 1<|?_
 have ap:=us bm a4
 have bp:=ut bc ap (ac (ni i.size a) (ac (ni (le i.size q.size) r) ax))
 refine L0<|Oc<|m2 (et (RC.upd cl a4 (aa s aA) bp)) fun d9 ar X=>nt<|sq<|sg<|Pl 3<|L0<|eq (p:=⟨B,3,none⟩) (v:=.int .i64 (((x88.wordsC (((x70.l.length:Nat) : Int)/2)).endC).e)) (RC.fld ar)<|Pl 1<|nt<|?_
 have bq:=ud bp X (le i.size a)
 have hs:ai bB 0 c b=b6 (aO.mk c 0 0 0 0 0 0 0 ((aj.mk b false 0).wordV) 0 0 0 (x88.wordsR (((x70.l.length:Nat) : Int)/2)) [] [] [] 0 0 0 0 0 []) (x88.wordsC (((x70.l.length:Nat) : Int)/2)):=by
   subst cj bb
   unfold ai bB ep dH
   (try simp only[H,M,U,bs,if_true,if_false,decide_true,decide_false,eq_self,true_or,or_true,or_false,false_or,if_true,if_false,dC,dD,dB,dA,reduceIte,kx,kq])
   all_goals rfl
 refine cb (((((x88.wordsC (((x70.l.length:Nat) : Int)/2)).endC).e)!=0)) (fun av=>?_) (fun av=>?_)
 have aw:=ay av
 refine sq<|Rg 7 (fun w'=>w'.cell? ⟨B,3,none⟩=some (.int .i64 (((x88.wordsC (((x70.l.length:Nat) : Int)/2)).endC).e))) fun da a5=>?_
 have br:=RC.upd ar a5 aA (aC.step (RC.u ar) a5)
 refine bg (RC.fld br) fun Y=>Rt 0 Y<|Rt 1 Y<|Rt 2 Y<|Rt 3 Y<|Rl 4 Y (fun _ hs=>hs)<|?_
 have bt:=aD X a5
 refine R0 5 rfl<|b7 (ub (ut I (ut S (ui d (u1 ap bt im)) (ac im (ac im ax))) (ac (nr a) (ac (ni q.size r) ax))) g) mZ fun db cq az=>?_
 have bv:=ud bq (uz a5 az) G
 refine bg (RC.fld (RC.upd br az (aa (Ne.symm (nb (am g) lr a)) aA) bv)) fun cr=>Rt 6 cr<|re<|tn<|rt<|tr<|bN cq (.int .i64 (((x88.wordsC (((x70.l.length:Nat) : Int)/2)).endC).e))<|?_
 have dc:=aq D (us a4 (us bt az)) (fun x hx=>(aa (fun e=>(aB (am R) (le (le (le (le (le (le k.size j.size) o.size) f.size) d.size) y.size) J.size) D) (e▸hx)) (aa (fun e=>(aB (am C) (le (le (le (le (le (le (le t.size k.size) j.size) o.size) f.size) d.size) y.size) J.size) D) (e▸hx)) (aa (fun e=>(aB (am g) (le (le (le (le (le (le (le (le q.size t.size) k.size) j.size) o.size) f.size) d.size) y.size) J.size) D) (e▸hx)) aA)))) (fun _ _ h=>h)
 rw[hs]
 exact bf aw bv
 have aw:=ag av
 refine bi<|sg<|?_
 refine L0<|bM (aW X (Ne.symm s) cn)<|?_
 refine L0<|b7 (ub (ut I (ut S (ui d (u1 ap X im)) (ac im (ac im ax))) (ac (nr a) (ac (ni q.size r) ax))) g) (mG c 0 0 0 0 0 0 0 ((aj.mk b false 0).wordV) 0 0 0 (.slice bh ((x88.wordsR (((x70.l.length:Nat) : Int)/2)).length) bj) nS nS nS 0 0 0 0 0 nS) fun dd cs bw=>Pl 1<|nt<|rt<|bN cs (.int .i64 0)<|?_
 rw[hs]
 exact bo aw ⟨_,_,_,_,_,rfl,((aq D (us a4 (us X bw)) (fun x hx=>(aa (fun e=>(aB (am R) (le (le (le (le (le (le k.size j.size) o.size) f.size) d.size) y.size) J.size) D) (e▸hx)) (aa (fun e=>(aB (am C) (le (le (le (le (le (le (le t.size k.size) j.size) o.size) f.size) d.size) y.size) J.size) D) (e▸hx)) (aa (fun e=>(aB (am g) (le (le (le (le (le (le (le (le q.size t.size) k.size) j.size) o.size) f.size) d.size) y.size) J.size) D) (e▸hx)) aA)))) (fun _ _ h=>h))).rd,aL.nil ..,(fun _ _ _=>aL.nil ..),aL.nil ..,aL.nil ..,(ch (by omega))⟩ (ud bq bw G)
 have cc:=ak U
 refine bi<|sg<|Pl 1<|L0<|Oc<|m3 (cN T) fun ct bz E de=>Pl 1<|ng<|Pl 3<|?_
 have bA:=aW E (Ne.symm s) ao
 refine L0<|aN bA 8<|Pl 1<|L0<|Oc<|m1 (yE (dir:=0) (sub:=(aj.mk b false 0).wordV) (v:=x70.wordV) (w:=ct) (by omega)) fun df z=>?_
 refine L0<|Oc<|m2 (aY ((fh 0 ((aj.mk b false 0).wordV) x70.wordV)) 6 (RC.upd bz z aA (aC.step (RC.u bz) z))) fun dg cv L=>?_
 refine fP cv fun Z cw cx=>?_
 refine nt<|go<|Pl 1<|L0<|cL (m:=1) (e:=24) #[.int .u16 x70.wordV] fun bC dh cy cz bD=>?_
 have F:=dK cy (xs:=[x70.wordV]) (by as_aux_lemma=>kernel_rfl) (au (by omega) aK) (by(try simp only[List.length_cons,List.length_nil]);omega) cz
 refine Pl 1<|?_
 have bE:=uz z (aD L bD)
 refine L0<|bX (aW bE (Ne.symm s) bA) 12 (mG c 0 0 0 0 0 0 0 ((aj.mk b false 0).wordV) 0 0 0 (.slice (some ⟨bC,0,none⟩) 1 1) nS nS nS 0 0 0 0 0 nS) fun di cA a6=>nl<|bn<|tn<|sg<|Pl 1<|?_
 have aE:=ui E (us bE a6)
 have bF:=ut bc aE (ac (ni i.size a) (ac (ni (le i.size q.size) r) ax))
 refine L0<|Oc<|m2 (et (RC.upd cx (uz bD a6) (aa s aA) bF)) fun dj aF a0=>nt<|sq<|sg<|Pl 3<|L0<|eq (p:=⟨B,3,none⟩) (v:=.int .i64 Z.endC.e) (RC.fld aF)<|Pl 1<|nt<|?_
 have bG:=ud bF a0 (le i.size a)
 have hs:ai bB 0 c b=b6 (aO.mk c 0 0 0 0 0 0 0 ((aj.mk b false 0).wordV) 0 0 0 [x70.wordV] [] [] [] 0 0 0 0 0 []) Z:=by
   subst cw bb
   unfold ai bB ep dH
   (try simp only[H,M,U,bs,if_true,if_false,decide_true,decide_false,eq_self,true_or,or_true,or_false,false_or,if_true,if_false,dC,dD,dB,dA,reduceIte,kx,kq])
   all_goals rfl
 refine cb ((Z.endC.e != 0)) (fun aG=>?_) (fun aG=>?_)
 have aH:=ay aG
 refine sq<|Rg 7 (fun w'=>w'.cell? ⟨B,3,none⟩=some (.int .i64 Z.endC.e)) fun dk a7=>?_
 have bI:=RC.upd aF a7 aA (aC.step (RC.u aF) a7)
 refine bg (RC.fld bI) fun a1=>Rt 0 a1<|Rt 1 a1<|Rt 2 a1<|Rt 3 a1<|Rl 4 a1 (fun _ hs=>hs)<|?_
 have bJ:=aD a0 a7
 refine R0 5 rfl<|b7 (ub (ut I (ut S (ui d (u1 aE bJ im)) (ac im (ac im ax))) (ac (nr a) (ac (ni q.size r) ax))) g) mZ fun dl cB aI=>?_
 have bK:=ud bG (uz a7 aI) G
 refine bg (RC.fld (RC.upd bI aI (aa (Ne.symm (nb (am g) lr a)) aA) bK)) fun cC=>Rt 6 cC<|re<|tn<|rt<|tr<|bN cB (.int .i64 Z.endC.e)<|?_
 have dm:=aq F (us a6 (us bJ aI)) (fun x hx=>(aa (fun e=>(aB (am R) (le (le (le (le (le (le (le k.size j.size) o.size) f.size) d.size) E.size) z.size) L.size) F) (e▸hx)) (aa (fun e=>(aB (am C) (le (le (le (le (le (le (le (le t.size k.size) j.size) o.size) f.size) d.size) E.size) z.size) L.size) F) (e▸hx)) (aa (fun e=>(aB (am g) (le (le (le (le (le (le (le (le (le q.size t.size) k.size) j.size) o.size) f.size) d.size) E.size) z.size) L.size) F) (e▸hx)) aA)))) (fun _ _ h=>h)
 rw[hs]
 exact bf aH bK
 have aH:=ag aG
 refine bi<|sg<|?_
 refine L0<|bM (aW a0 (Ne.symm s) cA)<|?_
 refine L0<|b7 (ub (ut I (ut S (ui d (u1 aE a0 im)) (ac im (ac im ax))) (ac (nr a) (ac (ni q.size r) ax))) g) (mG c 0 0 0 0 0 0 0 ((aj.mk b false 0).wordV) 0 0 0 (.slice (some ⟨bC,0,none⟩) 1 1) nS nS nS 0 0 0 0 0 nS) fun dn cD bL=>Pl 1<|nt<|rt<|bN cD (.int .i64 0)<|?_
 rw[hs]
 exact bo aH ⟨_,_,_,_,_,rfl,((aq F (us a6 (us a0 bL)) (fun x hx=>(aa (fun e=>(aB (am R) (le (le (le (le (le (le (le k.size j.size) o.size) f.size) d.size) E.size) z.size) L.size) F) (e▸hx)) (aa (fun e=>(aB (am C) (le (le (le (le (le (le (le (le t.size k.size) j.size) o.size) f.size) d.size) E.size) z.size) L.size) F) (e▸hx)) (aa (fun e=>(aB (am g) (le (le (le (le (le (le (le (le (le q.size t.size) k.size) j.size) o.size) f.size) d.size) E.size) z.size) L.size) F) (e▸hx)) aA)))) (fun _ _ h=>h))).rd,aL.nil ..,(fun _ _ _=>aL.nil ..),aL.nil ..,aL.nil ..,(ch (by omega))⟩ (ud bG bL G)
 have c5:=ak M
 refine sg<|Pl 3<|nt<|c1<|sk<|bn<|tn<|sg<|Pl 1<|?_
 have cE:RC w _ A cp b b2 B (aj.mk b false 0):=⟨hsl,a3,(Nat.le_trans i.size a),⟨0,(ub ae C),Nat.zero_le _,rfl⟩,by omega⟩
 refine L0<|Oc<|m2 (et cE) fun dp aJ a8=>nt<|sq<|sg<|Pl 3<|L0<|eq (p:=⟨B,3,none⟩) (v:=.int .i64 (((aj.mk b false 0).endC).e)) (RC.fld aJ)<|Pl 1<|nt<|?_
 have bO:=ud a3 a8 (le i.size a)
 have hs:ai bB 0 c b=b6 (aO.mk c 0 0 0 0 0 0 0 0 0 0 0 [] [] [] [] 0 0 0 0 0 []) (aj.mk b false 0):=by
   unfold ai bB ep dH
   (try simp only[H,M,bs,if_true,if_false,decide_true,decide_false,eq_self,true_or,or_true,or_false,false_or,if_true,if_false,dC,dD,dB,dA,reduceIte,kx,kq])
   all_goals rfl
 refine cb (((((aj.mk b false 0).endC).e)!=0)) (fun aM=>?_) (fun aM=>?_)
 have aP:=ay aM
 refine sq<|Rg 7 (fun w'=>w'.cell? ⟨B,3,none⟩=some (.int .i64 (((aj.mk b false 0).endC).e))) fun dr a9=>?_
 have bP:=RC.upd aJ a9 aA (aC.step (RC.u aJ) a9)
 refine bg (RC.fld bP) fun a2=>Rt 0 a2<|Rt 1 a2<|Rt 2 a2<|Rt 3 a2<|Rl 4 a2 (fun _ hs=>hs)<|?_
 refine R0 5 rfl<|b7 (ub (ud I (aD a8 a9) a) g) mZ fun ds cF bQ=>?_
 have bR:=ud bO (uz a9 bQ) G
 refine bg (RC.fld (RC.upd bP bQ (aa (Ne.symm (nb (am g) lr a)) aA) bR)) fun cG=>Rt 6 cG<|re<|tn<|rt<|tr<|bN cF (.int .i64 (((aj.mk b false 0).endC).e))<|?_
 rw[hs]
 exact bf aP bR
 have aP:=ag aM
 refine bi<|sg<|?_
 refine L0<|bM (aW a8 (Ne.symm (nb (am C) lr r)) b3)<|?_
 refine L0<|b7 (ub (ud I a8 a) g) (mC c) fun dt cH cI=>Pl 1<|nt<|rt<|bN cH (.int .i64 0)<|?_
 rw[hs]
 exact bo aP ⟨_,_,_,_,_,rfl,aL.nil ..,aL.nil ..,(fun _ _ _=>aL.nil ..),aL.nil ..,aL.nil ..,(ch (by omega))⟩ (ud bO cI G)
theorem lU{m:Md}{A:Option Addr}{cp:Nat}{b:List Int}{w:World}{c:Int}(hcode:B8 c)(hsl:b9 m w (.slice A b.length cp) b)(hb:b.length≤1048576) :
    Calls Tryz.prog 95 #[.int .i64 1,.int .u8 c,.slice A b.length cp] w (co (.slice A b.length cp) b (ai bB 1 c b) w):=by
 obtain⟨hcode1,hcode2⟩:=hcode
 have hln:(b.length:Int)≤1048576:=by omega
 refine en 197 Tryz.func95 rfl<|sg<|L0<|bH mZ fun fs ft s i d=>Pl 1<|nt<|sq<|sg<|Pl 6<|nt<|c0<|?_
 refine bi<|sq<|sg<|Pl 3<|cu 3 [24] 27 (((c != 7)&&(c != 8))) (fun K bV=>?_) ?_
 refine bl 24 ((c != 7)) (fun W=>?_) (fun W=>?_)
 have dw:=ay W
 exact Pl 3<|ce bV (c != 8) (by rw[W];rfl)
 have dw:=ag W
 exact Pl 3<|ce bV false (by rw[W];rfl)
 refine Pl 1<|cu 3 [28] 31 ((((c != 7)&&(c != 8))&&(c != 11))) (fun K bW=>?_) ?_
 refine bl 28 (((c != 7)&&(c != 8))) (fun X=>?_) (fun X=>?_)
 have dx:=(aU X).1
 have dy:=(aU X).2
 have fu:=ay dx
 have fv:=ay dy
 exact Pl 3<|ce bW (c != 11) (by rw[X];rfl)
 exact Pl 3<|ce bW false (by rw[X];rfl)
 refine Pl 1<|cu 3 [32] 35 (((((c != 7)&&(c != 8))&&(c != 11))&&(c != 12))) (fun K bY=>?_) ?_
 refine bl 32 ((((c != 7)&&(c != 8))&&(c != 11))) (fun Y=>?_) (fun Y=>?_)
 have bZ:=(aU Y).1
 have dz:=(aU Y).2
 have dE:=(aU bZ).1
 have dF:=(aU bZ).2
 have q19aap:=ay dE
 have q19abp:=ay dF
 have fw:=ay dz
 exact Pl 3<|ce bY (c != 12) (by rw[Y];rfl)
 exact Pl 3<|ce bY false (by rw[Y];rfl)
 refine Pl 1<|cu 3 [36] 39 ((((((c != 7)&&(c != 8))&&(c != 11))&&(c != 12))&&(c != 17))) (fun K c1=>?_) ?_
 refine bl 36 (((((c != 7)&&(c != 8))&&(c != 11))&&(c != 12))) (fun Z=>?_) (fun Z=>?_)
 have c2:=(aU Z).1
 have dG:=(aU Z).2
 have c3:=(aU c2).1
 have dI:=(aU c2).2
 have q21aaa:=(aU c3).1
 have q21aab:=(aU c3).2
 have q21aaap:=ay q21aaa
 have q21aabp:=ay q21aab
 have q21abp:=ay dI
 have fx:=ay dG
 exact Pl 3<|ce c1 (c != 17) (by rw[Z];rfl)
 exact Pl 3<|ce c1 false (by rw[Z];rfl)
 refine nt<|cb ((((((c != 7)&&(c != 8))&&(c != 11))&&(c != 12))&&(c != 17))) (fun D=>?_) (fun D=>?_)
 have b0:=(aU D).1
 have c4:=(aU D).2
 have b1:=(aU b0).1
 have c5:=(aU b0).2
 have q23aaa:=(aU b1).1
 have q23aab:=(aU b1).2
 have q23aaaa:=(aU q23aaa).1
 have q23aaab:=(aU q23aaa).2
 have q23aaaap:=ay q23aaaa
 have q23aaabp:=ay q23aaab
 have q23aabp:=ay q23aab
 have q23abp:=ay c5
 have fy:=ay c4
 refine sg<|Pl 1<|L0<|b7 i mZ fun fA dJ dL=>Pl 1<|nt<|rt<|tr<|bN dJ (.int .i64 4)<|?_
 have hs:ai bB 1 c b=(aO.zero,4):=by
   unfold ai bB ep dH
   (try simp only[D,b0,b1,q23aaa,q23aaaa,q23aaab,q23aab,c5,c4,bs,if_true,if_false,decide_true,decide_false,eq_self,true_or,or_true,or_false,false_or,if_true,if_false,dC,dD,dB,dA,reduceIte,kx,kq])
   all_goals rfl
 rw[hs]
 exact bu (ud d dL s)
 refine bi<|sg<|Pl 2<|L0<|dq #[.slice A b.length cp,.int .i64 0,.bool false,.int .i64 0] fun k fB a q g=>Pl 1<|ng<|Pl 2<|L0<|bH mZ fun fC fD f a0 G=>L0<|b7 a0 (mC c) fun a1 a2 t=>?_
 refine nt<|sq<|bk<|sg<|Pl 3<|nt<|?_
 have U:=ud G t f
 have y:=aD g U
 have E:=aD d y
 refine cb ((c==8)) (fun H=>?_) (fun H=>?_)
 have dM:=ah H
 refine sg<|Pl 1<|?_
 have dN:RC w _ A cp b a1 k (aj.mk b false 0):=⟨hsl,E,(Nat.le_trans d.size a),⟨0,(ub U q),Nat.zero_le _,rfl⟩,by omega⟩
 refine L0<|Oc<|m3 (cN dN) fun fE dO r fF=>Pl 1<|?_
 have F:=nb (am q) lr f
 refine L0<|bX (aW r (Ne.symm F) a2) 8 (mG c 0 0 0 0 0 0 0 ((aj.mk b false 0).wordV) 0 0 0 nS nS nS nS 0 0 0 0 0 nS) fun dP b2 z=>ng<|Pl 1<|L0<|aN b2 8<|L0<|Oc<|m1 (yR (x:=(aj.mk b false 0).wordV) (w:=dP) (by omega)) fun fG o=>Pl 1<|ng<|Pl 3<|cu 8 [72] 80 (((er ((aj.mk b false 0).wordV))&&(((aj.mk b false 0).wordV)!=4))) (fun K c6=>?_) ?_
 refine bl 72 ((er ((aj.mk b false 0).wordV))) (fun b3=>?_) (fun b3=>?_)
 refine Pl 1<|?_
 refine L1<|aN (ub o b2) 8<|Pl 2<|cu 3 [76] 79 ((((aj.mk b false 0).wordV)!=4)) (fun K c7=>?_) ?_
 refine bl 76 ((((aj.mk b false 0).wordV)!=4)) (fun a3=>?_) (fun a3=>?_)
 have dQ:=ay a3
 exact Pl 3<|ce c7 true a3
 have dQ:=ag a3
 exact Pl 3<|ce c7 false a3
 exact Pl 1<|ce c6 (((aj.mk b false 0).wordV)!=4) (by rw[b3];rfl)
 exact Pl 8<|ce c6 false (by rw[b3];rfl)
 have c8:=aD z o
 have a4:=us r c8
 have c9:=ut E a4 (ac (ni d.size a) (ac (ni (le d.size g.size) f) ax))
 refine L0<|Oc<|m2 (aY (((er ((aj.mk b false 0).wordV))&&(((aj.mk b false 0).wordV)!=4))) 8 (RC.upd dO c8 (aa F aA) c9)) fun fH dR j=>?_
 refine fP dR fun x70 ca a5=>?_
 refine nt<|sq<|sg<|Pl 1<|?_
 have b4:=aW (uz o j) (Ne.symm F) b2
 refine L0<|aN b4 8<|Pl 1<|nt<|?_
 have cc:=ud c9 j (le d.size a)
 refine cb ((((aj.mk b false 0).wordV)==0)) (fun a6=>?_) (fun a6=>?_)
 have dS:=ah a6
 refine sg<|Pl 1<|L0<|Oc<|m1 (iF a5) fun fI I=>?_
 have fJ:=RC.clen a5
 refine Pl 1<|ng<|Pl 2<|L0<|Oe (.int .i64 (Int.tmod ((x70.l.length:Nat) : Int) 2)) (.int .i64 (((x70.l.length:Nat) : Int)%2)) (congrArg (Value.int .i64) (Int.tmod_eq_emod_of_nonneg (by omega)))<|Pl 2<|cu 3 [91] 94 ((((((x70.l.length:Nat) : Int)%2)==0)&&(decide (2≤((x70.l.length:Nat) : Int))))) (fun K cd=>?_) ?_
 refine bl 91 (((((x70.l.length:Nat) : Int)%2)==0)) (fun a7=>?_) (fun a7=>?_)
 have dT:=ah a7
 exact Pl 3<|ce cd (decide (2≤((x70.l.length:Nat) : Int))) (by rw[a7];rfl)
 have dT:=ak a7
 exact Pl 3<|ce cd false (by rw[a7];rfl)
 refine Pl 1<|cu 3 [95] 98 (((((((x70.l.length:Nat) : Int)%2)==0)&&(decide (2≤((x70.l.length:Nat) : Int))))&&(decide (((x70.l.length:Nat) : Int)≤250)))) (fun K cf=>?_) ?_
 refine bl 95 ((((((x70.l.length:Nat) : Int)%2)==0)&&(decide (2≤((x70.l.length:Nat) : Int))))) (fun a8=>?_) (fun a8=>?_)
 have dU:=(aU a8).1
 have dV:=(aU a8).2
 have fK:=ah dU
 have fL:=of_decide_eq_true dV
 exact Pl 3<|ce cf (decide (((x70.l.length:Nat) : Int)≤250)) (by rw[a8];rfl)
 exact Pl 3<|ce cf false (by rw[a8];rfl)
 refine L0<|Oc<|m2 (aY (((((((x70.l.length:Nat) : Int)%2)==0)&&(decide (2≤((x70.l.length:Nat) : Int))))&&(decide (((x70.l.length:Nat) : Int)≤250)))) 5 (RC.upd a5 I aA (aC.step (RC.u a5) I))) fun fM dW R=>?_
 refine fP dW fun x88 dY dZ=>?_
 refine ng<|Pl 2<|L0<|Oe (.int .i64 (IntKind.i64.wrap (Int.tdiv ((x70.l.length:Nat) : Int) 2))) (.int .i64 (((x70.l.length:Nat) : Int)/2)) (congrArg (Value.int .i64) (fY (by omega) (by omega)))<|L0<|Oc<|nf (ge (n:=(((x70.l.length:Nat) : Int)/2)) (by omega) dZ) fun cg ci fN N fO fQ e0 e1=>Pl 1<|?_
 have cj:=uz I (u1 R e1 im)
 refine L0<|bX (aW cj (Ne.symm F) b4) 12 (mG c 0 0 0 0 0 0 0 ((aj.mk b false 0).wordV) 0 0 0 (.slice cg ((x88.wordsR (((x70.l.length:Nat) : Int)/2)).length) ci) nS nS nS 0 0 0 0 0 nS) fun fR e2 aH=>nt<|xt<|tx<|bx<|tn<|sg<|Pl 1<|?_
 have b5:=us cj aH
 have ck:=ut cc b5 (ac (ni d.size a) (ac (ni (le d.size g.size) f) ax))
 refine L0<|Oc<|m2 (et (RC.upd e0 aH (aa F aA) ck)) fun fS b8 a9=>nt<|sq<|sg<|Pl 3<|L0<|eq (p:=⟨k,3,none⟩) (v:=.int .i64 (((x88.wordsC (((x70.l.length:Nat) : Int)/2)).endC).e)) (RC.fld b8)<|Pl 1<|nt<|?_
 have cl:=ud ck a9 (le d.size a)
 have hs:ai bB 1 c b=b6 (aO.mk c 0 0 0 0 0 0 0 ((aj.mk b false 0).wordV) 0 0 0 (x88.wordsR (((x70.l.length:Nat) : Int)/2)) [] [] [] 0 0 0 0 0 []) (x88.wordsC (((x70.l.length:Nat) : Int)/2)):=by
   subst dY ca
   unfold ai bB ep dH
   (try simp only[D,H,a6,bs,if_true,if_false,decide_true,decide_false,eq_self,true_or,or_true,or_false,false_or,if_true,if_false,dC,dD,dB,dA,reduceIte,kx,kq])
   all_goals rfl
 refine cb (((((x88.wordsC (((x70.l.length:Nat) : Int)/2)).endC).e)!=0)) (fun ba=>?_) (fun ba=>?_)
 have bb:=ay ba
 refine sq<|Rg 7 (fun w'=>w'.cell? ⟨k,3,none⟩=some (.int .i64 (((x88.wordsC (((x70.l.length:Nat) : Int)/2)).endC).e))) fun fT aI=>?_
 have cm:=RC.upd b8 aI aA (aC.step (RC.u b8) aI)
 refine bg (RC.fld cm) fun ab=>Rt 0 ab<|Rt 1 ab<|Rt 2 ab<|Rt 3 ab<|Rl 4 ab (fun _ hs=>hs)<|?_
 have cn:=aD a9 aI
 refine R0 5 rfl<|b7 (ub (ut y (ut a4 (ui j (u1 b5 cn im)) (ac im (ac im ax))) (ac (nr a) (ac (ni g.size f) ax))) i) mZ fun fU e3 bc=>?_
 have cq:=ud cl (uz aI bc) s
 refine bg (RC.fld (RC.upd cm bc (aa (Ne.symm (nb (am i) lr a)) aA) cq)) fun e4=>Rt 6 e4<|re<|tn<|rt<|tr<|bN e3 (.int .i64 (((x88.wordsC (((x70.l.length:Nat) : Int)/2)).endC).e))<|?_
 have fV:=aq N (us aH (us cn bc)) (fun x hx=>(aa (fun e=>(aB (am a0) (le (le (le (le (le (le t.size r.size) z.size) o.size) j.size) I.size) R.size) N) (e▸hx)) (aa (fun e=>(aB (am q) (le (le (le (le (le (le (le G.size t.size) r.size) z.size) o.size) j.size) I.size) R.size) N) (e▸hx)) (aa (fun e=>(aB (am i) (le (le (le (le (le (le (le (le g.size G.size) t.size) r.size) z.size) o.size) j.size) I.size) R.size) N) (e▸hx)) aA)))) (fun _ _ h=>h)
 rw[hs]
 exact bf bb cq
 have bb:=ag ba
 refine bi<|sg<|?_
 refine L0<|bM (aW a9 (Ne.symm F) e2)<|?_
 refine L0<|b7 (ub (ut y (ut a4 (ui j (u1 b5 a9 im)) (ac im (ac im ax))) (ac (nr a) (ac (ni g.size f) ax))) i) (mG c 0 0 0 0 0 0 0 ((aj.mk b false 0).wordV) 0 0 0 (.slice cg ((x88.wordsR (((x70.l.length:Nat) : Int)/2)).length) ci) nS nS nS 0 0 0 0 0 nS) fun fW e5 cr=>Pl 1<|nt<|rt<|bN e5 (.int .i64 0)<|?_
 rw[hs]
 exact bo bb ⟨_,_,_,_,_,rfl,((aq N (us aH (us a9 cr)) (fun x hx=>(aa (fun e=>(aB (am a0) (le (le (le (le (le (le t.size r.size) z.size) o.size) j.size) I.size) R.size) N) (e▸hx)) (aa (fun e=>(aB (am q) (le (le (le (le (le (le (le G.size t.size) r.size) z.size) o.size) j.size) I.size) R.size) N) (e▸hx)) (aa (fun e=>(aB (am i) (le (le (le (le (le (le (le (le g.size G.size) t.size) r.size) z.size) o.size) j.size) I.size) R.size) N) (e▸hx)) aA)))) (fun _ _ h=>h))).rd,aL.nil ..,(fun _ _ _=>aL.nil ..),aL.nil ..,aL.nil ..,(ch (by omega))⟩ (ud cl cr s)
 have dS:=ak a6
 refine bi<|sg<|Pl 1<|L0<|Oc<|m3 (cN a5) fun e6 cs O fX=>Pl 1<|ng<|Pl 3<|?_
 have ct:=aW O (Ne.symm F) b4
 refine L0<|aN ct 8<|Pl 1<|L0<|Oc<|m1 (yE (dir:=1) (sub:=(aj.mk b false 0).wordV) (v:=x70.wordV) (w:=e6) (by omega)) fun fZ J=>?_
 refine L0<|Oc<|m2 (aY ((fh 1 ((aj.mk b false 0).wordV) x70.wordV)) 6 (RC.upd cs J aA (aC.step (RC.u cs) J))) fun g0 e7 S=>?_
 refine fP e7 fun ad e8 e9=>?_
 refine nt<|go<|Pl 1<|L0<|cL (m:=1) (e:=24) #[.int .u16 x70.wordV] fun cv g1 ea eb cw=>?_
 have P:=dK ea (xs:=[x70.wordV]) (by as_aux_lemma=>kernel_rfl) (au (by omega) aK) (by(try simp only[List.length_cons,List.length_nil]);omega) eb
 refine Pl 1<|?_
 have cx:=uz J (aD S cw)
 refine L0<|bX (aW cx (Ne.symm F) ct) 12 (mG c 0 0 0 0 0 0 0 ((aj.mk b false 0).wordV) 0 0 0 (.slice (some ⟨cv,0,none⟩) 1 1) nS nS nS 0 0 0 0 0 nS) fun g2 ec aJ=>nl<|bn<|tn<|sg<|Pl 1<|?_
 have bd:=ui O (us cx aJ)
 have cy:=ut cc bd (ac (ni d.size a) (ac (ni (le d.size g.size) f) ax))
 refine L0<|Oc<|m2 (et (RC.upd e9 (uz cw aJ) (aa F aA) cy)) fun g3 be ae=>nt<|sq<|sg<|Pl 3<|L0<|eq (p:=⟨k,3,none⟩) (v:=.int .i64 ad.endC.e) (RC.fld be)<|Pl 1<|nt<|?_
 have cz:=ud cy ae (le d.size a)
 have hs:ai bB 1 c b=b6 (aO.mk c 0 0 0 0 0 0 0 ((aj.mk b false 0).wordV) 0 0 0 [x70.wordV] [] [] [] 0 0 0 0 0 []) ad:=by
   subst e8 ca
   unfold ai bB ep dH
   (try simp only[D,H,a6,bs,if_true,if_false,decide_true,decide_false,eq_self,true_or,or_true,or_false,false_or,if_true,if_false,dC,dD,dB,dA,reduceIte,kx,kq])
   all_goals rfl
 refine cb ((ad.endC.e != 0)) (fun bh=>?_) (fun bh=>?_)
 have bj:=ay bh
 refine sq<|Rg 7 (fun w'=>w'.cell? ⟨k,3,none⟩=some (.int .i64 ad.endC.e)) fun g4 aM=>?_
 have cA:=RC.upd be aM aA (aC.step (RC.u be) aM)
 refine bg (RC.fld cA) fun af=>Rt 0 af<|Rt 1 af<|Rt 2 af<|Rt 3 af<|Rl 4 af (fun _ hs=>hs)<|?_
 have cB:=aD ae aM
 refine R0 5 rfl<|b7 (ub (ut y (ut a4 (ui j (u1 bd cB im)) (ac im (ac im ax))) (ac (nr a) (ac (ni g.size f) ax))) i) mZ fun g5 ed bm=>?_
 have cC:=ud cz (uz aM bm) s
 refine bg (RC.fld (RC.upd cA bm (aa (Ne.symm (nb (am i) lr a)) aA) cC)) fun ee=>Rt 6 ee<|re<|tn<|rt<|tr<|bN ed (.int .i64 ad.endC.e)<|?_
 have g6:=aq P (us aJ (us cB bm)) (fun x hx=>(aa (fun e=>(aB (am a0) (le (le (le (le (le (le (le t.size r.size) z.size) o.size) j.size) O.size) J.size) S.size) P) (e▸hx)) (aa (fun e=>(aB (am q) (le (le (le (le (le (le (le (le G.size t.size) r.size) z.size) o.size) j.size) O.size) J.size) S.size) P) (e▸hx)) (aa (fun e=>(aB (am i) (le (le (le (le (le (le (le (le (le g.size G.size) t.size) r.size) z.size) o.size) j.size) O.size) J.size) S.size) P) (e▸hx)) aA)))) (fun _ _ h=>h)
 rw[hs]
 exact bf bj cC
 have bj:=ag bh
 refine bi<|sg<|?_
 refine L0<|bM (aW ae (Ne.symm F) ec)<|?_
 refine L0<|b7 (ub (ut y (ut a4 (ui j (u1 bd ae im)) (ac im (ac im ax))) (ac (nr a) (ac (ni g.size f) ax))) i) (mG c 0 0 0 0 0 0 0 ((aj.mk b false 0).wordV) 0 0 0 (.slice (some ⟨cv,0,none⟩) 1 1) nS nS nS 0 0 0 0 0 nS) fun g7 ef cD=>Pl 1<|nt<|rt<|bN ef (.int .i64 0)<|?_
 rw[hs]
 exact bo bj ⟨_,_,_,_,_,rfl,((aq P (us aJ (us ae cD)) (fun x hx=>(aa (fun e=>(aB (am a0) (le (le (le (le (le (le (le t.size r.size) z.size) o.size) j.size) O.size) J.size) S.size) P) (e▸hx)) (aa (fun e=>(aB (am q) (le (le (le (le (le (le (le (le G.size t.size) r.size) z.size) o.size) j.size) O.size) J.size) S.size) P) (e▸hx)) (aa (fun e=>(aB (am i) (le (le (le (le (le (le (le (le (le g.size G.size) t.size) r.size) z.size) o.size) j.size) O.size) J.size) S.size) P) (e▸hx)) aA)))) (fun _ _ h=>h))).rd,aL.nil ..,(fun _ _ _=>aL.nil ..),aL.nil ..,aL.nil ..,(ch (by omega))⟩ (ud cz cD s)
 have dM:=ak H
 refine sg<|Pl 3<|nt<|c0<|sg<|Pl 3<|nt<|cb ((c==7)) (fun T=>?_) (fun T=>?_)
 have eg:=ah T
 refine go<|Pl 1<|?_
 have eh:RC w _ A cp b a1 k (aj.mk b false 0):=⟨hsl,E,(Nat.le_trans d.size a),⟨0,(ub U q),Nat.zero_le _,rfl⟩,by omega⟩
 refine L0<|Oc<|m3 (dX eh) fun g8 ei cE g9=>L0<|wZ ((aj.mk b false 0).byteV)<|Pl 1<|?_
 have bp:=nb (am q) lr f
 refine L0<|bX (aW cE (Ne.symm bp) a2) 4 (mG c 0 0 0 ((aj.mk b false 0).byteV) 0 0 0 0 0 0 0 nS nS nS nS 0 0 0 0 0 nS) fun ga ej cF=>nl<|bn<|tn<|sg<|Pl 1<|?_
 have bq:=us cE cF
 have cG:=ut E bq (ac (ni d.size a) (ac (ni (le d.size g.size) f) ax))
 refine L0<|Oc<|m2 (et (RC.upd ei cF (aa bp aA) cG)) fun gb br aP=>nt<|sq<|sg<|Pl 3<|L0<|eq (p:=⟨k,3,none⟩) (v:=.int .i64 ((((aj.mk b false 0).bytesC 1).endC).e)) (RC.fld br)<|Pl 1<|nt<|?_
 have cH:=ud cG aP (le d.size a)
 have hs:ai bB 1 c b=b6 (aO.mk c 0 0 0 ((aj.mk b false 0).byteV) 0 0 0 0 0 0 0 [] [] [] [] 0 0 0 0 0 []) ((aj.mk b false 0).bytesC 1):=by
   unfold ai bB ep dH
   (try simp only[D,H,T,bs,if_true,if_false,decide_true,decide_false,eq_self,true_or,or_true,or_false,false_or,if_true,if_false,dC,dD,dB,dA,reduceIte,kx,kq])
   all_goals rfl
 refine cb ((((((aj.mk b false 0).bytesC 1).endC).e)!=0)) (fun bt=>?_) (fun bt=>?_)
 have bv:=ay bt
 refine sq<|Rg 7 (fun w'=>w'.cell? ⟨k,3,none⟩=some (.int .i64 ((((aj.mk b false 0).bytesC 1).endC).e))) fun gc aQ=>?_
 have cI:=RC.upd br aQ aA (aC.step (RC.u br) aQ)
 refine bg (RC.fld cI) fun al=>Rt 0 al<|Rt 1 al<|Rt 2 al<|Rt 3 al<|Rl 4 al (fun _ hs=>hs)<|?_
 refine R0 5 rfl<|b7 (ub (ut y (u1 bq (aD aP aQ) im) (ac (nr a) (ac (ni g.size f) ax))) i) mZ fun gd ek cJ=>?_
 have cK:=ud cH (uz aQ cJ) s
 refine bg (RC.fld (RC.upd cI cJ (aa (Ne.symm (nb (am i) lr a)) aA) cK)) fun el=>Rt 6 el<|re<|tn<|rt<|tr<|bN ek (.int .i64 ((((aj.mk b false 0).bytesC 1).endC).e))<|?_
 rw[hs]
 exact bf bv cK
 have bv:=ag bt
 refine bi<|sg<|?_
 refine L0<|bM (aW aP (Ne.symm bp) ej)<|?_
 refine L0<|b7 (ub (ut y (u1 bq aP im) (ac (nr a) (ac (ni g.size f) ax))) i) (mG c 0 0 0 ((aj.mk b false 0).byteV) 0 0 0 0 0 0 0 nS nS nS nS 0 0 0 0 0 nS) fun gf em eo=>Pl 1<|nt<|rt<|bN em (.int .i64 0)<|?_
 rw[hs]
 exact bo bv ⟨_,_,_,_,_,rfl,aL.nil ..,aL.nil ..,(fun _ _ _=>aL.nil ..),aL.nil ..,aL.nil ..,(ch (by omega))⟩ (ud cH eo s)
 have eg:=ak T
 refine sg<|Pl 3<|nt<|cb ((c==11)) (fun V=>?_) (fun V=>?_)
 have es:=ah V
 refine sg<|Pl 1<|?_
 have eu:RC w _ A cp b a1 k (aj.mk b false 0):=⟨hsl,E,(Nat.le_trans d.size a),⟨0,(ub U q),Nat.zero_le _,rfl⟩,by omega⟩
 refine L0<|Oc<|m3 (cN eu) fun gg ev cM gh=>Pl 1<|?_
 have an:=nb (am q) lr f
 refine L0<|bX (aW cM (Ne.symm an) a2) 9 (mG c 0 0 0 0 0 0 0 0 ((aj.mk b false 0).wordV) 0 0 nS nS nS nS 0 0 0 0 0 nS) fun gi bw cO=>ng<|Pl 2<|L0<|aN bw 9<|Pl 2<|cu 4 [137] 141 (((((aj.mk b false 0).wordV)==0)||(((aj.mk b false 0).wordV)==65535))) (fun K cP=>?_) ?_
 refine bl 137 ((((aj.mk b false 0).wordV)==0)) (fun ao=>?_) (fun ao=>?_)
 have ew:=ah ao
 exact Pl 4<|ce cP true (by rw[ao];rfl)
 have ew:=ak ao
 exact Pl 1<|L1<|aN bw 9<|Pl 2<|ce cP (((aj.mk b false 0).wordV)==65535) (by rw[ao];rfl)
 have bz:=us cM cO
 have cQ:=ut E bz (ac (ni d.size a) (ac (ni (le d.size g.size) f) ax))
 refine L0<|Oc<|m2 (aY (((((aj.mk b false 0).wordV)==0)||(((aj.mk b false 0).wordV)==65535))) 6 (RC.upd ev cO (aa an aA) cQ)) fun gj ex ey=>?_
 refine fP ex fun Q ez eA=>?_
 refine nt<|go<|Pl 1<|L0<|Oc<|m3 (cN eA) fun gk eB eC gl=>Pl 1<|?_
 have cR:=u1 ey eC im
 refine L0<|bX (aW cR (Ne.symm an) bw) 10 (mG c 0 0 0 0 0 0 0 0 ((aj.mk b false 0).wordV) Q.wordV 0 nS nS nS nS 0 0 0 0 0 nS) fun gm eD cS=>nl<|bn<|tn<|sg<|Pl 1<|?_
 have bA:=us cR cS
 have cT:=ut cQ bA (ac (ni d.size a) (ac (ni (le d.size g.size) f) ax))
 refine L0<|Oc<|m2 (et (RC.upd eB cS (aa an aA) cT)) fun gn bC aR=>nt<|sq<|sg<|Pl 3<|L0<|eq (p:=⟨k,3,none⟩) (v:=.int .i64 (((Q.wordsC 1).endC).e)) (RC.fld bC)<|Pl 1<|nt<|?_
 have cU:=ud cT aR (le d.size a)
 have hs:ai bB 1 c b=b6 (aO.mk c 0 0 0 0 0 0 0 0 ((aj.mk b false 0).wordV) Q.wordV 0 [] [] [] [] 0 0 0 0 0 []) (Q.wordsC 1):=by
   subst ez
   unfold ai bB ep dH
   (try simp only[D,H,T,V,bs,if_true,if_false,decide_true,decide_false,eq_self,true_or,or_true,or_false,false_or,if_true,if_false,dC,dD,dB,dA,reduceIte,kx,kq])
   all_goals rfl
 refine cb (((((Q.wordsC 1).endC).e)!=0)) (fun bD=>?_) (fun bD=>?_)
 have bE:=ay bD
 refine sq<|Rg 7 (fun w'=>w'.cell? ⟨k,3,none⟩=some (.int .i64 (((Q.wordsC 1).endC).e))) fun gp aS=>?_
 have cV:=RC.upd bC aS aA (aC.step (RC.u bC) aS)
 refine bg (RC.fld cV) fun ap=>Rt 0 ap<|Rt 1 ap<|Rt 2 ap<|Rt 3 ap<|Rl 4 ap (fun _ hs=>hs)<|?_
 refine R0 5 rfl<|b7 (ub (ut y (ut bz (u1 bA (aD aR aS) im) (ac im (ac im ax))) (ac (nr a) (ac (ni g.size f) ax))) i) mZ fun gq eE cW=>?_
 have cX:=ud cU (uz aS cW) s
 refine bg (RC.fld (RC.upd cV cW (aa (Ne.symm (nb (am i) lr a)) aA) cX)) fun eF=>Rt 6 eF<|re<|tn<|rt<|tr<|bN eE (.int .i64 (((Q.wordsC 1).endC).e))<|?_
 rw[hs]
 exact bf bE cX
 have bE:=ag bD
 refine bi<|sg<|?_
 refine L0<|bM (aW aR (Ne.symm an) eD)<|?_
 refine L0<|b7 (ub (ut y (ut bz (u1 bA aR im) (ac im (ac im ax))) (ac (nr a) (ac (ni g.size f) ax))) i) (mG c 0 0 0 0 0 0 0 0 ((aj.mk b false 0).wordV) Q.wordV 0 nS nS nS nS 0 0 0 0 0 nS) fun gr eG eH=>Pl 1<|nt<|rt<|bN eG (.int .i64 0)<|?_
 rw[hs]
 exact bo bE ⟨_,_,_,_,_,rfl,aL.nil ..,aL.nil ..,(fun _ _ _=>aL.nil ..),aL.nil ..,aL.nil ..,(ch (by omega))⟩ (ud cU eH s)
 have es:=ak V
 refine sg<|Pl 3<|nt<|cb ((c==12)) (fun ar=>?_) (fun ar=>?_)
 have eI:=ah ar
 refine sg<|Pl 1<|?_
 have eJ:RC w _ A cp b a1 k (aj.mk b false 0):=⟨hsl,E,(Nat.le_trans d.size a),⟨0,(ub U q),Nat.zero_le _,rfl⟩,by omega⟩
 refine L0<|Oc<|m3 (dX eJ) fun gs eK eL gt=>L0<|Oi ((aj.mk b false 0).byteV)<|Pl 1<|ng<|Pl 4<|cu 3 [155] 158 (((decide (6≤((aj.mk b false 0).byteV)))&&(decide (((aj.mk b false 0).byteV)≤70)))) (fun K cY=>?_) ?_
 refine bl 155 ((decide (6≤((aj.mk b false 0).byteV)))) (fun av=>?_) (fun av=>?_)
 have eM:=of_decide_eq_true av
 exact Pl 3<|ce cY (decide (((aj.mk b false 0).byteV)≤70)) (by rw[av];rfl)
 have eM:=of_decide_eq_false av
 exact Pl 3<|ce cY false (by rw[av];rfl)
 refine L0<|Oc<|m2 (aY (((decide (6≤((aj.mk b false 0).byteV)))&&(decide (((aj.mk b false 0).byteV)≤70)))) 5 eK) fun gu eN eO=>?_
 refine fP eN fun C eP eQ=>?_
 refine ng<|Pl 1<|L0<|Oc<|m3 (cN eQ) fun gv eR eS gw=>Pl 1<|?_
 have cZ:=u1 eL (u1 eO eS im) im
 have L:=nb (am q) lr f
 refine L0<|bX (aW cZ (Ne.symm L) a2) 9 (mG c 0 0 0 0 0 0 0 0 C.wordV 0 0 nS nS nS nS 0 0 0 0 0 nS) fun gx bF d0=>ng<|Pl 2<|L0<|aN bF 9<|Pl 2<|cu 4 [167] 171 (((C.wordV==0)||(C.wordV==65535))) (fun K d1=>?_) ?_
 refine bl 167 ((C.wordV==0)) (fun aw=>?_) (fun aw=>?_)
 have eT:=ah aw
 exact Pl 4<|ce d1 true (by rw[aw];rfl)
 have eT:=ak aw
 exact Pl 1<|L1<|aN bF 9<|Pl 2<|ce d1 (C.wordV==65535) (by rw[aw];rfl)
 have bG:=us cZ d0
 have d2:=ut E bG (ac (ni d.size a) (ac (ni (le d.size g.size) f) ax))
 refine L0<|Oc<|m2 (aY (((C.wordV==0)||(C.wordV==65535))) 6 (RC.upd eR d0 (aa L aA) d2)) fun gy eU eV=>?_
 refine fP eU fun B eW eX=>?_
 refine ng<|Pl 1<|L0<|Oc<|m3 (cN eX) fun gz eY eZ gA=>Pl 1<|?_
 have d3:=u1 eV eZ im
 refine L0<|bX (aW d3 (Ne.symm L) bF) 10 (mG c 0 0 0 0 0 0 0 0 C.wordV B.wordV 0 nS nS nS nS 0 0 0 0 0 nS) fun gB f0 d4=>ng<|Pl 1<|?_
 have bI:=us d3 d4
 have d5:=ut d2 bI (ac (ni d.size a) (ac (ni (le d.size g.size) f) ax))
 refine L0<|Oc<|m3 (cN (RC.upd eY d4 (aa L aA) d5)) fun gC f1 d6 gD=>Pl 1<|?_
 refine L0<|bX (aW d6 (Ne.symm L) f0) 11 (mG c 0 0 0 0 0 0 0 0 C.wordV B.wordV ((B.wordsC 1).wordV) nS nS nS nS 0 0 0 0 0 nS) fun gE f2 d7=>nt<|go<|Pl 2<|L0<|Oi (((aj.mk b false 0).byteV)-6)<|?_
 have bJ:=us d6 d7
 have d8:=ut d5 bJ (ac (ni d.size a) (ac (ni (le d.size g.size) f) ax))
 have d9:=RC.upd f1 d7 (aa L aA) d8
 refine L0<|Oc<|pg (fz (n:=(((aj.mk b false 0).byteV)-6)) (by omega) d9) fun da db gF f3 f4 dc=>?_
 have gG:=Nat.le_trans (aj.bytesR_le ((B.wordsC 1).wordsC 1) (((aj.mk b false 0).byteV)-6)) (RC.clen d9)
 refine fP f4 fun az f5 f6=>?_
 refine Pl 1<|?_
 refine L0<|bX (aW dc (Ne.symm L) f2) 14 (mG c 0 0 0 0 0 0 0 0 C.wordV B.wordV ((B.wordsC 1).wordV) nS nS (.slice da ((((B.wordsC 1).wordsC 1).bytesR (((aj.mk b false 0).byteV)-6)).length) db) nS 0 0 0 0 0 nS) fun gH f7 dd=>nl<|bn<|tn<|sg<|Pl 1<|?_
 have bK:=us dc dd
 have de:=ut d8 bK (ac (ni d.size a) (ac (ni (le d.size g.size) f) ax))
 refine L0<|Oc<|m2 (et (RC.upd f6 dd (aa L aA) de)) fun gI bL aT=>nt<|sq<|sg<|Pl 3<|L0<|eq (p:=⟨k,3,none⟩) (v:=.int .i64 az.endC.e) (RC.fld bL)<|Pl 1<|nt<|?_
 have df:=ud de aT (le d.size a)
 have hs:ai bB 1 c b=b6 (aO.mk c 0 0 0 0 0 0 0 0 C.wordV B.wordV ((B.wordsC 1).wordV) [] [] (((B.wordsC 1).wordsC 1).bytesR (((aj.mk b false 0).byteV)-6)) [] 0 0 0 0 0 []) az:=by
   subst f5 eW eP
   unfold ai bB ep dH
   (try simp only[D,H,T,V,ar,bs,if_true,if_false,decide_true,decide_false,eq_self,true_or,or_true,or_false,false_or,if_true,if_false,dC,dD,dB,dA,reduceIte,kx,kq])
   all_goals rfl
 refine cb ((az.endC.e != 0)) (fun bO=>?_) (fun bO=>?_)
 have bP:=ay bO
 refine sq<|Rg 7 (fun w'=>w'.cell? ⟨k,3,none⟩=some (.int .i64 az.endC.e)) fun gJ aV=>?_
 have dg:=RC.upd bL aV aA (aC.step (RC.u bL) aV)
 refine bg (RC.fld dg) fun aE=>Rt 0 aE<|Rt 1 aE<|Rt 2 aE<|Rt 3 aE<|Rl 4 aE (fun _ hs=>hs)<|?_
 refine R0 5 rfl<|b7 (ub (ut y (ut bG (ut bI (ut bJ (u1 bK (aD aT aV) im) (ac im (ac im ax))) (ac im (ac im ax))) (ac im (ac im ax))) (ac (nr a) (ac (ni g.size f) ax))) i) mZ fun gK f8 dh=>?_
 have di:=ud df (uz aV dh) s
 refine bg (RC.fld (RC.upd dg dh (aa (Ne.symm (nb (am i) lr a)) aA) di)) fun f9=>Rt 6 f9<|re<|tn<|rt<|tr<|bN f8 (.int .i64 az.endC.e)<|?_
 rw[hs]
 exact bf bP di
 have bP:=ag bO
 refine bi<|sg<|?_
 refine L0<|bM (aW aT (Ne.symm L) f7)<|?_
 refine L0<|b7 (ub (ut y (ut bG (ut bI (ut bJ (u1 bK aT im) (ac im (ac im ax))) (ac im (ac im ax))) (ac im (ac im ax))) (ac (nr a) (ac (ni g.size f) ax))) i) (mG c 0 0 0 0 0 0 0 0 C.wordV B.wordV ((B.wordsC 1).wordV) nS nS (.slice da ((((B.wordsC 1).wordsC 1).bytesR (((aj.mk b false 0).byteV)-6)).length) db) nS 0 0 0 0 0 nS) fun gL fa fb=>Pl 1<|nt<|rt<|bN fa (.int .i64 0)<|?_
 rw[hs]
 exact bo bP ⟨_,_,_,_,_,rfl,aL.nil ..,aL.nil ..,f3,aL.nil ..,aL.nil ..,(ch (by omega))⟩ (ud df fb s)
 have eI:=ak ar
 refine sg<|Pl 1<|?_
 have fc:RC w _ A cp b a1 k (aj.mk b false 0):=⟨hsl,E,(Nat.le_trans d.size a),⟨0,(ub U q),Nat.zero_le _,rfl⟩,by omega⟩
 refine L0<|Oc<|m3 (dX fc) fun gM fd fe gN=>L0<|Oi ((aj.mk b false 0).byteV)<|Pl 1<|ng<|Pl 4<|cu 3 [52] 55 (((decide (1≤((aj.mk b false 0).byteV)))&&(decide (((aj.mk b false 0).byteV)≤251)))) (fun K dj=>?_) ?_
 refine bl 52 ((decide (1≤((aj.mk b false 0).byteV)))) (fun aF=>?_) (fun aF=>?_)
 have ff:=of_decide_eq_true aF
 exact Pl 3<|ce dj (decide (((aj.mk b false 0).byteV)≤251)) (by rw[aF];rfl)
 have ff:=of_decide_eq_false aF
 exact Pl 3<|ce dj false (by rw[aF];rfl)
 refine L0<|Oc<|m2 (aY (((decide (1≤((aj.mk b false 0).byteV)))&&(decide (((aj.mk b false 0).byteV)≤251)))) 5 fd) fun gO fg fi=>?_
 refine fP fg fun M fj dk=>?_
 refine nt<|go<|Pl 2<|L0<|Oc<|pg (fz (n:=(aj.mk b false 0).byteV) (by omega) dk) fun dl dm gP fk fl fm=>?_
 have gQ:=Nat.le_trans (aj.bytesR_le M ((aj.mk b false 0).byteV)) (RC.clen dk)
 refine Pl 1<|?_
 have dn:=u1 fe (u1 fi fm im) im
 have bQ:=nb (am q) lr f
 refine L0<|bX (aW dn (Ne.symm bQ) a2) 14 (mG c 0 0 0 0 0 0 0 0 0 0 0 nS nS (.slice dl ((M.bytesR ((aj.mk b false 0).byteV)).length) dm) nS 0 0 0 0 0 nS) fun gR fn dp=>nl<|bn<|tn<|sg<|Pl 1<|?_
 have bR:=us dn dp
 have dr:=ut E bR (ac (ni d.size a) (ac (ni (le d.size g.size) f) ax))
 refine L0<|Oc<|m2 (et (RC.upd fl dp (aa bQ aA) dr)) fun gS bS aX=>nt<|sq<|sg<|Pl 3<|L0<|eq (p:=⟨k,3,none⟩) (v:=.int .i64 (((M.bytesC ((aj.mk b false 0).byteV)).endC).e)) (RC.fld bS)<|Pl 1<|nt<|?_
 have ds:=ud dr aX (le d.size a)
 have hs:ai bB 1 c b=b6 (aO.mk c 0 0 0 0 0 0 0 0 0 0 0 [] [] (M.bytesR ((aj.mk b false 0).byteV)) [] 0 0 0 0 0 []) (M.bytesC ((aj.mk b false 0).byteV)):=by
   subst fj
   unfold ai bB ep dH
   (try simp only[D,H,T,V,ar,bs,if_true,if_false,decide_true,decide_false,eq_self,true_or,or_true,or_false,false_or,if_true,if_false,dC,dD,dB,dA,reduceIte,kx,kq])
   all_goals rfl
 refine cb (((((M.bytesC ((aj.mk b false 0).byteV)).endC).e)!=0)) (fun bT=>?_) (fun bT=>?_)
 have bU:=ay bT
 refine sq<|Rg 7 (fun w'=>w'.cell? ⟨k,3,none⟩=some (.int .i64 (((M.bytesC ((aj.mk b false 0).byteV)).endC).e))) fun gT aZ=>?_
 have dt:=RC.upd bS aZ aA (aC.step (RC.u bS) aZ)
 refine bg (RC.fld dt) fun aG=>Rt 0 aG<|Rt 1 aG<|Rt 2 aG<|Rt 3 aG<|Rl 4 aG (fun _ hs=>hs)<|?_
 refine R0 5 rfl<|b7 (ub (ut y (u1 bR (aD aX aZ) im) (ac (nr a) (ac (ni g.size f) ax))) i) mZ fun gU fo du=>?_
 have dv:=ud ds (uz aZ du) s
 refine bg (RC.fld (RC.upd dt du (aa (Ne.symm (nb (am i) lr a)) aA) dv)) fun fp=>Rt 6 fp<|re<|tn<|rt<|tr<|bN fo (.int .i64 (((M.bytesC ((aj.mk b false 0).byteV)).endC).e))<|?_
 rw[hs]
 exact bf bU dv
 have bU:=ag bT
 refine bi<|sg<|?_
 refine L0<|bM (aW aX (Ne.symm bQ) fn)<|?_
 refine L0<|b7 (ub (ut y (u1 bR aX im) (ac (nr a) (ac (ni g.size f) ax))) i) (mG c 0 0 0 0 0 0 0 0 0 0 0 nS nS (.slice dl ((M.bytesR ((aj.mk b false 0).byteV)).length) dm) nS 0 0 0 0 0 nS) fun gV fq fr=>Pl 1<|nt<|rt<|bN fq (.int .i64 0)<|?_
 rw[hs]
 exact bo bU ⟨_,_,_,_,_,rfl,aL.nil ..,aL.nil ..,fk,aL.nil ..,aL.nil ..,(ch (by omega))⟩ (ud ds fr s)
theorem mb{m:Md}{A:Option Addr}{cp:Nat}{b:List Int}{w:World}{dir c:Int}(hcode:B8 c)(hsl:b9 m w (.slice A b.length cp) b)(hb:b.length≤1048576)(hd:¬ (dir=0∨dir=1)) :
    Calls Tryz.prog 95 #[.int .i64 dir,.int .u8 c,.slice A b.length cp] w (co (.slice A b.length cp) b (ai bB dir c b) w):=by
 obtain⟨hcode1,hcode2⟩:=hcode
 have hln:(b.length:Int)≤1048576:=by omega
 have e0:(dir != 0)=true:=by simp;omega
 have e1:(dir != 1)=true:=by simp;omega
 refine en 197 Tryz.func95 rfl<|sg<|L0<|bH mZ fun g h a d e=>Pl 1<|nt<|sq<|sg<|Pl 3<|sy 17 e0<|Pl 3<|nl<|?_
 refine tn<|ct e1<|sg<|Pl 1<|L0<|b7 d mZ fun i dr f=>Pl 1<|nt<|rt<|tr<|bN dr (.int .i64 1)<|?_
 have hs:ai bB dir c b=(aO.zero,1):=by
   unfold ai bB ep dH
   (try simp only[e0,e1,bs,if_true,if_false,decide_true,decide_false,eq_self,true_or,or_true,or_false,false_or,if_true,if_false,dC,dD,dB,dA,reduceIte,hd,kx,kq])
   all_goals rfl
 rw[hs]
 exact bu (ud e f a)
open Go.RowKit
theorem eg{C:aj}{ok:Bool}{x:Int}(h:C.e≠0) : C.need ok x=C:=by
  unfold aj.need
  rw[if_neg fun k=>h k.1]
theorem eY{C:aj}{n:Int}(h:C.fails n=true) : (C.bytesC n).e≠0:=by
  unfold aj.bytesC
  rw[if_pos h]
  unfold aj.need
  split
  · exact(show(2:Int)≠0 from by decide)
  · rename_i k
    intro e
    exact k ⟨e,rfl⟩
theorem mY{C:aj}(h:(C.wordsR 1).length≠1) : (C.wordsC 1).e≠0:=by
  unfold aj.wordsR at h
  unfold aj.wordsC
  split
  · exact eY (by unfold aj.fails;simp)
  · rename_i hb
    rw[if_neg hb] at h
    by_cases hf:C.fails (2*1)=true
    · exact eY hf
    · exfalso
      apply h
      unfold aj.bytesR
      rw[if_neg hf]
      unfold aj.fails at hf
      simp only[Bool.or_eq_true,decide_eq_true_eq,not_or] at hf
      rcases e:C.l with _|⟨a,_|⟨b,t⟩⟩
      · rw[e] at hf;simp at hf
      · rw[e] at hf;simp at hf
      · show(cI [a,b]).length=1
        unfold cI
        rw[if_pos (by simp)]
        simp[di]
theorem pE{C:aj}(h:(C.wordsR 1).length=1) : [C.wordV]=C.wordsR 1:=by
  unfold aj.wordV
  rcases e:C.wordsR 1 with _|⟨a,_|⟨b,t⟩⟩
  · rw[e] at h;simp at h
  · rfl
  · rw[e] at h;simp at h
theorem rM{M M':aO}{C:aj}(h:C.e≠0) : b6 M C=b6 M' C:=by
  unfold b6
  have e:C.endC.e≠0:=by unfold aj.endC;rw[eg h];exact h
  rw[if_neg e,if_neg e]
theorem rp(dir:Int)(C:aj) : eP dir C=eI dir C:=by
  unfold eP eI
  rw[Bool.or_comm]
theorem rI(dir c:Int)(C:aj) : b6 (ep dir c C).2 (ep dir c C).1=b6 (ea dir c C).2 (ea dir c C).1:=by
  unfold ep ea
  rw[rp]
  by_cases h0:C.wordV=0
  · rw[h0,if_pos (show((0:Int)==0)=true from rfl),if_neg (show ¬ ((0:Int)!=0)=true from by decide)]
  · rw[if_neg (by simpa using h0),if_pos (by simpa using h0)]
    by_cases h1:((eI dir C).wordsR 1).length=1
    · rw[pE h1,show((((eI dir C).wordsR 1).length:Int)==1)=true from by rw[h1];rfl,Bool.true_and]
      rfl
    · have k:=mY h1
      dsimp only
      rw[eg k,eg k]
      exact rM k
theorem lT{f f':Int→Int→aj→Option (aj × aO)}{dir c:Int}{b:List Int}(h:∀ C,(dir=0∨dir=1)→(f dir c C=none∧f' dir c C=none)∨∃ r r',f dir c C=some r∧f' dir c C=some r'∧b6 r.2 r.1=b6 r'.2 r'.1) : ai f dir c b=ai f' dir c b:=by
  unfold ai
  split
  · rename_i hd
    rcases h ⟨b,false,0⟩ hd with⟨h1,h2⟩|⟨r,r',h1,h2,h3⟩
    · rw[h1,h2]
    · rw[h1,h2];exact h3
  · rfl
theorem nw(dir c:Int)(b:List Int) : ai bB dir c b=ai aV dir c b:=by
  refine lT fun C hd=>?_
  unfold bB aV
  by_cases h8:c=8
  · subst h8
    exact .inr ⟨_,_,rfl,rfl,rI dir 8 C⟩
  · by_cases h:c=7∨c=11∨c=12∨c=17
    · refine .inr ?_
      rw[if_neg (show ¬ (((((c != 7)&&(c != 8))&&(c != 11))&&(c != 12))&&(c != 17))=true from by rcases h with rfl | rfl | rfl | rfl<;>decide),if_neg (show ¬ (c==8)=true from by simpa using h8),if_neg (show ¬ (c==8)=true from by simpa using h8),if_pos (show(c==7 || c==11 || c==12 || c==17)=true from by rcases h with rfl | rfl | rfl | rfl<;>decide)]
      rcases hd with rfl|rfl
      · exact⟨_,_,rfl,rfl,rfl⟩
      · refine⟨_,_,rfl,rfl,?_⟩
        rcases h with rfl|rfl|rfl|rfl<;>rfl
    · refine .inl ?_
      rw[if_pos (show(((((c != 7)&&(c != 8))&&(c != 11))&&(c != 12))&&(c != 17))=true from by simp;omega),if_neg (show ¬ (c==8)=true from by simpa using h8),if_neg (show ¬ (c==7 || c==11 || c==12 || c==17)=true from by simp;omega)]
      exact⟨rfl,rfl⟩
open Go.RowKit
theorem nd{n:Int}:dE n=if n<1 then 0 else n/8+(if 0<n%8 then 1 else 0):=by
  unfold dE
  split
  · rfl
  · split<;>omega
theorem lv(l:List Bool)(j:Nat) : bV (l.take (8*j)) j=0:=by
  have h:=mf l (8*j)
  rw[show 8*j/8=j from by omega,show 8*j%8=0 from by omega] at h
  omega
theorem jA{l:List Bool}{j t:Nat}(ht:t<8) : bV (l.take (8*j+t+1)) j=bV (l.take (8*j+t)) j+if l.getD (8*j+t) false=true then 2 ^ t else 0:=by
  rw[ic,show(8*j+t)/8=j from by omega,show(8*j+t)%8=t from by omega]
  simp
theorem sM{l:List Bool}{j t:Nat}(h:t=8∨l.length≤8*j+t) : bV (l.take (8*j+t)) j=bV l j:=by
  rcases h with rfl|h
  · unfold bV
    simp only[iy]
    simp
  · rw[List.take_of_length_le h]
theorem sR{l:List Bool}{j:Nat}(h1:l.length≤8*j)(h2:8*j<l.length+8) : (List.range j).map (fun i=>(bV l i:Int))=bK l:=by
  unfold bK
  rw[show(dE l.length).toNat=j from by unfold dE;split<;>omega]
theorem sl(l:List Bool) : ((bK l).length:Int)=dE l.length:=by
  unfold bK
  rw[List.length_map,List.length_range]
  unfold dE
  split<;>omega
theorem zE:∀ x0 x1 x2 x3 x4 x5 x6 x7:Bool,∀ t:Fin 8,(((((if x0=true then 1 else 0)+(if x1=true then 2 else 0)+(if x2=true then 4 else 0)+(if x3=true then 8 else 0)+(if x4=true then 16 else 0)+(if x5=true then 32 else 0)+(if x6=true then 64 else 0)+(if x7=true then 128 else 0) : Nat) : Int)/2 ^ t.val%2==1)=[x0,x1,x2,x3,x4,x5,x6,x7].getD t.val false):=by decide +kernel
theorem xc{l:List Bool}{j t:Nat}(ht:t<8) : ((bV l j:Int)/2 ^ t%2==1)=l.getD (8*j+t) false:=by
  have h:=zE (l.getD (8*j) false) (l.getD (8*j+1) false) (l.getD (8*j+2) false) (l.getD (8*j+3) false) (l.getD (8*j+4) false) (l.getD (8*j+5) false) (l.getD (8*j+6) false) (l.getD (8*j+7) false) ⟨t,ht⟩
  refine h.trans ?_
  rcases t with _|_|_|_|_|_|_|_|t
  case succ.succ.succ.succ.succ.succ.succ.succ=>omega
  all_goals rfl
theorem oo(l:List Bool) : ci (bK l) (l.length:Int)=some ((List.range l.length).map (cl (bK l))):=by
  have hl:=sl l
  unfold ci
  rw[if_pos ⟨by omega,hl⟩,if_pos,show((l.length:Int)).toNat=l.length from by omega]
  rw[List.all_eq_true]
  intro i hi
  have hi:i<8*(bK l).length:=by simpa using hi
  simp only[Bool.or_eq_true,decide_eq_true_eq,Bool.not_eq_true']
  by_cases h:(i:Int)<l.length
  · exact .inl h
  · refine .inr ?_
    have hj:i/8<(bK l).length:=by omega
    unfold cl
    have e:(bK l).getD (i/8) 0=(bV l (i/8) : Int):=by
      have hj2:i/8<(dE (l.length:Int)).toNat:=by omega
      unfold bK
      rw[List.getD_eq_getElem?_getD,List.getElem?_map,List.getElem?_range hj2]
      rfl
    rw[e,xc (Nat.mod_lt _ (by decide)),show 8*(i/8)+i%8=i from by omega,List.getD_eq_getElem?_getD,List.getElem?_eq_none (by omega)]
    rfl
theorem nY{b:List Int}{n:Int}(hr:∀ x,x∈b→0≤x∧x<256)(h0:0≤n) : ci b n=if bK ((List.range n.toNat).map (cl b))=b then some ((List.range n.toNat).map (cl b)) else none:=by
  by_cases h:bK ((List.range n.toNat).map (cl b))=b
  · rw[if_pos h]
    have k:=oo ((List.range n.toNat).map (cl b))
    rw[h,List.length_map,List.length_range,show((n.toNat:Nat) : Int)=n from by omega] at k
    exact k
  · rw[if_neg h]
    cases e:ci b n with
    | none=>rfl
    | some l =>
      exfalso
      have k:=jZ hr e
      unfold ci at e
      split at e
      · split at e
        · injection e with e;rw[e] at h;exact h k
        · cases e
      · cases e
open Go.RowKit
theorem yQ{n:Int}{w:World}(hn : -1048576≤n∧n≤1048576) : Calls Tryz.prog 155 #[.int .i64 n] w (cY (.int .i64 (dE n)) w):=by
 refine en 14 Tryz.func155 rfl<|sg<|Pl 1<|nt<|sq<|sg<|Pl 2<|nt<|cb ((decide (n<1))) (fun a=>?_) (fun a=>?_)
 have c:=of_decide_eq_true a
 refine sg<|Pl 1<|nt<|rt<|tr<|rr (.int .i64 0)<|?_
 have hs:dE n=0:=by rw[nd];split<;>(try split)<;>omega
 rw[hs]
 exact⟨rfl,(aC.refl [] _)⟩
 have c:=of_decide_eq_false a
 refine bi<|sg<|Pl 1<|L0<|Oe (.int .i64 (IntKind.i64.wrap (Int.tdiv n 8))) (.int .i64 (n/8)) (congrArg (Value.int .i64) (fY (by omega) (by omega)))<|Pl 1<|nt<|sq<|sg<|Pl 1<|L0<|Oe (.int .i64 (Int.tmod n 8)) (.int .i64 (n%8)) (congrArg (Value.int .i64) (Int.tmod_eq_emod_of_nonneg (by omega)))<|?_
 refine Pl 1<|nt<|cb ((decide (0<(n%8)))) (fun b=>?_) (fun b=>?_)
 have d:=of_decide_eq_true b
 refine go<|Pl 1<|L0<|Oi ((n/8)+1)<|Pl 1<|ng<|Pl 2<|nt<|rt<|rr (.int .i64 ((n/8)+1))<|?_
 have hs:dE n=((n/8)+1):=by rw[nd];split<;>(try split)<;>omega
 rw[hs]
 exact⟨rfl,(aC.refl [] _)⟩
 have d:=of_decide_eq_false b
 refine bi<|sg<|Pl 2<|nt<|rt<|rr (.int .i64 (n/8))<|?_
 have hs:dE n=(n/8):=by rw[nd];split<;>(try split)<;>omega
 rw[hs]
 exact⟨rfl,(aC.refl [] _)⟩
theorem rb(l:List Bool)(j t:Nat)(ht:t≤8) : bV (l.take (8*j+t)) j<2 ^ t:=by
  induction t with
  | zero=>rw[Nat.add_zero,lv];decide
  | succ t ih =>
    have h:=ih (by omega)
    rw[← Nat.add_assoc,jA (by omega),Nat.pow_succ]
    split<;>omega
theorem tq{t:Nat}(ht:t≤8) : 2 ^ t≤256:=by
  rcases t with _|_|_|_|_|_|_|_|_|t
  case succ.succ.succ.succ.succ.succ.succ.succ.succ=>omega
  all_goals decide
theorem rl{l:List Bool}{j:Nat}(h1:¬ 8*j<l.length)(h2:8*j<l.length+8) : (List.range j).map (fun i=>(bV l i:Int))=bK l:=sR (by omega) h2
theorem sX{l:List Bool}{j t:Nat}{c:Int}(hc:c=(bV (l.take (8*j+t)) j:Int))(ht:t≤8)(h:t=8∨l.length≤8*j+t) : c%256=(bV l j:Int):=by
  have h1:=rb l j t ht
  have h2:=tq ht
  rw[sM h] at hc h1
  omega
theorem xh{m:Md}{A:Option Addr}{cp:Nat}{l:List Bool}{w:World}(h:i4 m w (.slice A l.length cp) l)(hn:l.length≤1048576) : Calls Tryz.prog 216 #[.slice A l.length cp] w (tZ l w):=by
 refine en 42 Tryz.func216 rfl<|sg<|Pl 1<|ng<|Pl 1<|nt<|sq<|sg<|?_
 refine Pl 1<|nt<|bk<|?_
 refine iM (fun x=>[(0,.slice A l.length cp),(2,.slice none 0 0),(3,.slice x.2.2.1 x.2.1.length x.2.2.2),(4,.int .i64 ((8*x.1:Nat) : Int))]) (fun(x:Nat × List Int × Option Addr × Nat) w'=>aC [] w w'∧eG w.heap.size w' (.slice x.2.2.1 x.2.1.length x.2.2.2) x.2.1∧(8*x.1<l.length+8)∧(x.2.1=(List.range x.1).map (fun i=>(bV l i:Int)))) (fun x=>l.length+8-8*x.1) (0,[],none,0) ⟨aC.refl _ _,(aS.nil w.heap.size _ _ sZ _),(by(try dsimp only);omega),rfl⟩ ?_
 rintro⟨j,L,B,cq⟩ r ⟨f,z,C,D⟩
 refine iL [(0,.slice A l.length cp),(2,.slice none 0 0),(3,.slice B L.length cq),(4,.int .i64 ((8*j:Nat) : Int))] ?_
 have g:eG w.heap.size r (.slice B L.length cq) L:=z
 have Z:8*j<l.length+8:=C
 have k:L=(List.range j).map (fun i=>(bV l i:Int)):=D
 have hLn:L.length=j:=by rw[k,List.length_map,List.length_range]
 refine sq<|sg<|Pl 4<|nt<|cb ((decide (((8*j:Nat) : Int)<((l.length:Nat) : Int)))) (fun n=>?_) (fun n=>?_)
 have E:=of_decide_eq_true n
 refine bi<|sq<|bk<|sg<|Pl 1<|ng<|Pl 1<|nt<|?_
 refine sq<|sg<|Pl 2<|nt<|bk<|?_
 refine iM (fun x=>[(0,.slice A l.length cp),(2,.slice none 0 0),(3,.slice B L.length cq),(4,.int .i64 ((8*j:Nat) : Int)),(5,.int .i64 x.2.1),(6,.int .i64 x.2.2),(7,.int .i64 ((8*j+x.1:Nat) : Int)),(8,.int .i64 ((8*j:Nat) : Int)),(9,.slice A l.length cp),(10,.int .i64 ((l.length:Nat) : Int)),(11,.bool (decide (((8*j:Nat) : Int)<((l.length:Nat) : Int)))),(14,.int .i64 ((8*j:Nat) : Int))]) (fun(x:Nat × Int × Int) w'=>aC [] r w'∧(x.1≤8)∧(x.2.1=(bV (l.take (8*j+x.1)) j:Int))∧(x.2.2=((2 ^ x.1:Nat) : Int))) (fun x=>8-x.1) (0,0,1) ⟨aC.refl _ _,(by(try dsimp only);omega),(by(try dsimp only);rw[Nat.add_zero,lv];rfl),rfl⟩ ?_
 rintro⟨t,c,u⟩ a0 ⟨a,F,G,H⟩
 refine iL [(0,.slice A l.length cp),(2,.slice none 0 0),(3,.slice B L.length cq),(4,.int .i64 ((8*j:Nat) : Int)),(5,.int .i64 c),(6,.int .i64 u),(7,.int .i64 ((8*j+t:Nat) : Int)),(8,.int .i64 ((8*j:Nat) : Int)),(9,.slice A l.length cp),(10,.int .i64 ((l.length:Nat) : Int)),(11,.bool (decide (((8*j:Nat) : Int)<((l.length:Nat) : Int)))),(14,.int .i64 ((8*j:Nat) : Int))] ?_
 have a1:t≤8:=F
 have I:c=(bV (l.take (8*j+t)) j:Int):=G
 have a2:u=((2 ^ t:Nat) : Int):=H
 have hpl:=rb l j t (by omega)
 have hpp:=tq (t:=t) (by omega)
 refine sq<|sg<|Pl 5<|cu 5 [19] 24 (((decide (((8*j+t:Nat) : Int)<((l.length:Nat) : Int)))&&(decide (((8*j+t:Nat) : Int)<(((8*j:Nat) : Int)+8))))) (fun K s=>?_) ?_
 refine bl 19 ((decide (((8*j+t:Nat) : Int)<((l.length:Nat) : Int)))) (fun b=>?_) (fun b=>?_)
 have J:=of_decide_eq_true b
 exact Pl 2<|L1<|Oi (((8*j:Nat) : Int)+8)<|Pl 2<|ce s (decide (((8*j+t:Nat) : Int)<(((8*j:Nat) : Int)+8))) (by rw[b];rfl)
 have J:=of_decide_eq_false b
 exact Pl 5<|ce s false (by rw[b];rfl)
 refine nt<|?_
 have y:=aD f a
 refine cb (((decide (((8*j+t:Nat) : Int)<((l.length:Nat) : Int)))&&(decide (((8*j+t:Nat) : Int)<(((8*j:Nat) : Int)+8))))) (fun d=>?_) (fun d=>?_)
 have M:=(aU d).1
 have N:=(aU d).2
 have a3:=of_decide_eq_true M
 have a4:=of_decide_eq_true N
 refine bi<|sq<|bk<|sq<|sg<|Pl 2<|?_
 refine zz (i4.at_ (i4.old h y) (8*j+t) (by omega)) fun O P Q R=>L0<|m0 l.length (8*j+t) Q (by omega)<|L0<|eq (p:=⟨O,P+(8*j+t),none⟩) (v:=.bool (l.getD (8*j+t) false)) R<|nt<|cb ((l.getD (8*j+t) false)) (fun o=>?_) (fun o=>?_)
 refine go<|Pl 2<|L0<|Oi (c+u)<|Pl 1<|nt<|go<|Pl 1<|L0<|Oi (2*u)<|Pl 1<|nl<|bn<|tn<|go<|?_
 exact Pl 1<|L0<|Oi (((8*j+t:Nat) : Int)+1)<|Pl 1<|nl<|gE ((t+1),(c+u),(2*u)) ⟨a,(by(try dsimp only);omega),(by(try dsimp only);rw[← Nat.add_assoc,jA (by omega),if_pos o];omega),(by(try dsimp only);rw[Nat.pow_succ];omega)⟩ (by omega)
 refine bi<|go<|Pl 1<|L0<|Oi (2*u)<|Pl 1<|nl<|bn<|tn<|go<|Pl 1<|L0<|Oi (((8*j+t:Nat) : Int)+1)<|Pl 1<|nl<|?_
 exact gE ((t+1),c,(2*u)) ⟨a,(by(try dsimp only);omega),(by(try dsimp only);rw[← Nat.add_assoc,jA (by omega),if_neg (by rw[o];decide)];omega),(by(try dsimp only);rw[Nat.pow_succ];omega)⟩ (by omega)
 refine xt<|tx<|tx<|bx<|tn<|go<|Pl 3<|L0<|cL (m:=1) (e:=5) #[.int .u8 (c%256)] fun a5 a6 S T q=>?_
 have U:=cG S (xs:=[(c%256)]) (by as_aux_lemma=>kernel_rfl) (au (by omega) aK) (by(try simp only[List.length_cons,List.length_nil]);omega) T
 refine L0<|bS aZ (xs:=L) (ys:=([(c%256)])) (.int .u8 0) 1 (aq g (aD a q) (fun x hx=>aA) (fun _ _ h=>h)) (U).rd (by(try simp only[List.length_append,List.length_cons,List.length_nil,az]);omega) (le (le f.size a.size) q.size) fun V W a7 X Y=>Pl 1<|nl<|bn<|tn<|go<|Pl 1<|L0<|Oi (((8*j:Nat) : Int)+8)<|Pl 1<|nl<|?_
 exact gE ((j+1),(L++[(c%256)]),V,W) ⟨(ut y (ut (aC.mono (S':=(ob B++[])) q ax) Y (av il ax)) (av (aP g lr) ax)),X,(by(try dsimp only);omega),(by(try dsimp only);rw[k,List.range_succ,List.map_append];show _++[_]=_++[_];rw[sX I (by omega) (by have hq:=d;simp only[Bool.and_eq_false_iff,decide_eq_false_iff_not] at hq;omega)])⟩ (by omega)
 have E:=of_decide_eq_false n
 refine xt<|tx<|tx<|bx<|tn<|sg<|Pl 2<|nt<|rt<|rr (.slice B L.length cq)<|?_
 have hs:L=bK l:=by rw[k];exact rl (by omega) (by omega)
 exact⟨_,rfl,by rw[← hs];exact g,f⟩
theorem wK{m:Md}{v:Value}{l:List Bool}{w:World}(h:i4 m w v l)(hn:l.length≤1048576) : Calls Tryz.prog 216 #[v] w (tZ l w):=by
  obtain⟨A,c,rfl,_,_⟩:=h.shape
  exact xh h hn
theorem uN{P:Program}{w:World}{ev:Operand→Value}{o:Oper}{x y:Operand}{t t':TypeId}{a b:ByteArray}{v:Bool}(ho:o.op = .binOp .neq t x y t')(hx:ev x = .string a)(hy:ev y = .string b)(hv:(a.toList==b.toList)=v) : (execOp ev o).run P w = .ok (.value (.bool !v)) w:=by
  have hg:eqGuard .neq t x y (.string a) (.string b)=pure ():=rfl
  unfold execOp
  simp only[ho,hx,hy,hg,binOp_string_neq,Sem.run_bind,Sem.run_pure,Result.andThen,hv]
theorem zj{w0 w:World}{g:Nat}{cs:Array Value}{xs:List Bool}(hg:w0.heap.size≤g)(hcs:cs=(xs.map Value.bool).toArray)(hl:xs.length≤4194304)(hb:w.heap[g]? = some (.cells cs 4 (0,0))) :
    wx w0.heap.size w (.slice (some ⟨g,0,none⟩) xs.length xs.length) xs:=xQ (enc:=Value.bool) hg hcs (fun x h=>rfl) hl hb
theorem sA{x c:Int}{k:Nat}(h:c=x/2 ^ k) : c/2=x/2 ^ (k+1):=by
  rw[h,Int.ediv_ediv_of_nonneg (Int.le_of_lt (Int.pow_pos (by decide))),Int.pow_succ]
theorem ta{x c:Int}(hx:0≤x∧x<256){k:Nat}(h:c=x/2 ^ k) : 0≤c∧c<256:=by
  have h1:(1:Int)≤2 ^ k:=Int.pow_pos (by decide)
  subst h
  exact⟨Int.ediv_nonneg hx.1 (by omega),Int.lt_of_le_of_lt (Int.ediv_le_self _ hx.1) hx.2⟩
theorem se{l:List Int}{i:Nat}(h:i<l.length) : l.getD i 0∈l:=by
  rw[List.getD_eq_getElem?_getD,List.getElem?_eq_getElem h]
  exact List.getElem_mem h
theorem uj{m:Md}{A:Option Addr}{cp:Nat}{b:List Int}{n:Int}{w:World}(h:b9 m w (.slice A b.length cp) b)(hl:b.length≤1048576)(hn : -1048576≤n∧n≤1048576) : Calls Tryz.prog 156 #[.slice A b.length cp,.int .i64 n] w (fV b n w):=by
 have hb:=b9.range h
 refine en 51 Tryz.func156 rfl<|sg<|Pl 2<|nt<|sq<|sg<|Pl 3<|cu 6 [12] 18 (((decide (n<0))||(decide ((8*((b.length:Nat) : Int))<n)))) (fun K H=>?_) ?_
 refine bl 12 ((decide (n<0))) (fun d=>?_) (fun d=>?_)
 have R:=of_decide_eq_true d
 exact Pl 6<|ce H true (by rw[d];rfl)
 have R:=of_decide_eq_false d
 exact Pl 3<|L1<|Oi (8*((b.length:Nat) : Int))<|Pl 2<|ce H (decide ((8*((b.length:Nat) : Int))<n)) (by rw[d];rfl)
 refine nt<|cb (((decide (n<0))||(decide ((8*((b.length:Nat) : Int))<n)))) (fun g=>?_) (fun g=>?_)
 refine sg<|Pl 2<|nt<|rt<|tr<|rr (.tuple #[.slice none 0 0,.bool false])<|?_
 have hq:=g
 have hs:ci b n=none:=by unfold ci;rw[if_neg];rintro⟨h1,h2⟩;simp only[Bool.or_eq_true,decide_eq_true_eq] at hq;rw[nd] at h2;split at h2<;>(try split at h2)<;>omega
 exact eZ hs (aC.refl [] _)
 have S:=(aF g).1
 have T:=(aF g).2
 have ae:=of_decide_eq_false S
 have af:=of_decide_eq_false T
 refine bi<|sg<|Pl 1<|nt<|sq<|sg<|Pl 1<|nt<|bk<|?_
 refine iM (fun x=>[(0,.slice A b.length cp),(1,.int .i64 n),(4,.slice none 0 0),(5,.bool false),(6,.slice x.2.2.1 x.2.1.length x.2.2.2),(7,.int .i64 ((x.1:Nat) : Int))]) (fun(x:Nat × List Bool × Option Addr × Nat) w'=>aC [] w w'∧wx w.heap.size w' (.slice x.2.2.1 x.2.1.length x.2.2.2) x.2.1∧(((x.1:Nat) : Int)≤n)∧(x.2.1=(List.range x.1).map (cl b))) (fun x=>n.toNat-x.1) (0,[],none,0) ⟨aC.refl _ _,(aS.nil w.heap.size _ _ mT _),(by(try dsimp only);omega),rfl⟩ ?_
 rintro⟨i,L,B,cq⟩ I ⟨j,U,V,W⟩
 refine iL [(0,.slice A b.length cp),(1,.int .i64 n),(4,.slice none 0 0),(5,.bool false),(6,.slice B L.length cq),(7,.int .i64 ((i:Nat) : Int))] ?_
 have r:wx w.heap.size I (.slice B L.length cq) L:=U
 have ag:((i:Nat) : Int)≤n:=V
 have o:L=(List.range i).map (cl b):=W
 have hLn:L.length=i:=by rw[o,List.length_map,List.length_range]
 have hi8:(((i:Nat) : Int)/8).toNat=i/8:=by omega
 refine sq<|sg<|Pl 3<|nt<|cb ((decide (((i:Nat) : Int)<n))) (fun s=>?_) (fun s=>?_)
 have X:=of_decide_eq_true s
 refine bi<|sq<|bk<|sg<|Pl 2<|L0<|Oe (.int .i64 (IntKind.i64.wrap (Int.tdiv ((i:Nat) : Int) 8))) (.int .i64 (((i:Nat) : Int)/8)) (congrArg (Value.int .i64) (fY (by omega) (by omega)))<|?_
 refine gj (b9.at_ (b9.old h j) (((((i:Nat) : Int)/8)).toNat) (by omega)) fun t u Y Z ah=>L0<|vZ b.length (((((i:Nat) : Int)/8)).toNat) (((i:Nat) : Int)/8) (by omega) Y (by omega)<|L0<|eq (p:=⟨t,u+(((((i:Nat) : Int)/8)).toNat),none⟩) (v:=.int .u8 (b.getD (((((i:Nat) : Int)/8)).toNat) 0)) Z<|L0<|Oi (b.getD (((((i:Nat) : Int)/8)).toNat) 0)<|Pl 1<|nt<|sq<|sg<|Pl 1<|nt<|bk<|?_
 refine iM (fun x=>[(0,.slice A b.length cp),(1,.int .i64 n),(4,.slice none 0 0),(5,.bool false),(6,.slice B L.length cq),(7,.int .i64 ((i:Nat) : Int)),(8,.int .i64 x.2),(9,.int .i64 ((x.1:Nat) : Int)),(19,.int .i64 ((i:Nat) : Int)),(20,.int .i64 n),(21,.bool (decide (((i:Nat) : Int)<n))),(24,.slice A b.length cp),(25,.int .i64 ((i:Nat) : Int)),(26,.int .i64 (((i:Nat) : Int)/8)),(27,.pointer (some (⟨t,u+(((((i:Nat) : Int)/8)).toNat),none⟩))),(28,.int .u8 (b.getD (((((i:Nat) : Int)/8)).toNat) 0)),(29,.int .i64 (b.getD (((((i:Nat) : Int)/8)).toNat) 0))]) (fun(x:Nat × Int) w'=>aC [] I w'∧(x.1≤i%8)∧(x.2=b.getD (i/8) 0/2 ^ x.1)) (fun x=>8-x.1) (0,(b.getD (((((i:Nat) : Int)/8)).toNat) 0)) ⟨aC.refl _ _,(by(try dsimp only);omega),(by(try dsimp only);rw[hi8,Int.pow_zero,Int.ediv_one])⟩ ?_
 rintro⟨k,c⟩ ai ⟨q,a0,a1⟩
 refine iL [(0,.slice A b.length cp),(1,.int .i64 n),(4,.slice none 0 0),(5,.bool false),(6,.slice B L.length cq),(7,.int .i64 ((i:Nat) : Int)),(8,.int .i64 c),(9,.int .i64 ((k:Nat) : Int)),(19,.int .i64 ((i:Nat) : Int)),(20,.int .i64 n),(21,.bool (decide (((i:Nat) : Int)<n))),(24,.slice A b.length cp),(25,.int .i64 ((i:Nat) : Int)),(26,.int .i64 (((i:Nat) : Int)/8)),(27,.pointer (some (⟨t,u+(((((i:Nat) : Int)/8)).toNat),none⟩))),(28,.int .u8 (b.getD (((((i:Nat) : Int)/8)).toNat) 0)),(29,.int .i64 (b.getD (((((i:Nat) : Int)/8)).toNat) 0))] ?_
 have aj:k≤i%8:=a0
 have y:c=b.getD (i/8) 0/2 ^ k:=a1
 have hcr:=ta (hb _ (se (l:=b) (i:=i/8) (by omega))) y
 refine sq<|sg<|Pl 2<|L0<|Oe (.int .i64 (Int.tmod ((i:Nat) : Int) 8)) (.int .i64 (((i:Nat) : Int)%8)) (congrArg (Value.int .i64) (Int.tmod_eq_emod_of_nonneg (by omega)))<|Pl 1<|nt<|?_
 refine cb ((decide (((k:Nat) : Int)<(((i:Nat) : Int)%8)))) (fun z=>?_) (fun z=>?_)
 have a2:=of_decide_eq_true z
 refine bi<|sq<|bk<|go<|Pl 1<|L0<|Oe (.int .i64 (IntKind.i64.wrap (Int.tdiv c 2))) (.int .i64 (c/2)) (congrArg (Value.int .i64) (fY (by omega) (by omega)))<|Pl 1<|nl<|bn<|tn<|go<|Pl 1<|L0<|Oi (((k:Nat) : Int)+1)<|?_
 exact Pl 1<|nl<|gE ((k+1),(c/2)) ⟨q,(by(try dsimp only);omega),sA y⟩ (by omega)
 have a2:=of_decide_eq_false z
 refine xt<|tx<|tx<|bx<|tn<|go<|Pl 2<|L0<|Oe (.int .i64 (Int.tmod c 2)) (.int .i64 (c%2)) (congrArg (Value.int .i64) (Int.tmod_eq_emod_of_nonneg (by omega)))<|Pl 1<|L0<|cL (m:=1) (e:=4) #[.bool ((c%2)==1)] fun ak al a3 a4 C=>?_
 have a5:=zj a3 (xs:=[((c%2)==1)]) (by as_aux_lemma=>kernel_rfl)  (by(try simp only[List.length_cons,List.length_nil]);omega) a4
 refine L0<|bS tV (xs:=L) (ys:=([((c%2)==1)])) (.bool false) 1 (aq r (aD q C) (fun x hx=>aA) (fun _ _ h=>h)) (a5).rd (by(try simp only[List.length_append,List.length_cons,List.length_nil,az]);omega) (le (le j.size q.size) C.size) fun a6 a7 am a8 a9=>Pl 1<|nl<|bn<|tn<|go<|Pl 1<|L0<|Oi (((i:Nat) : Int)+1)<|Pl 1<|nl<|?_
 exact gE ((i+1),(L++[((c%2)==1)]),a6,a7) ⟨(ut (aD j q) (ut (aC.mono (S':=(ob B++[])) C ax) a9 (av il ax)) (av (aP r lr) ax)),a8,(by(try dsimp only);omega),(by(try dsimp only);rw[o,List.range_succ,List.map_append];show _++[_]=_++[cl b i];unfold cl;rw[y,show k=i%8 from by omega])⟩ (by omega)
 have X:=of_decide_eq_false s
 refine xt<|tx<|tx<|bx<|tn<|sq<|sq<|Rg 6 (fun w'=>b9 false w' (.slice A b.length cp) b) fun an J=>?_
 have M:=aD j J
 have D:=b9.old h M
 refine bg (aL.any D (fun _ _ h=>h)) fun E=>Rt 0 E<|Rt 3 E<|Rr 4 E (.string (strOfNums b)) (fun _ hs=>cP (A:=A) (n:=b.length) (c:=cp) rfl (by kernel_rfl) Tryz.underlying22 Tryz.underlying5 Tryz.underlying9 hs)<|?_
 have N:=aq r J (fun x hx=>aA) (fun _ _ h=>h)
 refine R0 1 rfl<|Oc<|du (wK (N).rd (by omega)) fun aa ab ao O ap ar F=>?_
 have P:=b9.old D F
 refine bg (aL.any P (fun _ _ h=>h)) fun au=>R0 2 rfl<|ju (.string (strOfNums (bK L))) (cP (A:=aa) (n:=(bK L).length) (c:=ab) rfl (by kernel_rfl) Tryz.underlying22 Tryz.underlying5 Tryz.underlying9 (O).rd)<|bg (aL.any P (fun _ _ h=>h)) fun ac=>Rr 5 ac (.bool (!(decide ((bK L)=b)))) (fun _ _=>uN (a:=(strOfNums (bK L))) (b:=(strOfNums b)) rfl (by kernel_rfl) (by kernel_rfl) (iV (O).rd D))<|re<|tn<|?_
 have Q:=aD M F
 refine cb ((!(decide ((bK L)=b)))) (fun f=>?_) (fun f=>?_)
 have G:(decide ((bK L)=b))=false:=by simpa using f
 have ad:=of_decide_eq_false G
 refine sg<|Pl 2<|nt<|rt<|tr<|rr (.tuple #[.slice none 0 0,.bool false])<|?_
 have hL:L=(List.range n.toNat).map (cl b):=by rw[o,show i=n.toNat from by omega]
 have hu:=nY (n:=n) hb (by omega)
 rw[if_neg (by rw[← hL];simpa using f)] at hu
 exact eZ hu Q
 have G:(decide ((bK L)=b))=true:=by simpa using f
 have ad:=of_decide_eq_true G
 refine bi<|sg<|Pl 3<|nt<|rt<|rr (.tuple #[.slice B L.length cq,.bool true])<|?_
 have hL:L=(List.range n.toNat).map (cl b):=by rw[o,show i=n.toNat from by omega]
 have hu:=nY (n:=n) hb (by omega)
 rw[if_pos (by rw[← hL];simpa using f),← hL] at hu
 exact⟨_,by rw[hu];rfl,by rw[hu];exact(aq N F (fun x hx=>aA) (fun _ _ h=>h)),Q⟩
theorem wI{m:Md}{v:Value}{b:List Int}{n:Int}{w:World}(h:b9 m w v b)(hl:b.length≤1048576)(hn : -1048576≤n∧n≤1048576) : Calls Tryz.prog 156 #[v,.int .i64 n] w (fV b n w):=by
  obtain⟨A,c,rfl,_,_⟩:=h.shape
  exact uj h hl hn
open Go.RowKit
def vF (w0:World)(m:Md)(A:Option Addr)(cp:Nat)(full:List Int)(g gm:Nat)(C':aj)(cs:Array Value)(w:World)(e:Ending)(w':World) : Prop:=e = .returned (.tuple #[])∧RC w0 m A cp full w' g C'∧w'.heap[gm]? = some (.cells cs 30 (0,0))∧aC [g,gm] w w'
theorem nz{w0:World}{m:Md}{A:Option Addr}{cp:Nat}{full:List Int}{w:World}{g gm:Nat}{c:Int}{C:aj}{most:Int}(hcode:B8 c)(hC:RC w0 m A cp full w g C)(hm:w.heap[gm]? = some (.cells (mC c) 30 (0,0)))(hgm:w0.heap.size≤gm)(hne:g≠gm) :
    Calls Tryz.prog 150 #[.pointer (some ⟨g,0,none⟩),.pointer (some ⟨gm,0,none⟩),.int .i64 most] w (vF w0 m A cp full g gm (bA C most) (mG c 0 C.wordV (C.wordsC 1).wordV 0 0 0 0 0 0 0 0 nS nS nS nS 0 0 0 0 0 nS) w):=by
 obtain⟨hcode1,hcode2⟩:=hcode
 have hrng:=bO (RC.rng hC)
 refine en 39 Tryz.func150 rfl<|sg<|Pl 2<|L0<|Oc<|m3 (cN hC) fun G t e H=>Pl 2<|?_
 refine L0<|bX (aW e (Ne.symm hne) hm) 2 (mG c 0 C.wordV 0 0 0 0 0 0 0 0 0 nS nS nS nS 0 0 0 0 0 nS) fun I dr f=>ng<|Pl 2<|?_
 have h:=us e f
 refine L0<|Oc<|m3 (cN (RC.upd t f (aa hne aA) (hC.u.trans' h (fun x hx=>.inr (by simp at hx;rcases hx with rfl | rfl;exact hC.new;exact hgm))))) fun J v i L=>Pl 2<|?_
 refine L0<|bX (aW i (Ne.symm hne) dr) 3 (mG c 0 C.wordV ((C.wordsC 1).wordV) 0 0 0 0 0 0 0 0 nS nS nS nS 0 0 0 0 0 nS) fun M j k=>ng<|Pl 3<|L0<|aN j 3<|L0<|Oi ((C.wordsC 1).wordV)<|Pl 1<|ng<|Pl 4<|cu 4 [25] 29 (((decide (0<((C.wordsC 1).wordV)))&&(decide (((C.wordsC 1).wordV)≤most)))) (fun K l=>?_) ?_
 refine bl 25 ((decide (0<((C.wordsC 1).wordV)))) (fun b=>?_) (fun b=>?_)
 have y:=of_decide_eq_true b
 exact Pl 4<|ce l (decide (((C.wordsC 1).wordV)≤most)) (by rw[b];rfl)
 have y:=of_decide_eq_false b
 exact Pl 4<|ce l false (by rw[b];rfl)
 have o:=ut h (us i k) (ac im (ac im ax))
 refine L0<|Oc<|m2 (aY (((decide (0<((C.wordsC 1).wordV)))&&(decide (((C.wordsC 1).wordV)≤most)))) 5 (RC.upd v k (aa hne aA) (hC.u.trans' o (fun x hx=>.inr (by simp at hx;rcases hx with rfl | rfl;exact hC.new;exact hgm))))) fun z B p=>?_
 refine fP B fun x36 D q=>?_
 refine nt<|go<|Pl 4<|?_
 have r:=aW p (Ne.symm hne) j
 refine L0<|aN r 2<|Pl 1<|L0<|Oc<|m1 (qY (a:=C.wordV) (n:=(C.wordsC 1).wordV) (w:=z) (by omega) (by omega)) fun N d=>?_
 refine L0<|Oc<|m2 (aY ((dv C.wordV ((C.wordsC 1).wordV))) 7 (RC.upd q d aA (aC.step (RC.u q) d))) fun O E F=>nl<|rm (.tuple #[])<|?_
 subst D
 have hs:bA C most=((((C.wordsC 1).wordsC 1).need ((decide (0<((C.wordsC 1).wordV)))&&(decide (((C.wordsC 1).wordV)≤most))) 5).need (dv C.wordV ((C.wordsC 1).wordV)) 7):=by
   unfold bA iX
   (try simp only[bs,if_true,if_false,decide_true,decide_false,eQ,reduceIte])
   all_goals rfl
 rw[hs]
 have s:=uz d F
 exact⟨rfl,E,(aW s (Ne.symm hne) r),(u1 o (u1 p s im) im)⟩
theorem kT{m:Md}{A:Option Addr}{cp:Nat}{b:List Int}{w:World}{c:Int}(hcode:B8 c)(hsl:b9 m w (.slice A b.length cp) b)(hb:b.length≤1048576) :
    Calls Tryz.prog 93 #[.int .i64 0,.int .u8 c,.slice A b.length cp] w (co (.slice A b.length cp) b (ai aE 0 c b) w):=by
 obtain⟨hcode1,hcode2⟩:=hcode
 have hln:(b.length:Int)≤1048576:=by omega
 refine en 113 Tryz.func93 rfl<|sg<|L0<|bH mZ fun aS cW o i f=>Pl 1<|nt<|sq<|sg<|Pl 6<|nt<|c0<|?_
 refine bi<|sg<|Pl 2<|L0<|dq #[.slice A b.length cp,.int .i64 0,.bool false,.int .i64 0] fun j cX a k g=>Pl 1<|ng<|Pl 2<|L0<|bH mZ fun a6 cY d a7 J=>L0<|b7 a7 (mC c) fun Y Z C=>?_
 refine nt<|sq<|sg<|Pl 1<|nt<|bk<|sq<|sg<|Pl 2<|nl<|?_
 refine tn<|?_
 have L:=ud J C d
 have l:=aD g L
 have q:=aD f l
 refine cb ((c==1)) (fun r=>?_) (fun r=>?_)
 have bV:=ah r
 refine bi<|ct r<|sq<|sg<|Pl 2<|nt<|c1<|sg<|Pl 1<|?_
 have a8:RC w _ A cp b Y j (aj.mk b false 0):=⟨hsl,q,(Nat.le_trans f.size a),⟨0,(ub L k),Nat.zero_le _,rfl⟩,by omega⟩
 have aT:=nb (am k) lr d
 refine L0<|Oc<|m3 (nz (most:=2000) (b8 (by omega)) a8 Z (Nat.le_trans (le f.size g.size) d) aT) fun cZ bW bY bZ=>?_
 have d0:=bO (RC.rng a8)
 have d1:=bO (c:=(aj.mk b false 0).wordsC 1) (cA (RC.rng a8) 1)
 refine nt<|xt<|tx<|bx<|tn<|sg<|Pl 1<|L0<|Oc<|m2 (et bW) fun d2 a9 aU=>nt<|sq<|sq<|?_
 refine go<|Pl 3<|L0<|eq (p:=⟨j,3,none⟩) (v:=.int .i64 (((bA (aj.mk b false 0) 2000).endC).e)) (RC.fld a9)<|Pl 1<|nt<|?_
 have ab:=u1 bZ aU im
 have aV:=ut q ab (ac (ni f.size a) (ac (ni (le f.size g.size) d) ax))
 have hs:ai aE 0 c b=b6 (aO.mk c 0 ((aj.mk b false 0).wordV) (((aj.mk b false 0).wordsC 1).wordV) 0 0 0 0 0 0 0 0 [] [] [] [] 0 0 0 0 0 []) (bA (aj.mk b false 0) 2000):=by
   unfold ai aE dh dg d6 fR ph gL pf mI pW dJ fb
   (try simp only[r,bs,if_true,if_false,decide_true,decide_false,eq_self,true_or,or_true,or_false,false_or,if_true,if_false,dC,dD,dB,dA,reduceIte,eQ])
   all_goals rfl
 refine cb (((((bA (aj.mk b false 0) 2000).endC).e)!=0)) (fun ad=>?_) (fun ad=>?_)
 have af:=ay ad
 refine sq<|Rg 7 (fun w'=>w'.cell? ⟨j,3,none⟩=some (.int .i64 (((bA (aj.mk b false 0) 2000).endC).e))) fun d3 a0=>?_
 have aX:=RC.upd a9 a0 aA (aC.step (RC.u a9) a0)
 refine bg (RC.fld aX) fun M=>Rt 0 M<|Rt 1 M<|Rt 2 M<|Rt 3 M<|Rl 4 M (fun _ hs=>hs)<|?_
 refine R0 5 rfl<|b7 (ub (ut l (aD ab a0) (ac (nr a) (ac (ni g.size d) ax))) i) mZ fun d4 c2 aZ=>?_
 have b0:=ud aV (uz a0 aZ) o
 refine bg (RC.fld (RC.upd aX aZ (aa (Ne.symm (nb (am i) lr a)) aA) b0)) fun c3=>Rt 6 c3<|re<|tn<|rt<|tr<|bN c2 (.int .i64 (((bA (aj.mk b false 0) 2000).endC).e))<|?_
 rw[hs]
 exact bf af b0
 have af:=ag ad
 refine bi<|sg<|?_
 refine L0<|bM (aW aU (Ne.symm aT) bY)<|?_
 refine L0<|b7 (ub (ut l ab (ac (nr a) (ac (ni g.size d) ax))) i) (mG c 0 ((aj.mk b false 0).wordV) (((aj.mk b false 0).wordsC 1).wordV) 0 0 0 0 0 0 0 0 nS nS nS nS 0 0 0 0 0 nS) fun d5 c4 c5=>Pl 1<|nt<|rt<|bN c4 (.int .i64 0)<|?_
 rw[hs]
 exact bo af ⟨_,_,_,_,_,rfl,aL.nil ..,aL.nil ..,(fun _ _ _=>aL.nil ..),aL.nil ..,aL.nil ..,(ch (by omega))⟩ (ud aV c5 o)
 have bV:=ak r
 refine go<|Pl 2<|nt<|cb ((c==2)) (fun D=>?_) (fun D=>?_)
 have c6:=ah D
 refine sq<|sg<|Pl 2<|nt<|c1<|sg<|Pl 1<|?_
 have al:RC w _ A cp b Y j (aj.mk b false 0):=⟨hsl,q,(Nat.le_trans f.size a),⟨0,(ub L k),Nat.zero_le _,rfl⟩,by omega⟩
 have b1:=nb (am k) lr d
 refine L0<|Oc<|m3 (nz (most:=2000) (b8 (by omega)) al Z (Nat.le_trans (le f.size g.size) d) b1) fun d7 c7 c8 c9=>?_
 have d8:=bO (RC.rng al)
 have d9:=bO (c:=(aj.mk b false 0).wordsC 1) (cA (RC.rng al) 1)
 refine nt<|xt<|tx<|bx<|tn<|sg<|Pl 1<|L0<|Oc<|m2 (et c7) fun da an b2=>nt<|sq<|sq<|?_
 refine go<|Pl 3<|L0<|eq (p:=⟨j,3,none⟩) (v:=.int .i64 (((bA (aj.mk b false 0) 2000).endC).e)) (RC.fld an)<|Pl 1<|nt<|?_
 have ao:=u1 c9 b2 im
 have b3:=ut q ao (ac (ni f.size a) (ac (ni (le f.size g.size) d) ax))
 have hs:ai aE 0 c b=b6 (aO.mk c 0 ((aj.mk b false 0).wordV) (((aj.mk b false 0).wordsC 1).wordV) 0 0 0 0 0 0 0 0 [] [] [] [] 0 0 0 0 0 []) (bA (aj.mk b false 0) 2000):=by
   unfold ai aE dh dg d6 fR ph gL pf mI pW dJ fb
   (try simp only[r,D,bs,if_true,if_false,decide_true,decide_false,eq_self,true_or,or_true,or_false,false_or,if_true,if_false,dC,dD,dB,dA,reduceIte,eQ])
   all_goals rfl
 refine cb (((((bA (aj.mk b false 0) 2000).endC).e)!=0)) (fun ap=>?_) (fun ap=>?_)
 have ar:=ay ap
 refine sq<|Rg 7 (fun w'=>w'.cell? ⟨j,3,none⟩=some (.int .i64 (((bA (aj.mk b false 0) 2000).endC).e))) fun db a1=>?_
 have b4:=RC.upd an a1 aA (aC.step (RC.u an) a1)
 refine bg (RC.fld b4) fun N=>Rt 0 N<|Rt 1 N<|Rt 2 N<|Rt 3 N<|Rl 4 N (fun _ hs=>hs)<|?_
 refine R0 5 rfl<|b7 (ub (ut l (aD ao a1) (ac (nr a) (ac (ni g.size d) ax))) i) mZ fun dc ca b5=>?_
 have ba:=ud b3 (uz a1 b5) o
 refine bg (RC.fld (RC.upd b4 b5 (aa (Ne.symm (nb (am i) lr a)) aA) ba)) fun cc=>Rt 6 cc<|re<|tn<|rt<|tr<|bN ca (.int .i64 (((bA (aj.mk b false 0) 2000).endC).e))<|?_
 rw[hs]
 exact bf ar ba
 have ar:=ag ap
 refine bi<|sg<|?_
 refine L0<|bM (aW b2 (Ne.symm b1) c8)<|?_
 refine L0<|b7 (ub (ut l ao (ac (nr a) (ac (ni g.size d) ax))) i) (mG c 0 ((aj.mk b false 0).wordV) (((aj.mk b false 0).wordsC 1).wordV) 0 0 0 0 0 0 0 0 nS nS nS nS 0 0 0 0 0 nS) fun dd cd cf=>Pl 1<|nt<|rt<|bN cd (.int .i64 0)<|?_
 rw[hs]
 exact bo ar ⟨_,_,_,_,_,rfl,aL.nil ..,aL.nil ..,(fun _ _ _=>aL.nil ..),aL.nil ..,aL.nil ..,(ch (by omega))⟩ (ud b3 cf o)
 have c6:=ak D
 refine sg<|Pl 2<|nt<|cb ((c==5)) (fun H=>?_) (fun H=>?_)
 have cg:=ah H
 refine sg<|Pl 1<|?_
 have cj:RC w _ A cp b Y j (aj.mk b false 0):=⟨hsl,q,(Nat.le_trans f.size a),⟨0,(ub L k),Nat.zero_le _,rfl⟩,by omega⟩
 refine L0<|Oc<|m3 (cN cj) fun de ck bb df=>Pl 1<|?_
 have O:=nb (am k) lr d
 refine L0<|bX (aW bb (Ne.symm O) Z) 2 (mG c 0 ((aj.mk b false 0).wordV) 0 0 0 0 0 0 0 0 0 nS nS nS nS 0 0 0 0 0 nS) fun di cl bc=>ng<|Pl 1<|?_
 have au:=us bb bc
 have bd:=ut q au (ac (ni f.size a) (ac (ni (le f.size g.size) d) ax))
 refine L0<|Oc<|m3 (cN (RC.upd ck bc (aa O aA) bd)) fun dj cm be dk=>Pl 1<|?_
 refine L0<|bX (aW be (Ne.symm O) cl) 4 (mG c 0 ((aj.mk b false 0).wordV) 0 (((aj.mk b false 0).wordsC 1).wordV) 0 0 0 0 0 0 0 nS nS nS nS 0 0 0 0 0 nS) fun dl av bh=>nt<|go<|Pl 2<|L0<|aN av 4<|Pl 2<|cu 4 [62] 66 ((((((aj.mk b false 0).wordsC 1).wordV)==0)||((((aj.mk b false 0).wordsC 1).wordV)==65280))) (fun K bj=>?_) ?_
 refine bl 62 (((((aj.mk b false 0).wordsC 1).wordV)==0)) (fun P=>?_) (fun P=>?_)
 have cn:=ah P
 exact Pl 4<|ce bj true (by rw[P];rfl)
 have cn:=ak P
 exact Pl 1<|L1<|aN av 4<|Pl 2<|ce bj ((((aj.mk b false 0).wordsC 1).wordV)==65280) (by rw[P];rfl)
 have aw:=us be bh
 have bm:=ut bd aw (ac (ni f.size a) (ac (ni (le f.size g.size) d) ax))
 refine L0<|Oc<|m2 (aY ((((((aj.mk b false 0).wordsC 1).wordV)==0)||((((aj.mk b false 0).wordsC 1).wordV)==65280))) 6 (RC.upd cm bh (aa O aA) bm)) fun dm cq cr=>?_
 refine fP cq fun Q cs cv=>?_
 refine nl<|bn<|tn<|sg<|Pl 1<|L0<|Oc<|m2 (et cv) fun dn az cw=>nt<|sq<|sg<|Pl 3<|L0<|eq (p:=⟨j,3,none⟩) (v:=.int .i64 Q.endC.e) (RC.fld az)<|?_
 refine Pl 1<|nt<|?_
 have a2:=u1 cr cw im
 have bp:=ud bm a2 (le f.size a)
 have hs:ai aE 0 c b=b6 (aO.mk c 0 ((aj.mk b false 0).wordV) 0 (((aj.mk b false 0).wordsC 1).wordV) 0 0 0 0 0 0 0 [] [] [] [] 0 0 0 0 0 []) Q:=by
   subst cs
   unfold ai aE dh dg d6 fR ph gL pf mI pW dJ fb
   (try simp only[r,D,H,bs,if_true,if_false,decide_true,decide_false,eq_self,true_or,or_true,or_false,false_or,if_true,if_false,dC,dD,dB,dA,reduceIte,eQ])
   all_goals rfl
 refine cb ((Q.endC.e != 0)) (fun aF=>?_) (fun aF=>?_)
 have aG:=ay aF
 refine sq<|Rg 7 (fun w'=>w'.cell? ⟨j,3,none⟩=some (.int .i64 Q.endC.e)) fun dp a3=>?_
 have bq:=RC.upd az a3 aA (aC.step (RC.u az) a3)
 refine bg (RC.fld bq) fun R=>Rt 0 R<|Rt 1 R<|Rt 2 R<|Rt 3 R<|Rl 4 R (fun _ hs=>hs)<|?_
 refine R0 5 rfl<|b7 (ub (ut l (ut au (u1 aw (aD a2 a3) im) (ac im (ac im ax))) (ac (nr a) (ac (ni g.size d) ax))) i) mZ fun dr cx bt=>?_
 have bv:=ud bp (uz a3 bt) o
 refine bg (RC.fld (RC.upd bq bt (aa (Ne.symm (nb (am i) lr a)) aA) bv)) fun cz=>Rt 6 cz<|re<|tn<|rt<|tr<|bN cx (.int .i64 Q.endC.e)<|?_
 rw[hs]
 exact bf aG bv
 have aG:=ag aF
 refine bi<|sg<|?_
 refine L0<|bM (aW a2 (Ne.symm O) av)<|?_
 refine L0<|b7 (ub (ut l (ut au (u1 aw a2 im) (ac im (ac im ax))) (ac (nr a) (ac (ni g.size d) ax))) i) (mG c 0 ((aj.mk b false 0).wordV) 0 (((aj.mk b false 0).wordsC 1).wordV) 0 0 0 0 0 0 0 nS nS nS nS 0 0 0 0 0 nS) fun ds cB cC=>Pl 1<|nt<|rt<|bN cB (.int .i64 0)<|?_
 rw[hs]
 exact bo aG ⟨_,_,_,_,_,rfl,aL.nil ..,aL.nil ..,(fun _ _ _=>aL.nil ..),aL.nil ..,aL.nil ..,(ch (by omega))⟩ (ud bp cC o)
 have cg:=ak H
 refine sg<|Pl 2<|nt<|cb ((c==15)) (fun S=>?_) (fun S=>?_)
 have cD:=ah S
 refine sg<|Pl 1<|?_
 have aH:RC w _ A cp b Y j (aj.mk b false 0):=⟨hsl,q,(Nat.le_trans f.size a),⟨0,(ub L k),Nat.zero_le _,rfl⟩,by omega⟩
 have E:=nb (am k) lr d
 refine L0<|Oc<|m3 (nz (most:=1968) (b8 (by omega)) aH Z (Nat.le_trans (le f.size g.size) d) E) fun dt cE cF F=>?_
 have dv:=bO (RC.rng aH)
 have dw:=bO (c:=(aj.mk b false 0).wordsC 1) (cA (RC.rng aH) 1)
 refine nt<|sq<|sg<|Pl 2<|nt<|c0<|bi<|sg<|Pl 1<|L0<|Oc<|m3 (dX cE) fun cG bw y dx=>?_
 refine L0<|Oi ((bA (aj.mk b false 0) 1968).byteV)<|Pl 1<|ng<|Pl 3<|?_
 have bz:=aW y (Ne.symm E) cF
 refine L0<|aN bz 3<|L0<|Oi (((aj.mk b false 0).wordsC 1).wordV)<|L0<|Oc<|m1 (yQ (n:=((aj.mk b false 0).wordsC 1).wordV) (w:=cG) (by omega)) fun dy s=>Pl 1<|?_
 refine L0<|Oc<|m2 (aY ((((bA (aj.mk b false 0) 1968).byteV)==(dE (((aj.mk b false 0).wordsC 1).wordV)))) 5 (RC.upd bw s aA (aC.step (RC.u bw) s))) fun dz cH G=>?_
 refine fP cH fun I cI bB=>?_
 refine nt<|sq<|Rg 12 (fun w'=>w'.cell? ⟨a6,3,none⟩=some (.int .u16 (((aj.mk b false 0).wordsC 1).wordV))) fun dF t=>?_
 have bC:=uz s (aD G t)
 have bD:=aW bC (Ne.symm E) bz
 refine bg (ae bD rfl) fun T=>Rt 0 T<|Rt 1 T<|Rt 3 T<|Rl 4 T (fun _ hs=>hs)<|Rr 5 T (.int .i64 (((aj.mk b false 0).wordsC 1).wordV)) (fun _ _=>cy (.int .i64 (IntKind.i64.wrap (((aj.mk b false 0).wordsC 1).wordV))) (by kernel_rfl) (congrArg (Value.int .i64) (i64_in (by omega))))<|?_
 have bE:=RC.upd bB t aA (aC.step (RC.u bB) t)
 refine R0 2 rfl<|Oc<|pg (fz (n:=(bA (aj.mk b false 0) 1968).byteV) (by omega) bE) fun cJ cK dG cL aI z=>?_
 have dH:=Nat.le_trans (aj.bytesR_le I ((bA (aj.mk b false 0) 1968).byteV)) (RC.clen bE)
 have bF:=aW z (Ne.symm E) bD
 refine bg (ae bF rfl) fun dI=>R0 6 rfl<|Oc (args:=#[.slice cJ ((I.bytesR ((bA (aj.mk b false 0) 1968).byteV)).length) cK,.int .i64 (((aj.mk b false 0).wordsC 1).wordV)])<|du (wI (n:=((aj.mk b false 0).wordsC 1).wordV) (cL _ _ (RC.rd aI)) (by omega) (by omega)) fun bG bI dK B dL dM a4=>?_
 have bJ:=ub a4 bF
 refine bg (ae bJ rfl) fun U=>Rt 7 U<|Rt 8 U<|Rt 9 U<|Rt 10 U<|Rt 11 U<|re<|tn<|sg<|Pl 2<|?_
 refine L0<|Oc<|m2 (aY ((ci (I.bytesR ((bA (aj.mk b false 0) 1968).byteV)) (((aj.mk b false 0).wordsC 1).wordV)).isSome) 6 (RC.upd aI a4 aA (aC.step (RC.u aI) a4))) fun dN cM bK=>?_
 refine fP cM fun V cO cP=>?_
 refine nt<|go<|Pl 2<|?_
 refine L0<|bX (aW bK (Ne.symm E) bJ) 13 (mG c 0 ((aj.mk b false 0).wordV) (((aj.mk b false 0).wordsC 1).wordV) 0 0 0 0 0 0 0 0 nS (.slice bG (((ci (I.bytesR ((bA (aj.mk b false 0) 1968).byteV)) (((aj.mk b false 0).wordsC 1).wordV)).getD []).length) bI) nS nS 0 0 0 0 0 nS) fun dO cQ bL=>nl<|bn<|tn<|sg<|Pl 1<|?_
 have aJ:=us bK bL
 have aK:=ut F (ui y (ui bC (ui z (uz a4 aJ)))) (ac im (ac im ax))
 have bP:=ut q aK (ac (ni f.size a) (ac (ni (le f.size g.size) d) ax))
 refine L0<|Oc<|m2 (et (RC.upd cP bL (aa E aA) bP)) fun dP aM W=>nt<|sq<|sg<|Pl 3<|L0<|eq (p:=⟨j,3,none⟩) (v:=.int .i64 V.endC.e) (RC.fld aM)<|Pl 1<|nt<|?_
 have bQ:=ud bP W (le f.size a)
 have hs:ai aE 0 c b=b6 (aO.mk c 0 ((aj.mk b false 0).wordV) (((aj.mk b false 0).wordsC 1).wordV) 0 0 0 0 0 0 0 0 [] ((ci (I.bytesR ((bA (aj.mk b false 0) 1968).byteV)) (((aj.mk b false 0).wordsC 1).wordV)).getD []) [] [] 0 0 0 0 0 []) V:=by
   subst cO cI
   unfold ai aE dh dg d6 fR ph gL pf mI pW dJ fb
   (try simp only[r,D,H,S,bs,if_true,if_false,decide_true,decide_false,eq_self,true_or,or_true,or_false,false_or,if_true,if_false,dC,dD,dB,dA,reduceIte,eQ])
   all_goals rfl
 refine cb ((V.endC.e != 0)) (fun aP=>?_) (fun aP=>?_)
 have aQ:=ay aP
 refine sq<|Rg 7 (fun w'=>w'.cell? ⟨j,3,none⟩=some (.int .i64 V.endC.e)) fun dQ a5=>?_
 have bR:=RC.upd aM a5 aA (aC.step (RC.u aM) a5)
 refine bg (RC.fld bR) fun X=>Rt 0 X<|Rt 1 X<|Rt 2 X<|Rt 3 X<|Rl 4 X (fun _ hs=>hs)<|?_
 have bS:=aD W a5
 refine R0 5 rfl<|b7 (ub (ut l (u1 aK bS im) (ac (nr a) (ac (ni g.size d) ax))) i) mZ fun dR cR aR=>?_
 have bT:=ud bQ (uz a5 aR) o
 refine bg (RC.fld (RC.upd bR aR (aa (Ne.symm (nb (am i) lr a)) aA) bT)) fun cS=>Rt 6 cS<|re<|tn<|rt<|tr<|bN cR (.int .i64 V.endC.e)<|?_
 have dS:=aq B (ut (aC.mono (S':=[j,a6,aS]) aJ (ac im (ac im ax))) (us bS aR) (ac im (ac im ax))) (fun x hx=>(aa (fun e=>(aB (am k) (le (le (le (le (le (le (le J.size C.size) F.size) y.size) s.size) G.size) t.size) z.size) B) (e▸hx)) (aa (fun e=>(aB (am a7) (le (le (le (le (le (le C.size F.size) y.size) s.size) G.size) t.size) z.size) B) (e▸hx)) (aa (fun e=>(aB (am i) (le (le (le (le (le (le (le (le g.size J.size) C.size) F.size) y.size) s.size) G.size) t.size) z.size) B) (e▸hx)) aA)))) (fun _ _ h=>h)
 rw[hs]
 exact bf aQ bT
 have aQ:=ag aP
 refine bi<|sg<|?_
 refine L0<|bM (aW W (Ne.symm E) cQ)<|?_
 refine L0<|b7 (ub (ut l (u1 aK W im) (ac (nr a) (ac (ni g.size d) ax))) i) (mG c 0 ((aj.mk b false 0).wordV) (((aj.mk b false 0).wordsC 1).wordV) 0 0 0 0 0 0 0 0 nS (.slice bG (((ci (I.bytesR ((bA (aj.mk b false 0) 1968).byteV)) (((aj.mk b false 0).wordsC 1).wordV)).getD []).length) bI) nS nS 0 0 0 0 0 nS) fun dT cT bU=>Pl 1<|nt<|rt<|bN cT (.int .i64 0)<|?_
 rw[hs]
 exact bo aQ ⟨_,_,_,_,_,rfl,aL.nil ..,((aq B (ut (aC.mono (S':=[j,a6,aS]) aJ (ac im (ac im ax))) (us W bU) (ac im (ac im ax))) (fun x hx=>(aa (fun e=>(aB (am k) (le (le (le (le (le (le (le J.size C.size) F.size) y.size) s.size) G.size) t.size) z.size) B) (e▸hx)) (aa (fun e=>(aB (am a7) (le (le (le (le (le (le C.size F.size) y.size) s.size) G.size) t.size) z.size) B) (e▸hx)) (aa (fun e=>(aB (am i) (le (le (le (le (le (le (le (le g.size J.size) C.size) F.size) y.size) s.size) G.size) t.size) z.size) B) (e▸hx)) aA)))) (fun _ _ h=>h))).rd,(fun _ _ _=>aL.nil ..),aL.nil ..,aL.nil ..,(ch (by omega))⟩ (ud bQ bU o)
 have cD:=ak S
 refine sg<|Pl 1<|?_
 refine L0<|b7 (ub l i) mZ fun dU cU cV=>Pl 1<|nt<|rt<|br<|tr<|bN cU (.int .i64 4)<|?_
 have hs:ai aE 0 c b=(aO.zero,4):=by
   unfold ai aE dh dg d6 fR ph gL pf mI pW dJ fb
   (try simp only[r,D,H,S,bs,if_true,if_false,decide_true,decide_false,eq_self,true_or,or_true,or_false,false_or,if_true,if_false,dC,dD,dB,dA,reduceIte,eQ])
   all_goals rfl
 rw[hs]
 exact bu (ud q cV o)
theorem l7{m:Md}{A:Option Addr}{cp:Nat}{b:List Int}{w:World}{c:Int}(hcode:B8 c)(hsl:b9 m w (.slice A b.length cp) b)(hb:b.length≤1048576) :
    Calls Tryz.prog 93 #[.int .i64 1,.int .u8 c,.slice A b.length cp] w (co (.slice A b.length cp) b (ai aE 1 c b) w):=by
 obtain⟨hcode1,hcode2⟩:=hcode
 have hln:(b.length:Int)≤1048576:=by omega
 refine en 113 Tryz.func93 rfl<|sg<|L0<|bH mZ fun cG cH k h d=>Pl 1<|nt<|sq<|sg<|Pl 6<|nt<|c0<|?_
 refine bi<|sg<|Pl 2<|L0<|dq #[.slice A b.length cp,.int .i64 0,.bool false,.int .i64 0] fun i cI a r g=>Pl 1<|ng<|Pl 2<|L0<|bH mZ fun cJ cK f bj bm=>L0<|b7 bj (mC c) fun J L bp=>?_
 refine nt<|sq<|sg<|Pl 1<|nt<|bk<|sq<|sg<|Pl 2<|nl<|?_
 refine tn<|?_
 have x:=ud bm bp f
 have j:=aD g x
 have l:=aD d j
 refine cb ((c==1)) (fun o=>?_) (fun o=>?_)
 have bq:=ah o
 refine bi<|ct o<|sq<|sg<|Pl 2<|nt<|c0<|bi<|sg<|?_
 refine Pl 1<|?_
 have bt:RC w _ A cp b J i (aj.mk b false 0):=⟨hsl,l,(Nat.le_trans d.size a),⟨0,(ub x r),Nat.zero_le _,rfl⟩,by omega⟩
 refine L0<|Oc<|m3 (dX bt) fun cL bv bw cM=>L0<|Oi ((aj.mk b false 0).byteV)<|Pl 1<|ng<|Pl 4<|cu 3 [41] 44 (((decide (0<((aj.mk b false 0).byteV)))&&(decide (((aj.mk b false 0).byteV)≤250)))) (fun K al=>?_) ?_
 refine bl 41 ((decide (0<((aj.mk b false 0).byteV)))) (fun y=>?_) (fun y=>?_)
 have bz:=of_decide_eq_true y
 exact Pl 3<|ce al (decide (((aj.mk b false 0).byteV)≤250)) (by rw[y];rfl)
 have bz:=of_decide_eq_false y
 exact Pl 3<|ce al false (by rw[y];rfl)
 refine L0<|Oc<|m2 (aY (((decide (0<((aj.mk b false 0).byteV)))&&(decide (((aj.mk b false 0).byteV)≤250)))) 5 bv) fun cO bB bC=>?_
 refine fP bB fun x43 bD an=>?_
 refine nt<|go<|Pl 2<|L0<|Oc<|pg (fz (n:=(aj.mk b false 0).byteV) (by omega) an) fun ao ap cP bE bF bG=>?_
 have cQ:=Nat.le_trans (aj.bytesR_le x43 ((aj.mk b false 0).byteV)) (RC.clen an)
 refine Pl 1<|?_
 have aq:=u1 bw (u1 bC bG im) im
 have T:=nb (am r) lr f
 refine L0<|bX (aW aq (Ne.symm T) L) 14 (mG c 0 0 0 0 0 0 0 0 0 0 0 nS nS (.slice ao ((x43.bytesR ((aj.mk b false 0).byteV)).length) ap) nS 0 0 0 0 0 nS) fun cR bI ar=>nl<|bn<|tn<|sg<|Pl 1<|?_
 have U:=us aq ar
 have au:=ut l U (ac (ni d.size a) (ac (ni (le d.size g.size) f) ax))
 refine L0<|Oc<|m2 (et (RC.upd bF ar (aa T aA) au)) fun cS V M=>nt<|sq<|sg<|Pl 3<|L0<|eq (p:=⟨i,3,none⟩) (v:=.int .i64 (((x43.bytesC ((aj.mk b false 0).byteV)).endC).e)) (RC.fld V)<|Pl 1<|nt<|?_
 have av:=ud au M (le d.size a)
 have hs:ai aE 1 c b=b6 (aO.mk c 0 0 0 0 0 0 0 0 0 0 0 [] [] (x43.bytesR ((aj.mk b false 0).byteV)) [] 0 0 0 0 0 []) (x43.bytesC ((aj.mk b false 0).byteV)):=by
   subst bD
   unfold ai aE dh dg d6 fR ph gL pf mI pW dJ fb
   (try simp only[o,bs,if_true,if_false,decide_true,decide_false,eq_self,true_or,or_true,or_false,false_or,if_true,if_false,dC,dD,dB,dA,reduceIte,eQ])
   all_goals rfl
 refine cb (((((x43.bytesC ((aj.mk b false 0).byteV)).endC).e)!=0)) (fun W=>?_) (fun W=>?_)
 have X:=ay W
 refine sq<|Rg 7 (fun w'=>w'.cell? ⟨i,3,none⟩=some (.int .i64 (((x43.bytesC ((aj.mk b false 0).byteV)).endC).e))) fun cT N=>?_
 have aw:=RC.upd V N aA (aC.step (RC.u V) N)
 refine bg (RC.fld aw) fun z=>Rt 0 z<|Rt 1 z<|Rt 2 z<|Rt 3 z<|Rl 4 z (fun _ hs=>hs)<|?_
 refine R0 5 rfl<|b7 (ub (ut j (u1 U (aD M N) im) (ac (nr a) (ac (ni g.size f) ax))) h) mZ fun cU bJ az=>?_
 have aB:=ud av (uz N az) k
 refine bg (RC.fld (RC.upd aw az (aa (Ne.symm (nb (am h) lr a)) aA) aB)) fun bK=>Rt 6 bK<|re<|tn<|rt<|tr<|bN bJ (.int .i64 (((x43.bytesC ((aj.mk b false 0).byteV)).endC).e))<|?_
 rw[hs]
 exact bf X aB
 have X:=ag W
 refine bi<|sg<|?_
 refine L0<|bM (aW M (Ne.symm T) bI)<|?_
 refine L0<|b7 (ub (ut j (u1 U M im) (ac (nr a) (ac (ni g.size f) ax))) h) (mG c 0 0 0 0 0 0 0 0 0 0 0 nS nS (.slice ao ((x43.bytesR ((aj.mk b false 0).byteV)).length) ap) nS 0 0 0 0 0 nS) fun cV bL bP=>Pl 1<|nt<|rt<|bN bL (.int .i64 0)<|?_
 rw[hs]
 exact bo X ⟨_,_,_,_,_,rfl,aL.nil ..,aL.nil ..,bE,aL.nil ..,aL.nil ..,(ch (by omega))⟩ (ud av bP k)
 have bq:=ak o
 refine go<|Pl 2<|nt<|cb ((c==2)) (fun s=>?_) (fun s=>?_)
 have bQ:=ah s
 refine sq<|sg<|Pl 2<|nt<|c0<|bi<|sg<|Pl 1<|?_
 have bR:RC w _ A cp b J i (aj.mk b false 0):=⟨hsl,l,(Nat.le_trans d.size a),⟨0,(ub x r),Nat.zero_le _,rfl⟩,by omega⟩
 refine L0<|Oc<|m3 (dX bR) fun cW bS bT cX=>L0<|Oi ((aj.mk b false 0).byteV)<|Pl 1<|ng<|Pl 4<|cu 3 [41] 44 (((decide (0<((aj.mk b false 0).byteV)))&&(decide (((aj.mk b false 0).byteV)≤250)))) (fun K aF=>?_) ?_
 refine bl 41 ((decide (0<((aj.mk b false 0).byteV)))) (fun B=>?_) (fun B=>?_)
 have bU:=of_decide_eq_true B
 exact Pl 3<|ce aF (decide (((aj.mk b false 0).byteV)≤250)) (by rw[B];rfl)
 have bU:=of_decide_eq_false B
 exact Pl 3<|ce aF false (by rw[B];rfl)
 refine L0<|Oc<|m2 (aY (((decide (0<((aj.mk b false 0).byteV)))&&(decide (((aj.mk b false 0).byteV)≤250)))) 5 bS) fun cY bV bW=>?_
 refine fP bV fun q bY aG=>?_
 refine nt<|go<|Pl 2<|L0<|Oc<|pg (fz (n:=(aj.mk b false 0).byteV) (by omega) aG) fun aH aI cZ bZ c2 c3=>?_
 have d0:=Nat.le_trans (aj.bytesR_le q ((aj.mk b false 0).byteV)) (RC.clen aG)
 refine Pl 1<|?_
 have aJ:=u1 bT (u1 bW c3 im) im
 have Y:=nb (am r) lr f
 refine L0<|bX (aW aJ (Ne.symm Y) L) 14 (mG c 0 0 0 0 0 0 0 0 0 0 0 nS nS (.slice aH ((q.bytesR ((aj.mk b false 0).byteV)).length) aI) nS 0 0 0 0 0 nS) fun d1 c4 aK=>nl<|bn<|tn<|sg<|Pl 1<|?_
 have Z:=us aJ aK
 have aM:=ut l Z (ac (ni d.size a) (ac (ni (le d.size g.size) f) ax))
 refine L0<|Oc<|m2 (et (RC.upd c2 aK (aa Y aA) aM)) fun d2 a0 O=>nt<|sq<|sg<|Pl 3<|L0<|eq (p:=⟨i,3,none⟩) (v:=.int .i64 (((q.bytesC ((aj.mk b false 0).byteV)).endC).e)) (RC.fld a0)<|Pl 1<|nt<|?_
 have aP:=ud aM O (le d.size a)
 have hs:ai aE 1 c b=b6 (aO.mk c 0 0 0 0 0 0 0 0 0 0 0 [] [] (q.bytesR ((aj.mk b false 0).byteV)) [] 0 0 0 0 0 []) (q.bytesC ((aj.mk b false 0).byteV)):=by
   subst bY
   unfold ai aE dh dg d6 fR ph gL pf mI pW dJ fb
   (try simp only[o,s,bs,if_true,if_false,decide_true,decide_false,eq_self,true_or,or_true,or_false,false_or,if_true,if_false,dC,dD,dB,dA,reduceIte,eQ])
   all_goals rfl
 refine cb (((((q.bytesC ((aj.mk b false 0).byteV)).endC).e)!=0)) (fun a1=>?_) (fun a1=>?_)
 have a2:=ay a1
 refine sq<|Rg 7 (fun w'=>w'.cell? ⟨i,3,none⟩=some (.int .i64 (((q.bytesC ((aj.mk b false 0).byteV)).endC).e))) fun d3 P=>?_
 have aQ:=RC.upd a0 P aA (aC.step (RC.u a0) P)
 refine bg (RC.fld aQ) fun C=>Rt 0 C<|Rt 1 C<|Rt 2 C<|Rt 3 C<|Rl 4 C (fun _ hs=>hs)<|?_
 refine R0 5 rfl<|b7 (ub (ut j (u1 Z (aD O P) im) (ac (nr a) (ac (ni g.size f) ax))) h) mZ fun d4 c5 aR=>?_
 have aS:=ud aP (uz P aR) k
 refine bg (RC.fld (RC.upd aQ aR (aa (Ne.symm (nb (am h) lr a)) aA) aS)) fun c6=>Rt 6 c6<|re<|tn<|rt<|tr<|bN c5 (.int .i64 (((q.bytesC ((aj.mk b false 0).byteV)).endC).e))<|?_
 rw[hs]
 exact bf a2 aS
 have a2:=ag a1
 refine bi<|sg<|?_
 refine L0<|bM (aW O (Ne.symm Y) c4)<|?_
 refine L0<|b7 (ub (ut j (u1 Z O im) (ac (nr a) (ac (ni g.size f) ax))) h) (mG c 0 0 0 0 0 0 0 0 0 0 0 nS nS (.slice aH ((q.bytesR ((aj.mk b false 0).byteV)).length) aI) nS 0 0 0 0 0 nS) fun d5 c7 c8=>Pl 1<|nt<|rt<|bN c7 (.int .i64 0)<|?_
 rw[hs]
 exact bo a2 ⟨_,_,_,_,_,rfl,aL.nil ..,aL.nil ..,bZ,aL.nil ..,aL.nil ..,(ch (by omega))⟩ (ud aP c8 k)
 have bQ:=ak s
 refine sg<|Pl 2<|nt<|cb ((c==5)) (fun t=>?_) (fun t=>?_)
 have c9:=ah t
 refine sg<|Pl 1<|?_
 have ca:RC w _ A cp b J i (aj.mk b false 0):=⟨hsl,l,(Nat.le_trans d.size a),⟨0,(ub x r),Nat.zero_le _,rfl⟩,by omega⟩
 refine L0<|Oc<|m3 (cN ca) fun d7 cc aT d8=>Pl 1<|?_
 have D:=nb (am r) lr f
 refine L0<|bX (aW aT (Ne.symm D) L) 2 (mG c 0 ((aj.mk b false 0).wordV) 0 0 0 0 0 0 0 0 0 nS nS nS nS 0 0 0 0 0 nS) fun d9 cd aU=>ng<|Pl 1<|?_
 have a3:=us aT aU
 have aV:=ut l a3 (ac (ni d.size a) (ac (ni (le d.size g.size) f) ax))
 refine L0<|Oc<|m3 (cN (RC.upd cc aU (aa D aA) aV)) fun da cf aX db=>Pl 1<|?_
 refine L0<|bX (aW aX (Ne.symm D) cd) 4 (mG c 0 ((aj.mk b false 0).wordV) 0 (((aj.mk b false 0).wordsC 1).wordV) 0 0 0 0 0 0 0 nS nS nS nS 0 0 0 0 0 nS) fun dc a4 aZ=>nt<|go<|Pl 2<|L0<|aN a4 4<|Pl 2<|cu 4 [62] 66 ((((((aj.mk b false 0).wordsC 1).wordV)==0)||((((aj.mk b false 0).wordsC 1).wordV)==65280))) (fun K b0=>?_) ?_
 refine bl 62 (((((aj.mk b false 0).wordsC 1).wordV)==0)) (fun E=>?_) (fun E=>?_)
 have cg:=ah E
 exact Pl 4<|ce b0 true (by rw[E];rfl)
 have cg:=ak E
 exact Pl 1<|L1<|aN a4 4<|Pl 2<|ce b0 ((((aj.mk b false 0).wordsC 1).wordV)==65280) (by rw[E];rfl)
 have a5:=us aX aZ
 have b1:=ut aV a5 (ac (ni d.size a) (ac (ni (le d.size g.size) f) ax))
 refine L0<|Oc<|m2 (aY ((((((aj.mk b false 0).wordsC 1).wordV)==0)||((((aj.mk b false 0).wordsC 1).wordV)==65280))) 6 (RC.upd cf aZ (aa D aA) b1)) fun dd ci cj=>?_
 refine fP ci fun F ck cl=>?_
 refine nl<|bn<|tn<|sg<|Pl 1<|L0<|Oc<|m2 (et cl) fun de a6 cm=>nt<|sq<|sg<|Pl 3<|L0<|eq (p:=⟨i,3,none⟩) (v:=.int .i64 F.endC.e) (RC.fld a6)<|?_
 refine Pl 1<|nt<|?_
 have Q:=u1 cj cm im
 have b2:=ud b1 Q (le d.size a)
 have hs:ai aE 1 c b=b6 (aO.mk c 0 ((aj.mk b false 0).wordV) 0 (((aj.mk b false 0).wordsC 1).wordV) 0 0 0 0 0 0 0 [] [] [] [] 0 0 0 0 0 []) F:=by
   subst ck
   unfold ai aE dh dg d6 fR ph gL pf mI pW dJ fb
   (try simp only[o,s,t,bs,if_true,if_false,decide_true,decide_false,eq_self,true_or,or_true,or_false,false_or,if_true,if_false,dC,dD,dB,dA,reduceIte,eQ])
   all_goals rfl
 refine cb ((F.endC.e != 0)) (fun a7=>?_) (fun a7=>?_)
 have a8:=ay a7
 refine sq<|Rg 7 (fun w'=>w'.cell? ⟨i,3,none⟩=some (.int .i64 F.endC.e)) fun df R=>?_
 have b3:=RC.upd a6 R aA (aC.step (RC.u a6) R)
 refine bg (RC.fld b3) fun G=>Rt 0 G<|Rt 1 G<|Rt 2 G<|Rt 3 G<|Rl 4 G (fun _ hs=>hs)<|?_
 refine R0 5 rfl<|b7 (ub (ut j (ut a3 (u1 a5 (aD Q R) im) (ac im (ac im ax))) (ac (nr a) (ac (ni g.size f) ax))) h) mZ fun di cn b4=>?_
 have b5:=ud b2 (uz R b4) k
 refine bg (RC.fld (RC.upd b3 b4 (aa (Ne.symm (nb (am h) lr a)) aA) b5)) fun cq=>Rt 6 cq<|re<|tn<|rt<|tr<|bN cn (.int .i64 F.endC.e)<|?_
 rw[hs]
 exact bf a8 b5
 have a8:=ag a7
 refine bi<|sg<|?_
 refine L0<|bM (aW Q (Ne.symm D) a4)<|?_
 refine L0<|b7 (ub (ut j (ut a3 (u1 a5 Q im) (ac im (ac im ax))) (ac (nr a) (ac (ni g.size f) ax))) h) (mG c 0 ((aj.mk b false 0).wordV) 0 (((aj.mk b false 0).wordsC 1).wordV) 0 0 0 0 0 0 0 nS nS nS nS 0 0 0 0 0 nS) fun dj cr cs=>Pl 1<|nt<|rt<|bN cr (.int .i64 0)<|?_
 rw[hs]
 exact bo a8 ⟨_,_,_,_,_,rfl,aL.nil ..,aL.nil ..,(fun _ _ _=>aL.nil ..),aL.nil ..,aL.nil ..,(ch (by omega))⟩ (ud b2 cs k)
 have c9:=ak t
 refine sg<|Pl 2<|nt<|cb ((c==15)) (fun H=>?_) (fun H=>?_)
 have cv:=ah H
 refine sg<|Pl 1<|?_
 have a9:RC w _ A cp b J i (aj.mk b false 0):=⟨hsl,l,(Nat.le_trans d.size a),⟨0,(ub x r),Nat.zero_le _,rfl⟩,by omega⟩
 have ba:=nb (am r) lr f
 refine L0<|Oc<|m3 (nz (most:=1968) (b8 (by omega)) a9 L (Nat.le_trans (le d.size g.size) f) ba) fun dk cw cx cy=>?_
 have dl:=bO (RC.rng a9)
 have dm:=bO (c:=(aj.mk b false 0).wordsC 1) (cA (RC.rng a9) 1)
 refine nt<|sq<|sg<|Pl 2<|nt<|c1<|xt<|tx<|bx<|tn<|sq<|?_
 refine go<|Pl 1<|L0<|Oc<|m2 (et cw) fun dn ab bb=>nt<|sq<|sg<|Pl 3<|L0<|eq (p:=⟨i,3,none⟩) (v:=.int .i64 (((bA (aj.mk b false 0) 1968).endC).e)) (RC.fld ab)<|Pl 1<|nt<|?_
 have ad:=u1 cy bb im
 have bc:=ut l ad (ac (ni d.size a) (ac (ni (le d.size g.size) f) ax))
 have hs:ai aE 1 c b=b6 (aO.mk c 0 ((aj.mk b false 0).wordV) (((aj.mk b false 0).wordsC 1).wordV) 0 0 0 0 0 0 0 0 [] [] [] [] 0 0 0 0 0 []) (bA (aj.mk b false 0) 1968):=by
   unfold ai aE dh dg d6 fR ph gL pf mI pW dJ fb
   (try simp only[o,s,t,H,bs,if_true,if_false,decide_true,decide_false,eq_self,true_or,or_true,or_false,false_or,if_true,if_false,dC,dD,dB,dA,reduceIte,eQ])
   all_goals rfl
 refine cb (((((bA (aj.mk b false 0) 1968).endC).e)!=0)) (fun ae=>?_) (fun ae=>?_)
 have af:=ay ae
 refine sq<|Rg 7 (fun w'=>w'.cell? ⟨i,3,none⟩=some (.int .i64 (((bA (aj.mk b false 0) 1968).endC).e))) fun dp S=>?_
 have bd:=RC.upd ab S aA (aC.step (RC.u ab) S)
 refine bg (RC.fld bd) fun I=>Rt 0 I<|Rt 1 I<|Rt 2 I<|Rt 3 I<|Rl 4 I (fun _ hs=>hs)<|?_
 refine R0 5 rfl<|b7 (ub (ut j (aD ad S) (ac (nr a) (ac (ni g.size f) ax))) h) mZ fun dr cz be=>?_
 have bh:=ud bc (uz S be) k
 refine bg (RC.fld (RC.upd bd be (aa (Ne.symm (nb (am h) lr a)) aA) bh)) fun cB=>Rt 6 cB<|re<|tn<|rt<|tr<|bN cz (.int .i64 (((bA (aj.mk b false 0) 1968).endC).e))<|?_
 rw[hs]
 exact bf af bh
 have af:=ag ae
 refine bi<|sg<|?_
 refine L0<|bM (aW bb (Ne.symm ba) cx)<|?_
 refine L0<|b7 (ub (ut j ad (ac (nr a) (ac (ni g.size f) ax))) h) (mG c 0 ((aj.mk b false 0).wordV) (((aj.mk b false 0).wordsC 1).wordV) 0 0 0 0 0 0 0 0 nS nS nS nS 0 0 0 0 0 nS) fun ds cC cD=>Pl 1<|nt<|rt<|bN cC (.int .i64 0)<|?_
 rw[hs]
 exact bo af ⟨_,_,_,_,_,rfl,aL.nil ..,aL.nil ..,(fun _ _ _=>aL.nil ..),aL.nil ..,aL.nil ..,(ch (by omega))⟩ (ud bc cD k)
 have cv:=ak H
 refine sg<|Pl 1<|?_
 refine L0<|b7 (ub j h) mZ fun dt cE cF=>Pl 1<|nt<|rt<|br<|tr<|bN cE (.int .i64 4)<|?_
 have hs:ai aE 1 c b=(aO.zero,4):=by
   unfold ai aE dh dg d6 fR ph gL pf mI pW dJ fb
   (try simp only[o,s,t,H,bs,if_true,if_false,decide_true,decide_false,eq_self,true_or,or_true,or_false,false_or,if_true,if_false,dC,dD,dB,dA,reduceIte,eQ])
   all_goals rfl
 rw[hs]
 exact bu (ud l cF k)
theorem kS{m:Md}{A:Option Addr}{cp:Nat}{b:List Int}{w:World}{dir c:Int}(hcode:B8 c)(hsl:b9 m w (.slice A b.length cp) b)(hb:b.length≤1048576)(hd:¬ (dir=0∨dir=1)) :
    Calls Tryz.prog 93 #[.int .i64 dir,.int .u8 c,.slice A b.length cp] w (co (.slice A b.length cp) b (ai aE dir c b) w):=by
 obtain⟨hcode1,hcode2⟩:=hcode
 have hln:(b.length:Int)≤1048576:=by omega
 have e0:(dir != 0)=true:=by simp;omega
 have e1:(dir != 1)=true:=by simp;omega
 refine en 113 Tryz.func93 rfl<|sg<|L0<|bH mZ fun g h a d e=>Pl 1<|nt<|sq<|sg<|Pl 3<|sy 16 e0<|Pl 3<|nl<|?_
 refine tn<|ct e1<|sg<|Pl 1<|L0<|b7 d mZ fun i dr f=>Pl 1<|nt<|rt<|tr<|bN dr (.int .i64 1)<|?_
 have hs:ai aE dir c b=(aO.zero,1):=by
   unfold ai aE dh dg d6 fR ph gL pf mI pW dJ fb
   (try simp only[e0,e1,bs,if_true,if_false,decide_true,decide_false,eq_self,true_or,or_true,or_false,false_or,if_true,if_false,dC,dD,dB,dA,reduceIte,hd,eQ])
   all_goals rfl
 rw[hs]
 exact bu (ud e f a)
open Go.RowKit
theorem ii{C:aj}(h:eF C){b:Bool}{x:Int}:eF (C.need b x):=fun y hy=>h y (by rwa [jH] at hy)
theorem iu{C:aj}(h:eF C){n:Int}:eF (C.bytesC n):=gH h n
theorem mj{C:aj}(h:eF C){n:Int}:eF (C.wordsC n):=cA h n
theorem ww(C:aj)(x:Int) : (C.bytesC 1).need (!(C.bytesC 1).sh) x=C.bytesC 1:=by
  by_cases hf:C.fails 1=true
  · exact eg (eY hf)
  · have h:(C.bytesC 1).sh=false:=by
      unfold aj.bytesC
      rw[if_neg hf]
      unfold aj.fails at hf
      simp only[Bool.or_eq_true,decide_eq_true_eq,not_or] at hf
      show C.sh=false
      simpa using hf.1.1
    rw[h]
    unfold aj.need
    rw[if_neg (by rintro⟨_,h⟩;cases h)]
theorem uE{v:Int}(h:0≤v) : decide (0<v)=(v != 0):=by
  rw[Bool.eq_iff_iff]
  simp only[decide_eq_true_eq,bne_iff_ne,ne_eq]
  omega
def z0 (C:aj) : aj:=((C.bytesC 1).need (!(C.bytesC 1).sh) 5).need (C.byteV==6) 9
def zd (C:aj) : aj:=((z0 C).wordsC 1).need (decide (0<(z0 C).wordV)) 6
def za (C:aj) : aj:=((zd C).wordsC 1).need (decide ((zd C).wordV≤9999)) 7
def uq (C:aj) : aj:=((za C).wordsC 1).need (decide (0<(za C).wordV)) 5
theorem sS(C:aj) : z0 C=i6 C:=by unfold z0 i6;rw[ww]
theorem qC{C:aj}(h:eF C) : eF (i6 C):=ii (iu h)
theorem tb{C:aj}(h:eF C) : zd C=iE C:=by unfold zd iE;rw[sS,uE (bO (qC h)).1]
theorem wz{C:aj}(h:eF C) : eF (iE C):=ii (mj (qC h))
theorem t4{C:aj}(h:eF C) : za C=lL C:=by unfold za lL;rw[tb h]
theorem wF{C:aj}(h:eF C) : eF (lL C):=ii (mj (wz h))
theorem rC{C:aj}(h:eF C) : uq C=dt C:=by unfold uq dt;rw[t4 h,uE (bO (wF h)).1]
theorem xb{C:aj}(h:C.e≠0) : C.endC=C:=by unfold aj.endC;exact eg h
theorem xu{b:List Int}(h:b.length≠0) : (aj.mk b false 0).byteV=b.getD 0 0∧(aj.mk b false 0).bytesC 1=⟨b.drop 1,false,0⟩:=by
  have hf:¬ (aj.mk b false 0).fails 1=true:=by
    unfold aj.fails
    simp only[Bool.or_eq_true,decide_eq_true_eq,not_or]
    exact⟨⟨by decide,by decide⟩,by omega⟩
  constructor
  · unfold aj.byteV aj.bytesR
    rw[if_neg hf]
    rcases b with _|⟨x,t⟩
    · exact absurd rfl h
    · rfl
  · unfold aj.bytesC
    rw[if_neg hf]
    rfl
def cU (b:List Int)(n:Int) : List Int:=(b.take (n+1).toNat).drop 1
def dM (one:Int→aj→Int × aj × dc)(c:Int)(b:List Int) : aO × Int :=
  if (aR one (cU b (b.getD 0 0)).length 0 ⟨cU b (b.getD 0 0),false,0⟩ []).1.e != 0 then (aO.zero,bp (aR one (cU b (b.getD 0 0)).length 0 ⟨cU b (b.getD 0 0),false,0⟩ []).1.e)
  else if decide (b.getD 0 0+1<(b.length:Int)) then (aO.zero,3)
  else ({ aO.zero with code:=c,recs:=(aR one (cU b (b.getD 0 0)).length 0 ⟨cU b (b.getD 0 0),false,0⟩ []).2 },0)
def bP (one:Int→aj→Int × aj × dc)(may:Int→Bool)(c:Int)(b:List Int) : aO × Int :=
  if (b.length:Int)==0 then (aO.zero,2)
  else if !(may (b.getD 0 0)) then (aO.zero,5)
  else if decide ((b.length:Int)<b.getD 0 0+1) then (aO.zero,2)
  else dM one c b
theorem kG{M:aO}{C:aj}(h:C.e≠0) : b6 M C=(aO.zero,C.e):=by
  unfold b6
  rw[xb h,if_neg h]
theorem jF{one:Int→aj→Int × aj × dc}{may:Int→Bool}{c:Int}{b:List Int}(hr:∀ x,x∈b→0≤x∧x<256) : b6 (dN one may c ⟨b,false,0⟩).2 (dN one may c ⟨b,false,0⟩).1=bP one may c b:=by
  unfold bP
  by_cases h0:b.length=0
  · rw[if_pos (by rw[beq_iff_eq];omega)]
    obtain rfl:=List.eq_nil_of_length_eq_zero h0
    have e1:(ku may ⟨[],false,0⟩).e=2:=by
      unfold ku
      rw[eg (eY (by decide))]
      rfl
    have e2:((ku may ⟨[],false,0⟩).bytesC (aj.mk [] false 0).byteV).e=2:=by
      have hs:(ku may ⟨[],false,0⟩).sh=true:=by
        unfold ku
        rw[eg (eY (by decide))]
        rfl
      unfold aj.bytesC
      rw[if_pos (by unfold aj.fails;rw[hs];rfl),eg (by show(ku may ⟨[],false,0⟩).e≠0;rw[e1];decide)]
      exact e1
    unfold dN
    dsimp only
    rw[eg (by rw[e2];decide),kG (by rw[e2];decide),e2]
  rw[if_neg (by rw[beq_iff_eq];omega)]
  obtain⟨e1,e2⟩:=xu h0
  have hn:0≤b.getD 0 0∧b.getD 0 0<256:=by
    rcases b with _|⟨x,t⟩
    · exact absurd rfl h0
    · exact hr x (by simp)
  by_cases hm:may (b.getD 0 0)=true
  · rw[if_neg (by rw[hm];decide)]
    have e3:ku may ⟨b,false,0⟩=⟨b.drop 1,false,0⟩:=by
      unfold ku
      rw[e1,e2,hm]
      rfl
    by_cases hs:(b.length:Int)<b.getD 0 0+1
    · rw[if_pos (by simpa using hs)]
      have hf:(aj.mk (b.drop 1) false 0).fails (b.getD 0 0)=true:=by
        unfold aj.fails
        simp only[Bool.or_eq_true,decide_eq_true_eq,List.length_drop]
        exact .inr (by omega)
      have e4:(ku may ⟨b,false,0⟩).bytesC (aj.mk b false 0).byteV=⟨[],true,2⟩:=by
        rw[e1,e3]
        unfold aj.bytesC
        rw[if_pos hf]
        rfl
      unfold dN
      dsimp only
      rw[e4,eg (by decide),kG (by decide)]
    · rw[if_neg (by simpa using hs)]
      have hf:¬ (aj.mk (b.drop 1) false 0).fails (b.getD 0 0)=true:=by
        unfold aj.fails
        simp only[Bool.or_eq_true,decide_eq_true_eq,List.length_drop,not_or]
        exact⟨⟨by decide,by omega⟩,by omega⟩
      have e4:(ku may ⟨b,false,0⟩).bytesC (aj.mk b false 0).byteV=⟨(b.drop 1).drop (b.getD 0 0).toNat,false,0⟩:=by
        rw[e1,e3]
        unfold aj.bytesC
        rw[if_neg hf]
      have e5:uZ may ⟨b,false,0⟩=⟨cU b (b.getD 0 0),false,0⟩:=by
        unfold uZ cU
        rw[e1,e3]
        unfold aj.bytesR
        rw[if_neg hf,show(b.getD 0 0+1).toNat=1+(b.getD 0 0).toNat from by omega,List.drop_take]
        rw[show 1+(b.getD 0 0).toNat-1=(b.getD 0 0).toNat from by omega]
      unfold dN dM qA
      dsimp only
      rw[e4,e5]
      by_cases hz:(aR one (cU b (b.getD 0 0)).length 0 ⟨cU b (b.getD 0 0),false,0⟩ []).1.e=0
      · rw[hz,if_neg (by decide)]
        have e6:(aj.mk ((b.drop 1).drop (b.getD 0 0).toNat) false 0).need ((0:Int)==0) (bp 0)=⟨(b.drop 1).drop (b.getD 0 0).toNat,false,0⟩:=rfl
        rw[e6]
        by_cases hl:b.getD 0 0+1<(b.length:Int)
        · rw[if_pos (by simpa using hl)]
          have e7:(aj.mk ((b.drop 1).drop (b.getD 0 0).toNat) false 0).endC=⟨(b.drop 1).drop (b.getD 0 0).toNat,false,3⟩:=by
            unfold aj.endC aj.need
            rw[if_pos ⟨rfl,by rw[beq_eq_false_iff_ne];simp only[List.length_drop];omega⟩]
          unfold b6
          rw[e7,if_neg (show ¬ (3:Int)=0 from by decide)]
        · rw[if_neg (by simpa using hl)]
          have e7:(aj.mk ((b.drop 1).drop (b.getD 0 0).toNat) false 0).endC=⟨(b.drop 1).drop (b.getD 0 0).toNat,false,0⟩:=by
            unfold aj.endC aj.need
            rw[if_neg (by rintro⟨_,h⟩;rw[beq_eq_false_iff_ne] at h;simp only[List.length_drop] at h;omega)]
          unfold b6
          rw[e7,if_pos rfl]
      · rw[if_pos (by simpa using hz)]
        have hw:bp (aR one (cU b (b.getD 0 0)).length 0 ⟨cU b (b.getD 0 0),false,0⟩ []).1.e≠0:=by
          unfold bp
          split
          · decide
          · exact hz
        have e6:(aj.mk ((b.drop 1).drop (b.getD 0 0).toNat) false 0).need ((aR one (cU b (b.getD 0 0)).length 0 ⟨cU b (b.getD 0 0),false,0⟩ []).1.e==0) (bp (aR one (cU b (b.getD 0 0)).length 0 ⟨cU b (b.getD 0 0),false,0⟩ []).1.e)=⟨(b.drop 1).drop (b.getD 0 0).toNat,false,bp (aR one (cU b (b.getD 0 0)).length 0 ⟨cU b (b.getD 0 0),false,0⟩ []).1.e⟩:=by
          unfold aj.need
          rw[if_pos ⟨rfl,by simpa using hz⟩]
        rw[e6,kG hw]
  · have hm:may (b.getD 0 0)=false:=by simpa using hm
    rw[if_pos (by rw[hm];rfl)]
    have e3:ku may ⟨b,false,0⟩=⟨b.drop 1,false,5⟩:=by
      unfold ku
      rw[e1,e2,hm]
      rfl
    have e4:((ku may ⟨b,false,0⟩).bytesC (aj.mk b false 0).byteV).e=5:=by
      rw[e3]
      unfold aj.bytesC
      split
      · rfl
      · rfl
    unfold dN
    dsimp only
    rw[eg (by rw[e4];decide),kG (by rw[e4];decide),e4]
theorem qf{b:List Int}(hr:∀ x,x∈b→0≤x∧x<256) : ai aX 0 20 b=bP cJ fo 20 b:=jF hr
theorem pQ{b:List Int}(hr:∀ x,x∈b→0≤x∧x<256) : ai aX 1 20 b=bP bJ fp 20 b:=jF hr
theorem tp{dir:Int}{b:List Int}(hd:dir=0∨dir=1)(hr:∀ x,x∈b→0≤x∧x<256) : ai aX dir 21 b=bP cK fx 21 b:=by
  unfold ai
  rw[if_pos hd]
  exact jF hr
theorem vY:∀ n:Nat,n<256→(decide (1≤(n:Int)%128)&&decide ((n:Int)%128≤3))=cc (n:Int):=by decide +kernel
theorem yK{x:Int}(h:0≤x∧x<256) : (decide (1≤x%128)&&decide (x%128≤3))=cc x:=by
  obtain⟨n,rfl⟩:=Int.eq_ofNat_of_zero_le h.1
  exact vY n (by omega)
theorem xg{x:Int}:(decide (0<x)&&decide (x<5))=(decide (1≤x)&&decide (x≤4)):=by
  rw[Bool.eq_iff_iff]
  simp only[Bool.and_eq_true,decide_eq_true_eq]
  omega
def eX (C:aj) : aj:=((dx C).bytesC 1).need (decide (0<(dx C).byteV)&&decide ((dx C).byteV<5)) 6
theorem uI(C:aj) : eX C=eh C:=by unfold eX eh;rw[xg]
def ga (C:aj) : aj:=(C.bytesC 1).need (decide (1≤C.byteV%128)&&decide (C.byteV%128≤3)) 6
def hH (C:aj) : aj:=((ga C).bytesC 1).need ((ga C).byteV==0 || (ga C).byteV==255) 6
def hY (C:aj) : aj:=((hH C).bytesC 1).need ((hH C).byteV==0 || (ga C).byteV==255) 6
def jq (kd:Int)(C:aj) : aj:=((hY C).bytesC 1).need ((hY C).byteV==1 || kd != 4) 5
def ee (kd:Int)(C:aj) : aj × List Obj:=ed (hY C).byteV.toNat (jq kd C) []
theorem lF{C:aj}(h:eF C) : ga C=kA C:=by unfold ga kA;rw[yK (cR h)]
theorem oD{C:aj}(h:eF C) : hH C=kC C:=by unfold hH kC;rw[lF h]
theorem ur{C:aj}(h:eF C) : hY C=lZ C:=by
  unfold hY lZ
  rw[oD h,lF h]
  by_cases e:((kC C).bytesC 1).e=0
  · have h1:=(gv e).1
    unfold kC at h1
    have h2:=(fZ (by decide) h1).2
    congr 1
    rw[Bool.eq_iff_iff]
    simp only[Bool.or_eq_true,beq_iff_eq,bne_iff_ne,ne_eq] at h2 ⊢
    omega
  · rw[eg e,eg e]
theorem p4{kd:Int}{C:aj}(h:eF C) : ee kd C=dO kd C:=by
  unfold ee dO jq tQ
  rw[ur h,Bool.or_comm]
def cH (dir c:Int)(C:aj) : Option (aj × aO) :=
  if c != 43 then none
  else if C.byteV==13 then some ((fk C).bytesC ((dx C).l.length:Int),{ aO.zero with code:=43,mei:=C.byteV,data:=(fk C).bytesR ((dx C).l.length:Int) })
  else if dir==0 then some ((eX C).bytesC 1,{ aO.zero with code:=43,mei:=C.byteV,kind:=(dx C).byteV,next:=(eX C).byteV })
  else some ((ee (dx C).byteV (eX C)).1,{ aO.zero with code:=43,mei:=C.byteV,kind:=(dx C).byteV,level:=(eX C).byteV,more:=(ga (eX C)).byteV,next:=(hH (eX C)).byteV,objects:=(ee (dx C).byteV (eX C)).2 })
theorem oI{dir c:Int}{b:List Int}(hr:∀ x,x∈b→0≤x∧x<256) : ai cH dir c b=ai bD dir c b:=by
  unfold ai
  split
  · rename_i hd
    unfold cH bD
    by_cases hc:c=43
    · subst hc
      have hD:eF (eX ⟨b,false,0⟩):=ii (iu (ii (iu (C:=⟨b,false,0⟩) hr)))
      have hl:(fk ⟨b,false,0⟩).l.length=(dx ⟨b,false,0⟩).l.length:=by unfold fk;rw[jH]
      rw[if_neg (show ¬ (((43:Int)!=43)=true) from by decide),if_neg (show ¬ (((43:Int)!=43)=true) from by decide),lF hD,oD hD,p4 hD,uI,hl]
      rcases hd with rfl|rfl
      · rw[if_pos (show((0:Int)==0)=true from rfl),if_neg (show ¬ ((0:Int)==1)=true from by decide)]
      · rw[if_neg (show ¬ ((1:Int)==0)=true from by decide),if_pos (show((1:Int)==1)=true from rfl)]
    · rw[if_pos (by simpa using hc),if_pos (by simpa using hc)]
  · rfl
open Go.RowKit
theorem RC.safe{w0:World}{m:Md}{A:Option Addr}{cp:Nat}{full:List Int}{w:World}{g:Nat}{C:aj}(h:RC w0 m A cp full w g C)(D:List TypeId)(hD:159∉D) : d9 true D [g] w:=by
  obtain⟨k,h1,_⟩:=h.cell
  exact d9.one h1 hD
theorem RC.nrow{α:Type}{base sz n c:Nat}{e:TypeId}{R:World→α→List Value→Prop}{B:Option Addr}{xs:List α}{w0:World}{m:Md}{A:Option Addr}{cp:Nat}{full:List Int}{w:World}{g:Nat}{C:aj}(h:RC w0 m A cp full w g C)(ho:aS base e sz R w (.slice B n c) xs)(ht:(159==e)=false) : g∉ob B:=by
  obtain⟨k,h1,_⟩:=h.cell
  exact ec h1 ho ht
theorem RC.fld2{w0:World}{m:Md}{A:Option Addr}{cp:Nat}{full:List Int}{w:World}{g:Nat}{C:aj}(h:RC w0 m A cp full w g C) : w.cell? ⟨g,2,none⟩=some (.bool C.sh):=by
  obtain⟨k,h1,_⟩:=h.cell
  rw[bv h1]
  rfl
def wT (w0:World)(m:Md)(A:Option Addr)(cp:Nat)(full:List Int)(g:Nat)(C':aj)(r:dc)(w:World)(e:Ending)(w':World) : Prop:=e = .returned (.agg #[.int .u16 r.file,.int .u16 r.record,.int .u16 r.count,.slice none 0 0])∧dr r.file∧dr r.record∧dr r.count∧RC w0 m A cp full w' g C'∧aC [g] w w'
theorem mE{x:Int}(h : -1≤x∧x≤255) : 0≤Int.tdiv x 2∧Int.tdiv x 2≤127:=by
  by_cases h0:x = -1
  · subst h0;decide
  · rw[Int.tdiv_eq_ediv_of_nonneg (by omega)]
    omega
theorem ir{one:Int→aj→Int × aj × dc}{n:Nat}{s:Int}{C:aj}{L:List dc}{R:aj × List dc}(h3:(C.e=0∧C.l.length≤n∧aR one n s C L=R)∨(C.e≠0∧R.1=C))(hc:0<C.l.length)(he:C.e=0)(hlt:(one s C).2.1.l.length<C.l.length) :
    ((one s C).2.1.e=0∧(one s C).2.1.l.length≤n-1∧aR one (n-1) (one s C).1 (one s C).2.1 (L++[(one s C).2.2])=R)∨((one s C).2.1.e≠0∧R.1=(one s C).2.1):=by
  rcases h3 with⟨_,hn,hR⟩|⟨h,_⟩
  · obtain⟨k,rfl⟩ : ∃ k,n=k+1:=⟨n-1,by omega⟩
    unfold aR at hR
    rw[if_pos (by rw[he];simpa using hc)] at hR
    by_cases hz:(one s C).2.1.e=0
    · rw[if_neg (by rw[hz];decide)] at hR
      exact .inl ⟨hz,by omega,hR⟩
    · rw[if_pos (by simpa using hz)] at hR
      exact .inr ⟨hz,by rw[← hR]⟩
  · exact absurd he h
theorem fu{one:Int→aj→Int × aj × dc}{n:Nat}{s:Int}{C:aj}{L:List dc}{R:aj × List dc}(h3:(C.e=0∧C.l.length≤n∧aR one n s C L=R)∨(C.e≠0∧R.1=C))(hq:(decide (0<((C.l.length:Nat) : Int))&&C.e==0)=false) : R.1.e=C.e∧(C.e=0→R.2=L):=by
  rcases h3 with⟨he,hn,hR⟩|⟨h,h2⟩
  · rw[gS one n s C L hq] at hR
    rw[← hR]
    exact⟨rfl,fun _=>rfl⟩
  · rw[h2]
    exact⟨rfl,fun h3=>absurd h3 h⟩
def fW (R:aj × List dc)(w:World)(e:Ending)(w':World) : Prop:=∃ A2 n2 c2,e = .returned (.tuple #[.slice A2 n2 c2,.int .i64 (bp R.1.e)])∧(bp R.1.e=0→aS w.heap.size 109 4 (bq true) w' (.slice A2 n2 c2) R.2)∧aC [] w w'
theorem kK{f:FuncId}{args:Array Value}{R:aj × List dc}{w:World}(h:Calls Tryz.prog f args w (fW R w))(h0:bp R.1.e=0) : Calls Tryz.prog f args w (fun e w'=>∃ v,e = .returned (.tuple #[v,.int .i64 0])∧aS w.heap.size 109 4 (bq true) w' v R.2∧aC [] w w'):=by
  refine h.mono ?_
  rintro e w' ⟨A2,n2,c2,rfl,h1,h2⟩
  exact⟨_,by rw[h0],h1 h0,h2⟩
theorem jw{f:FuncId}{args:Array Value}{R:aj × List dc}{w:World}(h:Calls Tryz.prog f args w (fW R w)) : Calls Tryz.prog f args w (fun e w'=>∃ A2 n2 c2,e = .returned (.tuple #[.slice A2 n2 c2,.int .i64 (bp R.1.e)])∧aC [] w w'):=by
  refine h.mono ?_
  rintro e w' ⟨A2,n2,c2,rfl,h1,h2⟩
  exact⟨A2,n2,c2,rfl,h2⟩
theorem wR{w0:World}{m:Md}{A:Option Addr}{cp:Nat}{full:List Int}{w:World}{g:Nat}{C:aj}(hC:RC w0 m A cp full w g C) : Calls Tryz.prog 218 #[.pointer (some ⟨g,0,none⟩)] w (wT w0 m A cp full g (dt C) (aQ C) w):=by
 have hr:eF C:=RC.rng hC
 refine en 42 Tryz.func218 rfl<|sg<|L0<|bH #[.int .u16 0,.int .u16 0,.int .u16 0,.slice none 0 0] fun N O b i a=>ng<|Pl 1<|?_
 refine L0<|Oc<|m3 (dX (RC.upd hC a aA (aC.step (RC.u hC) a))) fun P c j Q=>Pl 1<|ng<|Pl 4<|L0<|eq (p:=⟨g,2,none⟩) (v:=.bool ((C.bytesC 1).sh)) (RC.fld2 c)<|Pl 1<|L0<|Oc<|m2 (aY ((!((C.bytesC 1).sh))) 5 c) fun R k l=>ng<|?_
 refine Pl 3<|L0<|Oc<|m2 (aY ((C.byteV==6)) 9 k) fun S n o=>?_
 refine fP n fun x26 q r=>?_
 refine ng<|Pl 1<|L0<|Oc<|m3 (cN r) fun T s t U=>Pl 1<|ng<|Pl 3<|L0<|Oc<|m2 (aY ((decide (0<x26.wordV))) 6 s) fun V y z=>nl<|?_
 refine tn<|sg<|Pl 1<|L0<|Oc<|m3 (cN y) fun W B D X=>Pl 1<|ng<|Pl 3<|L0<|Oc<|m2 (aY ((decide ((((x26.wordsC 1).need (decide (0<x26.wordV)) 6).wordV)≤9999))) 7 B) fun Y E F=>?_
 refine fP E fun x43 G H=>?_
 refine ng<|Pl 1<|L0<|Oc<|m3 (cN H) fun Z I J a0=>Pl 1<|ng<|Pl 3<|L0<|Oc<|m2 (aY ((decide (0<x43.wordV))) 5 I) fun a1 K L=>nl<|?_
 refine tn<|sg<|Pl 4<|?_
 have d:=u1 j (u1 l (u1 o (u1 t (u1 z (u1 D (u1 F (u1 J L im) im) im) im) im) im) im) im
 have e:=nb (RC.lt hC) lr b
 refine L0<|b7 (aW d (Ne.symm e) i) #[.int .u16 x26.wordV,.int .u16 (((x26.wordsC 1).need (decide (0<x26.wordV)) 6).wordV),.int .u16 x43.wordV,.slice none 0 0] fun a2 M f=>nt<|rt<|yj M<|?_
 subst G q
 have e1:dt C=(((((((((C.bytesC 1).need (!((C.bytesC 1).sh)) 5).need (C.byteV==6) 9).wordsC 1).need (decide (0<(((C.bytesC 1).need (!((C.bytesC 1).sh)) 5).need (C.byteV==6) 9).wordV)) 6).wordsC 1).need (decide (((((((C.bytesC 1).need (!((C.bytesC 1).sh)) 5).need (C.byteV==6) 9).wordsC 1).need (decide (0<(((C.bytesC 1).need (!((C.bytesC 1).sh)) 5).need (C.byteV==6) 9).wordV)) 6).wordV)≤9999)) 7).wordsC 1).need (decide (0<(((((((C.bytesC 1).need (!((C.bytesC 1).sh)) 5).need (C.byteV==6) 9).wordsC 1).need (decide (0<(((C.bytesC 1).need (!((C.bytesC 1).sh)) 5).need (C.byteV==6) 9).wordV)) 6).wordsC 1).need (decide (((((((C.bytesC 1).need (!((C.bytesC 1).sh)) 5).need (C.byteV==6) 9).wordsC 1).need (decide (0<(((C.bytesC 1).need (!((C.bytesC 1).sh)) 5).need (C.byteV==6) 9).wordV)) 6).wordV)≤9999)) 7).wordV)) 5):=by rw[← rC hr];rfl
 have e2:(aQ C).file=(((C.bytesC 1).need (!((C.bytesC 1).sh)) 5).need (C.byteV==6) 9).wordV:=by show(i6 C).wordV=_;rw[← sS];rfl
 have e3:(aQ C).record=(((((C.bytesC 1).need (!((C.bytesC 1).sh)) 5).need (C.byteV==6) 9).wordsC 1).need (decide (0<(((C.bytesC 1).need (!((C.bytesC 1).sh)) 5).need (C.byteV==6) 9).wordV)) 6).wordV:=by show(iE C).wordV=_;rw[← tb hr];rfl
 have e4:(aQ C).count=(((((((C.bytesC 1).need (!((C.bytesC 1).sh)) 5).need (C.byteV==6) 9).wordsC 1).need (decide (0<(((C.bytesC 1).need (!((C.bytesC 1).sh)) 5).need (C.byteV==6) 9).wordV)) 6).wordsC 1).need (decide (((((((C.bytesC 1).need (!((C.bytesC 1).sh)) 5).need (C.byteV==6) 9).wordsC 1).need (decide (0<(((C.bytesC 1).need (!((C.bytesC 1).sh)) 5).need (C.byteV==6) 9).wordV)) 6).wordV)≤9999)) 7).wordV:=by show(lL C).wordV=_;rw[← t4 hr];rfl
 have h:=ue a (us d f) b
 unfold wT
 rw[e1,e2,e3,e4]
 exact⟨rfl,el (by omega),el (by omega),el (by omega),(RC.upd K f (aa e aA) (hC.u.trans' h (fun x hx=>.inr (by simp at hx;subst hx;exact hC.new)))),h⟩
theorem to{m:Md}{A:Option Addr}{cp:Nat}{b:List Int}{w:World}(hsl:b9 m w (.slice A b.length cp) b)(hb:b.length≤1048576) :
    Calls Tryz.prog 163 #[.int .i64 0,.int .u8 20,.slice A b.length cp] w (fW (aR cJ b.length 0 ⟨b,false,0⟩ []) w):=by
 have hln:(b.length:Int)≤1048576:=by omega
 refine en 108 Tryz.func163 rfl<|sg<|Pl 2<|ng<|Pl 2<|L0<|dq #[.slice A b.length cp,.int .i64 0,.bool false,.int .i64 0] fun d U E a8 F=>Pl 1<|nt<|sq<|?_
 refine go<|Pl 1<|ng<|Pl 1<|nt<|sq<|bk<|?_
 have V:RC w _ A cp b U d (aj.mk b false 0):=⟨hsl,F,E,⟨0,a8,Nat.zero_le _,rfl⟩,by omega⟩
 refine iM (fun x=>[(0,.int .i64 0),(1,.int .u8 20),(6,.slice none 0 0),(7,.int .i64 0),(8,.pointer (some ⟨d,0,none⟩)),(9,.slice x.2.2.2.1 x.2.2.1.length x.2.2.2.2.1),(10,.int .i64 x.2.2.2.2.2)]) (fun(x:Nat × aj × List dc × Option Addr × Nat × Int) w'=>aC [] w w'∧U.heap.size≤w'.heap.size∧RC w m A cp b w' d x.2.1∧aS w.heap.size 109 4 (bq true) w' (.slice x.2.2.2.1 x.2.2.1.length x.2.2.2.2.1) x.2.2.1∧(0≤x.2.2.2.2.2)∧(x.2.1.e=0→x.2.2.2.2.2≤245)∧(x.2.2.1.length+x.2.1.l.length≤b.length)∧((x.2.1.e=0∧x.2.1.l.length≤x.1∧aR cJ x.1 x.2.2.2.2.2 x.2.1 x.2.2.1=aR cJ b.length 0 ⟨b,false,0⟩ [])∨(x.2.1.e≠0∧(aR cJ b.length 0 ⟨b,false,0⟩ []).1=x.2.1))) (fun x=>x.2.1.l.length) (b.length,(aj.mk b false 0),[],none,0,0) ⟨F,lr,V,(aS.nil w.heap.size _ _ (bq true) _),(by(try dsimp only);omega),(fun _=>(show(0:Int)≤245 from by decide)),(by(try dsimp only);simp),.inl ⟨rfl,Nat.le_refl _,rfl⟩⟩ ?_
 rintro⟨n,C,L,B,cq,s⟩ W ⟨a9,G,ab,ad,ae,af,ag,ai⟩
 refine iL [(0,.int .i64 0),(1,.int .u8 20),(6,.slice none 0 0),(7,.int .i64 0),(8,.pointer (some ⟨d,0,none⟩)),(9,.slice B L.length cq),(10,.int .i64 s)] ?_
 have a:RC w m A cp b W d C:=ab
 have hlC:=RC.clen a
 have hrC:eF C:=RC.rng a
 have i:aS w.heap.size 109 4 (bq true) W (.slice B L.length cq) L:=ad
 have aM:0≤s:=ae
 have aO:C.e=0→s≤245:=af
 have aT:L.length+C.l.length≤b.length:=ag
 have H:(C.e=0∧C.l.length≤n∧aR cJ n s C L=aR cJ b.length 0 ⟨b,false,0⟩ [])∨(C.e≠0∧(aR cJ b.length 0 ⟨b,false,0⟩ []).1=C):=ai
 refine sq<|sg<|Pl 1<|L0<|Oc<|m1 (iF a) fun aV c=>?_
 have aX:=RC.clen a
 refine Pl 2<|cu 6 [20] 26 (((decide (0<((C.l.length:Nat) : Int)))&&(C.e==0))) (fun K X=>?_) ?_
 refine bl 20 ((decide (0<((C.l.length:Nat) : Int)))) (fun j=>?_) (fun j=>?_)
 have al:=of_decide_eq_true j
 refine Pl 3<|?_
 exact L1<|eq (p:=⟨d,3,none⟩) (v:=.int .i64 C.e) (RC.fld (RC.upd a c aA (aC.step (RC.u a) c)))<|Pl 2<|ce X (C.e==0) (by rw[j];rfl)
 have al:=of_decide_eq_false j
 exact Pl 6<|ce X false (by rw[j];rfl)
 refine nt<|?_
 have I:=aD a9 c
 refine cb (((decide (0<((C.l.length:Nat) : Int)))&&(C.e==0))) (fun f=>?_) (fun f=>?_)
 have J:=(aU f).1
 have M:=(aU f).2
 have aZ:=of_decide_eq_true J
 have b0:=ah M
 refine bi<|bk<|sg<|Pl 1<|L0<|bH #[.int .u16 0,.int .u16 0,.int .u16 0,.slice none 0 0] fun b1 b2 k am N=>L0<|b7 am #[.int .u16 0,.int .u16 0,.int .u16 0,.slice none 0 0] fun b3 an O=>nt<|sq<|sg<|Pl 6<|nl<|?_
 refine tn<|c0<|sg<|Pl 1<|?_
 have Y:=ud N O k
 have r:=aD c Y
 refine L0<|Oc<|m5 (wR (RC.upd a r aA (aC.step (RC.u a) r))) fun b4 ao ar au aw t=>?_
 obtain⟨b5,b6⟩:=ao
 obtain⟨b8,ba⟩:=ar
 obtain⟨bb,bc⟩:=au
 have P:=nb (RC.lt V) (le G c.size) k
 refine L0<|b7 (aW t (Ne.symm P) an) #[.int .u16 ((aQ C).file),.int .u16 ((aQ C).record),.int .u16 ((aQ C).count),.slice none 0 0] fun bd Z y=>ng<|Pl 2<|nt<|c0<|sg<|Pl 1<|L0<|Oi (s+2)<|Pl 1<|L0<|aN Z 2<|?_
 refine L0<|Oi ((aQ C).count)<|L0<|Oi (2*((aQ C).count))<|L0<|Oi ((s+2)+(2*((aQ C).count)))<|Pl 1<|nt<|go<|Pl 3<|?_
 have Q:=us t y
 have a0:=ud I (ue Y Q k) E
 refine L0<|Oc<|m2 (aY ((decide (((s+2)+(2*((aQ C).count)))≤245))) 5 (RC.upd aw y (aa P aA) a0)) fun be ay o=>?_
 refine fP ay fun x68 aB a1=>?_
 refine nt<|go<|Pl 1<|?_
 refine L0<|bM (aW o (Ne.symm P) Z)<|L0<|cL (m:=1) (e:=109) #[.int .u16 ((aQ C).file),.int .u16 ((aQ C).record),.int .u16 ((aQ C).count),.slice none 0 0] fun bf bh bm aE z=>?_
 have aF:=kB (R:=bq true) (x:=(dc.mk ((aQ C).file) ((aQ C).record) ((aQ C).count) ([]))) aE rfl ⟨_,rfl,(aL.nil true _ _ _ _),el (x:=(aQ C).file) (by omega),el (x:=(aQ C).record) (by omega),el (x:=(aQ C).count) (by omega)⟩
 have a2:=aD o z
 have a3:=ue r (u1 Q a2 im) (le c.size k)
 have a4:=aq i a3 (fun x hx=>(aa (fun e=>(RC.nrow a i (by decide)) (e▸hx)) aA)) (bq.upd16 a3 (ap (RC.safe a _ (by decide)) aG))
 refine L0<|hZ (xs:=L) (ys:=([(dc.mk ((aQ C).file) ((aQ C).record) ((aQ C).count) ([]))])) (.agg #[.int .u16 0,.int .u16 0,.int .u16 0,.slice none 0 0]) 4 32 a4 aF (by simp) bq.ones (fun w' hv=>bq.upd16 hv (cM (dn _ a4 (by decide)) aG)) (by(try simp only[List.length_append,List.length_cons,List.length_nil,az]);omega) (le (le (le (le (le (le (le (le F.size G) c.size) N.size) O.size) t.size) y.size) o.size) z.size) fun aH aI bo aJ S=>Pl 1<|nl<|bn<|?_
 subst aB
 have hC2:(cJ s C).2.1=((dt C).need (decide (((s+2)+(2*((aQ C).count)))≤245)) 5):=by show ey s C=_;(try simp only[ey,eE,← Int.add_assoc,f,J,M,bs,if_true,if_false,decide_true,decide_false]);all_goals rfl
 have hM2:[(cJ s C).2.2]=[(dc.mk ((aQ C).file) ((aQ C).record) ((aQ C).count) ([]))]:=by show[aQ C]=_;(try simp only[ey,eE,← Int.add_assoc,f,J,M,bs,if_true,if_false,decide_true,decide_false]);all_goals rfl
 have hS2:(cJ s C).1=((s+2)+(2*((aQ C).count))):=by(try (show eE s C=_));(try simp only[eE,← Int.add_assoc]);all_goals rfl
 have hlt:=nA s C (by omega)
 have h9:=ir (one:=cJ) H (by omega) (by omega) hlt
 rw[hC2,hM2,hS2] at h9
 rw[hC2] at hlt
 have a5:=ut a0 (ut (aC.mono (S':=(d :: (ob B++[]))) a2 (ac im ax)) S (av il ax)) (ac (nr E) (av (aP i lr) ax))
 have a6:=ue r (u1 Q o im) (le c.size k)
 exact gE ((n-1),((dt C).need (decide (((s+2)+(2*((aQ C).count)))≤245)) 5),(L++[(dc.mk ((aQ C).file) ((aQ C).record) ((aQ C).count) ([]))]),aH,aI,((s+2)+(2*((aQ C).count)))) ⟨a5,(le (le (le (le (le (le (le (le G c.size) N.size) O.size) t.size) y.size) o.size) z.size) S.size),(RC.upd a1 (ut (aC.mono (S':=(ob B++[])) z ax) S (av il ax)) (bj (RC.nrow a1 (aq i a6 (fun x hx=>(aa (fun e=>(RC.nrow a i (by decide)) (e▸hx)) aA)) (bq.upd16 a6 (ap (RC.safe a _ (by decide)) aG))) (by decide)) aA) a5),aJ,(by(try dsimp only);omega),(by(try dsimp only);intro he;have hk:=(fZ (by decide) he).2;simp only[decide_eq_true_eq] at hk;omega),(by(try dsimp only);simp only[List.length_append,List.length_cons,List.length_nil];omega),h9⟩ (by omega)
 refine xt<|tx<|tx<|bx<|tn<|sq<|sg<|Pl 3<|?_
 have T:=RC.upd a c aA (aC.step (RC.u a) c)
 refine L0<|eq (p:=⟨d,3,none⟩) (v:=.int .i64 C.e) (RC.fld T)<|Pl 1<|nt<|cb ((C.e==2)) (fun q=>?_) (fun q=>?_)
 have aK:=ah q
 refine sg<|Pl 2<|nt<|rt<|tr<|rr (.tuple #[.slice none 0 0,.int .i64 5])<|?_
 obtain⟨i6,iE⟩:=fu H f
 have hw:bp (aR cJ b.length 0 ⟨b,false,0⟩ []).1.e=5:=by unfold bp;rw[i6,if_pos q]
 refine⟨none,0,0,by rw[hw],fun h=>absurd (hw.symm.trans h) (by decide),I⟩
 have aK:=ak q
 refine bi<|sq<|Rg 7 (fun w'=>w'.cell? ⟨d,3,none⟩=some (.int .i64 C.e)) fun br D=>?_
 refine bg (RC.fld (RC.upd T D aA (aC.step (RC.u T) D))) fun g=>Rt 0 g<|Rt 1 g<|Rt 2 g<|Rt 3 g<|Rl 4 g (fun _ hs=>hs)<|Rt 5 g<|Rt 6 g<|re<|tn<|rt<|rr (.tuple #[.slice B L.length cq,.int .i64 C.e])<|?_
 obtain⟨i6,iE⟩:=fu H f
 have hw:bp (aR cJ b.length 0 ⟨b,false,0⟩ []).1.e=C.e:=by unfold bp;rw[i6,if_neg (by rw[q];decide)]
 have a7:=aD c D
 refine⟨_,_,_,by rw[hw],fun h=>by rw[iE (hw.symm.trans h)];exact(aq i a7 (fun x hx=>aA) (bq.upd16 a7 aG)),(aD I D)⟩
theorem uy{m:Md}{A:Option Addr}{cp:Nat}{b:List Int}{w:World}(hsl:b9 m w (.slice A b.length cp) b)(hb:b.length≤1048576) :
    Calls Tryz.prog 163 #[.int .i64 1,.int .u8 20,.slice A b.length cp] w (fW (aR bJ b.length 0 ⟨b,false,0⟩ []) w):=by
 have hln:(b.length:Int)≤1048576:=by omega
 refine en 108 Tryz.func163 rfl<|sg<|Pl 2<|ng<|Pl 2<|L0<|dq #[.slice A b.length cp,.int .i64 0,.bool false,.int .i64 0] fun f ag M ba N=>Pl 1<|nt<|sq<|?_
 refine go<|Pl 1<|ng<|Pl 1<|nt<|sq<|bk<|?_
 have Z:RC w _ A cp b ag f (aj.mk b false 0):=⟨hsl,N,M,⟨0,ba,Nat.zero_le _,rfl⟩,by omega⟩
 refine iM (fun x=>[(0,.int .i64 1),(1,.int .u8 20),(6,.slice none 0 0),(7,.int .i64 0),(8,.pointer (some ⟨f,0,none⟩)),(9,.slice x.2.2.2.1 x.2.2.1.length x.2.2.2.2.1),(10,.int .i64 x.2.2.2.2.2)]) (fun(x:Nat × aj × List dc × Option Addr × Nat × Int) w'=>aC [] w w'∧ag.heap.size≤w'.heap.size∧RC w m A cp b w' f x.2.1∧aS w.heap.size 109 4 (bq true) w' (.slice x.2.2.2.1 x.2.2.1.length x.2.2.2.2.1) x.2.2.1∧(0≤x.2.2.2.2.2)∧(x.2.1.e=0→x.2.2.2.2.2≤245)∧(x.2.2.1.length+x.2.1.l.length≤b.length)∧((x.2.1.e=0∧x.2.1.l.length≤x.1∧aR bJ x.1 x.2.2.2.2.2 x.2.1 x.2.2.1=aR bJ b.length 0 ⟨b,false,0⟩ [])∨(x.2.1.e≠0∧(aR bJ b.length 0 ⟨b,false,0⟩ []).1=x.2.1))) (fun x=>x.2.1.l.length) (b.length,(aj.mk b false 0),[],none,0,0) ⟨N,lr,Z,(aS.nil w.heap.size _ _ (bq true) _),(by(try dsimp only);omega),(fun _=>(show(0:Int)≤245 from by decide)),(by(try dsimp only);simp),.inl ⟨rfl,Nat.le_refl _,rfl⟩⟩ ?_
 rintro⟨n,C,L,B,cq,s⟩ ai ⟨bb,r,bc,bd,be,bf,bh,bm⟩
 refine iL [(0,.int .i64 1),(1,.int .u8 20),(6,.slice none 0 0),(7,.int .i64 0),(8,.pointer (some ⟨f,0,none⟩)),(9,.slice B L.length cq),(10,.int .i64 s)] ?_
 have a:RC w m A cp b ai f C:=bc
 have hlC:=RC.clen a
 have hrC:eF C:=RC.rng a
 have d:aS w.heap.size 109 4 (bq true) ai (.slice B L.length cq) L:=bd
 have bY:0≤s:=be
 have bZ:C.e=0→s≤245:=bf
 have c0:L.length+C.l.length≤b.length:=bh
 have O:(C.e=0∧C.l.length≤n∧aR bJ n s C L=aR bJ b.length 0 ⟨b,false,0⟩ [])∨(C.e≠0∧(aR bJ b.length 0 ⟨b,false,0⟩ []).1=C):=bm
 refine sq<|sg<|Pl 1<|L0<|Oc<|m1 (iF a) fun c2 c=>?_
 have c3:=RC.clen a
 refine Pl 2<|cu 6 [20] 26 (((decide (0<((C.l.length:Nat) : Int)))&&(C.e==0))) (fun K al=>?_) ?_
 refine bl 20 ((decide (0<((C.l.length:Nat) : Int)))) (fun z=>?_) (fun z=>?_)
 have bo:=of_decide_eq_true z
 refine Pl 3<|?_
 exact L1<|eq (p:=⟨f,3,none⟩) (v:=.int .i64 C.e) (RC.fld (RC.upd a c aA (aC.step (RC.u a) c)))<|Pl 2<|ce al (C.e==0) (by rw[z];rfl)
 have bo:=of_decide_eq_false z
 exact Pl 6<|ce al false (by rw[z];rfl)
 refine nt<|?_
 have D:=aD bb c
 refine cb (((decide (0<((C.l.length:Nat) : Int)))&&(C.e==0))) (fun g=>?_) (fun g=>?_)
 have E:=(aU g).1
 have F:=(aU g).2
 have c4:=of_decide_eq_true E
 have c5:=ah F
 refine bi<|bk<|sg<|Pl 1<|L0<|bH #[.int .u16 0,.int .u16 0,.int .u16 0,.slice none 0 0] fun P c6 j a0 G=>L0<|b7 a0 #[.int .u16 0,.int .u16 0,.int .u16 0,.slice none 0 0] fun c7 an k=>nt<|sq<|sg<|Pl 6<|nl<|?_
 refine tn<|c1<|sg<|Pl 1<|?_
 have ao:=ud G k j
 have t:=aD c ao
 refine L0<|Oc<|m3 (dX (RC.upd a t aA (aC.step (RC.u a) t))) fun c8 H i c9=>L0<|Oi C.byteV<|Pl 1<|ng<|Pl 2<|L0<|Oe (.int .i64 (Int.tmod C.byteV 2)) (.int .i64 (C.byteV%2)) (congrArg (Value.int .i64) (Int.tmod_eq_emod_of_nonneg (by omega)))<|Pl 2<|cu 3 [41] 44 ((((C.byteV%2)==1)&&(decide (3≤C.byteV)))) (fun K ar=>?_) ?_
 refine bl 41 (((C.byteV%2)==1)) (fun I=>?_) (fun I=>?_)
 have br:=ah I
 exact Pl 3<|ce ar (decide (3≤C.byteV)) (by rw[I];rfl)
 have br:=ak I
 exact Pl 3<|ce ar false (by rw[I];rfl)
 refine Pl 1<|?_
 have au:=ud D (uz ao i) M
 refine bl 45 ((((C.byteV%2)==1)&&(decide (3≤C.byteV)))) (fun o=>?_) (fun o=>?_)
 have a1:=(aU o).1
 have a2:=(aU o).2
 have ca:=ah a1
 have cc:=of_decide_eq_true a2
 refine Pl 2<|L1<|Oc<|m1 (iF H) fun cd y=>?_
 have cf:=RC.clen H
 refine Pl 2<|?_
 refine L0<|Oc<|m2 (aY ((decide (C.byteV≤(((C.bytesC 1).l.length:Nat) : Int)))) 5 (RC.upd H y aA (aC.step (RC.u H) y))) fun cg bt Q=>?_
 refine fP bt fun x66 bu bv=>?_
 refine ng<|Pl 1<|L0<|Oc<|m3 (dX bv) fun ch bw S ci=>Pl 1<|ng<|Pl 3<|L0<|Oc<|m2 (aY ((x66.byteV==6)) 9 bw) fun cj bz T=>nl<|?_
 refine tn<|go<|Pl 2<|L0<|Oi (C.byteV-1)<|?_
 have ck:=mE (x:=(C.byteV-1)) (by omega)
 refine L0<|Oe (.int .i64 (IntKind.i64.wrap (Int.tdiv (C.byteV-1) 2))) (.int .i64 (Int.tdiv (C.byteV-1) 2)) (congrArg (Value.int .i64) (lq (by omega) (by omega)))<|L0<|Oc<|nf (ge (n:=(Int.tdiv (C.byteV-1) 2)) (by omega) bz) fun aw ay cl aE cm cn bA a3=>?_
 refine fP bA fun x82 bB aF=>?_
 refine Pl 1<|?_
 have aH:=uz y (u1 Q (u1 S (u1 T a3 im) im) im)
 have a4:=u1 i aH im
 have aI:=nb (RC.lt Z) (le r c.size) j
 refine L0<|bX (aW a4 (Ne.symm aI) an) 3 #[.int .u16 0,.int .u16 0,.int .u16 0,.slice aw ((((x66.bytesC 1).need (x66.byteV==6) 9).wordsR (Int.tdiv (C.byteV-1) 2)).length) ay] fun co bC a5=>nt<|go<|Pl 1<|L0<|bM bC<|L0<|cL (m:=1) (e:=109) #[.int .u16 0,.int .u16 0,.int .u16 0,.slice aw ((((x66.bytesC 1).need (x66.byteV==6) 9).wordsR (Int.tdiv (C.byteV-1) 2)).length) ay] fun cr cs ct bD a6=>?_
 have a7:=aD a5 a6
 have bE:=kB (R:=bq true) (x:=(dc.mk 0 0 0 (((x66.bytesC 1).need (x66.byteV==6) 9).wordsR (Int.tdiv (C.byteV-1) 2)))) bD rfl ⟨_,rfl,((aq aE a7 (fun x hx=>(aa (fun e=>(aB (am a0) (le (le (le (le (le k.size i.size) y.size) Q.size) S.size) T.size) aE) (e▸hx)) aA)) (fun _ _ h=>h))).rd,el (x:=0) (by omega),el (x:=0) (by omega),el (x:=0) (by omega)⟩
 have aJ:=ue t (us a4 a7) (le c.size j)
 have aK:=aq d aJ (fun x hx=>(aa (fun e=>(RC.nrow a d (by decide)) (e▸hx)) aA)) (bq.upd16 aJ (ap (RC.safe a _ (by decide)) aG))
 refine L0<|hZ (xs:=L) (ys:=([(dc.mk 0 0 0 (((x66.bytesC 1).need (x66.byteV==6) 9).wordsR (Int.tdiv (C.byteV-1) 2)))])) (.agg #[.int .u16 0,.int .u16 0,.int .u16 0,.slice none 0 0]) 4 32 aK bE (by simp) bq.ones (fun w' hv=>bq.upd16 hv (cM (dn _ aK (by decide)) aG)) (by(try simp only[List.length_append,List.length_cons,List.length_nil,az]);omega) (le (le (le (le (le (le (le (le (le (le (le (le N.size r) c.size) G.size) k.size) i.size) y.size) Q.size) S.size) T.size) a3.size) a5.size) a6.size) fun bF bG cv bI aL=>Pl 1<|nl<|bn<|?_
 subst bB bu
 have hC2:(bJ s C).2.1=(((((C.bytesC 1).need (decide (C.byteV≤(((C.bytesC 1).l.length:Nat) : Int))) 5).bytesC 1).need (((C.bytesC 1).need (decide (C.byteV≤(((C.bytesC 1).l.length:Nat) : Int))) 5).byteV==6) 9).wordsC (Int.tdiv (C.byteV-1) 2)):=by show eH C=_;(try simp only[eH,eJ,fy,i1,g,E,F,o,a1,a2,bs,if_true,if_false,decide_true,decide_false]);all_goals rfl
 have hM2:[(bJ s C).2.2]=[(dc.mk 0 0 0 (((((C.bytesC 1).need (decide (C.byteV≤(((C.bytesC 1).l.length:Nat) : Int))) 5).bytesC 1).need (((C.bytesC 1).need (decide (C.byteV≤(((C.bytesC 1).l.length:Nat) : Int))) 5).byteV==6) 9).wordsR (Int.tdiv (C.byteV-1) 2)))]:=by show[eJ C]=_;(try simp only[eH,eJ,fy,i1,g,E,F,o,a1,a2,bs,if_true,if_false,decide_true,decide_false]);all_goals rfl
 have hS2:(bJ s C).1=s:=by(try (show s=_));(try simp only[eE,← Int.add_assoc]);all_goals rfl
 have hlt:=jn s C (by omega)
 have h9:=ir (one:=bJ) O (by omega) (by omega) hlt
 rw[hC2,hM2,hS2] at h9
 rw[hC2] at hlt
 have aM:=ut (aC.mono (S':=(P :: (ob B++[]))) a7 (ac im ax)) aL (av il ax)
 have aN:=ut au (ut (aC.mono (S':=(f :: (P :: (ob B++[])))) aH (ac im ax)) aM (ac im (av il ax))) (ac (nr M) (ac (ni D.size j) (av (aP d lr) ax)))
 have aO:=uz t a4
 exact gE ((n-1),(((((C.bytesC 1).need (decide (C.byteV≤(((C.bytesC 1).l.length:Nat) : Int))) 5).bytesC 1).need (((C.bytesC 1).need (decide (C.byteV≤(((C.bytesC 1).l.length:Nat) : Int))) 5).byteV==6) 9).wordsC (Int.tdiv (C.byteV-1) 2)),(L++[(dc.mk 0 0 0 (((((C.bytesC 1).need (decide (C.byteV≤(((C.bytesC 1).l.length:Nat) : Int))) 5).bytesC 1).need (((C.bytesC 1).need (decide (C.byteV≤(((C.bytesC 1).l.length:Nat) : Int))) 5).byteV==6) 9).wordsR (Int.tdiv (C.byteV-1) 2)))]),bF,bG,s) ⟨aN,(le (le (le (le (le (le (le (le (le (le (le (le r c.size) G.size) k.size) i.size) y.size) Q.size) S.size) T.size) a3.size) a5.size) a6.size) aL.size),(RC.upd aF aM (aa aI (bj (RC.nrow aF (aq d aO (fun x hx=>(aa (fun e=>(RC.nrow a d (by decide)) (e▸hx)) aA)) (bq.upd16 aO (ap (RC.safe a _ (by decide)) aG))) (by decide)) aA)) aN),bI,(by(try dsimp only);omega),(by(try dsimp only);intro he;omega),(by(try dsimp only);simp only[List.length_append,List.length_cons,List.length_nil];omega),h9⟩ (by omega)
 refine Pl 5<|L0<|Oc<|m2 (aY (false) 5 H) fun cw bK U=>ng<|Pl 1<|L0<|Oc<|m3 (dX bK) fun cx bL V cy=>Pl 1<|ng<|Pl 3<|L0<|Oc<|m2 (aY (((((C.bytesC 1).need false 5).byteV)==6)) 9 bL) fun cz bN W=>?_
 refine fP bN fun X bO bP=>?_
 refine nt<|go<|Pl 2<|L0<|Oi (C.byteV-1)<|?_
 have cA:=mE (x:=(C.byteV-1)) (by omega)
 refine L0<|Oe (.int .i64 (IntKind.i64.wrap (Int.tdiv (C.byteV-1) 2))) (.int .i64 (Int.tdiv (C.byteV-1) 2)) (congrArg (Value.int .i64) (lq (by omega) (by omega)))<|L0<|Oc<|nf (ge (n:=(Int.tdiv (C.byteV-1) 2)) (by omega) bP) fun aQ aT cB aV cC cD aX a8=>Pl 1<|?_
 have aZ:=u1 U (u1 V (u1 W a8 im) im) im
 have a9:=u1 i aZ im
 have b0:=nb (RC.lt Z) (le r c.size) j
 refine L0<|bX (aW a9 (Ne.symm b0) an) 3 #[.int .u16 0,.int .u16 0,.int .u16 0,.slice aQ ((X.wordsR (Int.tdiv (C.byteV-1) 2)).length) aT] fun cE bQ ab=>nt<|go<|Pl 1<|L0<|bM bQ<|L0<|cL (m:=1) (e:=109) #[.int .u16 0,.int .u16 0,.int .u16 0,.slice aQ ((X.wordsR (Int.tdiv (C.byteV-1) 2)).length) aT] fun cF cG cH bR ad=>?_
 have ae:=aD ab ad
 have bS:=kB (R:=bq true) (x:=(dc.mk 0 0 0 (X.wordsR (Int.tdiv (C.byteV-1) 2)))) bR rfl ⟨_,rfl,((aq aV ae (fun x hx=>(aa (fun e=>(aB (am a0) (le (le (le (le k.size i.size) U.size) V.size) W.size) aV) (e▸hx)) aA)) (fun _ _ h=>h))).rd,el (x:=0) (by omega),el (x:=0) (by omega),el (x:=0) (by omega)⟩
 have b1:=ue t (us a9 ae) (le c.size j)
 have b2:=aq d b1 (fun x hx=>(aa (fun e=>(RC.nrow a d (by decide)) (e▸hx)) aA)) (bq.upd16 b1 (ap (RC.safe a _ (by decide)) aG))
 refine L0<|hZ (xs:=L) (ys:=([(dc.mk 0 0 0 (X.wordsR (Int.tdiv (C.byteV-1) 2)))])) (.agg #[.int .u16 0,.int .u16 0,.int .u16 0,.slice none 0 0]) 4 32 b2 bS (by simp) bq.ones (fun w' hv=>bq.upd16 hv (cM (dn _ b2 (by decide)) aG)) (by(try simp only[List.length_append,List.length_cons,List.length_nil,az]);omega) (le (le (le (le (le (le (le (le (le (le (le N.size r) c.size) G.size) k.size) i.size) U.size) V.size) W.size) a8.size) ab.size) ad.size) fun bT bU cI bV b3=>Pl 1<|nl<|bn<|?_
 subst bO
 have hC2:(bJ s C).2.1=(((((C.bytesC 1).need false 5).bytesC 1).need ((((C.bytesC 1).need false 5).byteV)==6) 9).wordsC (Int.tdiv (C.byteV-1) 2)):=by show eH C=_;(try simp only[eH,eJ,fy,i1,g,E,F,o,bs,if_true,if_false,decide_true,decide_false]);all_goals rfl
 have hM2:[(bJ s C).2.2]=[(dc.mk 0 0 0 (((((C.bytesC 1).need false 5).bytesC 1).need ((((C.bytesC 1).need false 5).byteV)==6) 9).wordsR (Int.tdiv (C.byteV-1) 2)))]:=by show[eJ C]=_;(try simp only[eH,eJ,fy,i1,g,E,F,o,bs,if_true,if_false,decide_true,decide_false]);all_goals rfl
 have hS2:(bJ s C).1=s:=by(try (show s=_));(try simp only[eE,← Int.add_assoc]);all_goals rfl
 have hlt:=jn s C (by omega)
 have h9:=ir (one:=bJ) O (by omega) (by omega) hlt
 rw[hC2,hM2,hS2] at h9
 rw[hC2] at hlt
 have b4:=ut (aC.mono (S':=(P :: (ob B++[]))) ae (ac im ax)) b3 (av il ax)
 have b5:=ut au (ut (aC.mono (S':=(f :: (P :: (ob B++[])))) aZ (ac im ax)) b4 (ac im (av il ax))) (ac (nr M) (ac (ni D.size j) (av (aP d lr) ax)))
 have b6:=uz t a9
 exact gE ((n-1),(((((C.bytesC 1).need false 5).bytesC 1).need ((((C.bytesC 1).need false 5).byteV)==6) 9).wordsC (Int.tdiv (C.byteV-1) 2)),(L++[(dc.mk 0 0 0 (((((C.bytesC 1).need false 5).bytesC 1).need ((((C.bytesC 1).need false 5).byteV)==6) 9).wordsR (Int.tdiv (C.byteV-1) 2)))]),bT,bU,s) ⟨b5,(le (le (le (le (le (le (le (le (le (le (le r c.size) G.size) k.size) i.size) U.size) V.size) W.size) a8.size) ab.size) ad.size) b3.size),(RC.upd aX b4 (aa b0 (bj (RC.nrow aX (aq d b6 (fun x hx=>(aa (fun e=>(RC.nrow a d (by decide)) (e▸hx)) aA)) (bq.upd16 b6 (ap (RC.safe a _ (by decide)) aG))) (by decide)) aA)) b5),bV,(by(try dsimp only);omega),(by(try dsimp only);intro he;omega),(by(try dsimp only);simp only[List.length_append,List.length_cons,List.length_nil];omega),h9⟩ (by omega)
 refine xt<|tx<|tx<|bx<|tn<|sq<|sg<|Pl 3<|?_
 have af:=RC.upd a c aA (aC.step (RC.u a) c)
 refine L0<|eq (p:=⟨f,3,none⟩) (v:=.int .i64 C.e) (RC.fld af)<|Pl 1<|nt<|cb ((C.e==2)) (fun J=>?_) (fun J=>?_)
 have bW:=ah J
 refine sg<|Pl 2<|nt<|rt<|tr<|rr (.tuple #[.slice none 0 0,.int .i64 5])<|?_
 obtain⟨i6,iE⟩:=fu O g
 have hw:bp (aR bJ b.length 0 ⟨b,false,0⟩ []).1.e=5:=by unfold bp;rw[i6,if_pos J]
 refine⟨none,0,0,by rw[hw],fun h=>absurd (hw.symm.trans h) (by decide),D⟩
 have bW:=ak J
 refine bi<|sq<|Rg 7 (fun w'=>w'.cell? ⟨f,3,none⟩=some (.int .i64 C.e)) fun cJ Y=>?_
 refine bg (RC.fld (RC.upd af Y aA (aC.step (RC.u af) Y))) fun q=>Rt 0 q<|Rt 1 q<|Rt 2 q<|Rt 3 q<|Rl 4 q (fun _ hs=>hs)<|Rt 5 q<|Rt 6 q<|re<|tn<|rt<|rr (.tuple #[.slice B L.length cq,.int .i64 C.e])<|?_
 obtain⟨i6,iE⟩:=fu O g
 have hw:bp (aR bJ b.length 0 ⟨b,false,0⟩ []).1.e=C.e:=by unfold bp;rw[i6,if_neg (by rw[J];decide)]
 have b8:=aD c Y
 refine⟨_,_,_,by rw[hw],fun h=>by rw[iE (hw.symm.trans h)];exact(aq d b8 (fun x hx=>aA) (bq.upd16 b8 aG)),(aD D Y)⟩
theorem uX{m:Md}{A:Option Addr}{cp:Nat}{b:List Int}{w:World}{dir:Int}(hsl:b9 m w (.slice A b.length cp) b)(hb:b.length≤1048576) :
    Calls Tryz.prog 163 #[.int .i64 dir,.int .u8 21,.slice A b.length cp] w (fW (aR cK b.length 0 ⟨b,false,0⟩ []) w):=by
 have hln:(b.length:Int)≤1048576:=by omega
 refine en 108 Tryz.func163 rfl<|sg<|Pl 2<|ng<|Pl 2<|L0<|dq #[.slice A b.length cp,.int .i64 0,.bool false,.int .i64 0] fun d a3 N aF O=>Pl 1<|nt<|sq<|?_
 refine go<|Pl 1<|ng<|Pl 1<|nt<|sq<|bk<|?_
 have a4:RC w _ A cp b a3 d (aj.mk b false 0):=⟨hsl,O,N,⟨0,aF,Nat.zero_le _,rfl⟩,by omega⟩
 refine iM (fun x=>[(0,.int .i64 dir),(1,.int .u8 21),(6,.slice none 0 0),(7,.int .i64 0),(8,.pointer (some ⟨d,0,none⟩)),(9,.slice x.2.2.2.1 x.2.2.1.length x.2.2.2.2.1),(10,.int .i64 x.2.2.2.2.2)]) (fun(x:Nat × aj × List dc × Option Addr × Nat × Int) w'=>aC [] w w'∧a3.heap.size≤w'.heap.size∧RC w m A cp b w' d x.2.1∧aS w.heap.size 109 4 (bq true) w' (.slice x.2.2.2.1 x.2.2.1.length x.2.2.2.2.1) x.2.2.1∧(0≤x.2.2.2.2.2)∧(x.2.1.e=0→x.2.2.2.2.2≤245)∧(x.2.2.1.length+x.2.1.l.length≤b.length)∧((x.2.1.e=0∧x.2.1.l.length≤x.1∧aR cK x.1 x.2.2.2.2.2 x.2.1 x.2.2.1=aR cK b.length 0 ⟨b,false,0⟩ [])∨(x.2.1.e≠0∧(aR cK b.length 0 ⟨b,false,0⟩ []).1=x.2.1))) (fun x=>x.2.1.l.length) (b.length,(aj.mk b false 0),[],none,0,0) ⟨O,lr,a4,(aS.nil w.heap.size _ _ (bq true) _),(by(try dsimp only);omega),(fun _=>(show(0:Int)≤245 from by decide)),(by(try dsimp only);simp),.inl ⟨rfl,Nat.le_refl _,rfl⟩⟩ ?_
 rintro⟨n,C,L,B,cq,s⟩ a5 ⟨aH,P,aI,aJ,aK,aL,aM,aO⟩
 refine iL [(0,.int .i64 dir),(1,.int .u8 21),(6,.slice none 0 0),(7,.int .i64 0),(8,.pointer (some ⟨d,0,none⟩)),(9,.slice B L.length cq),(10,.int .i64 s)] ?_
 have a:RC w m A cp b a5 d C:=aI
 have hlC:=RC.clen a
 have hrC:eF C:=RC.rng a
 have j:aS w.heap.size 109 4 (bq true) a5 (.slice B L.length cq) L:=aJ
 have bh:0≤s:=aK
 have bm:C.e=0→s≤245:=aL
 have bo:L.length+C.l.length≤b.length:=aM
 have Q:(C.e=0∧C.l.length≤n∧aR cK n s C L=aR cK b.length 0 ⟨b,false,0⟩ [])∨(C.e≠0∧(aR cK b.length 0 ⟨b,false,0⟩ []).1=C):=aO
 refine sq<|sg<|Pl 1<|L0<|Oc<|m1 (iF a) fun br c=>?_
 have bt:=RC.clen a
 refine Pl 2<|cu 6 [20] 26 (((decide (0<((C.l.length:Nat) : Int)))&&(C.e==0))) (fun K a6=>?_) ?_
 refine bl 20 ((decide (0<((C.l.length:Nat) : Int)))) (fun r=>?_) (fun r=>?_)
 have aT:=of_decide_eq_true r
 refine Pl 3<|?_
 exact L1<|eq (p:=⟨d,3,none⟩) (v:=.int .i64 C.e) (RC.fld (RC.upd a c aA (aC.step (RC.u a) c)))<|Pl 2<|ce a6 (C.e==0) (by rw[r];rfl)
 have aT:=of_decide_eq_false r
 exact Pl 6<|ce a6 false (by rw[r];rfl)
 refine nt<|?_
 have F:=aD aH c
 refine cb (((decide (0<((C.l.length:Nat) : Int)))&&(C.e==0))) (fun g=>?_) (fun g=>?_)
 have S:=(aU g).1
 have T:=(aU g).2
 have bu:=of_decide_eq_true S
 have bv:=ah T
 refine bi<|bk<|sg<|Pl 1<|L0<|bH #[.int .u16 0,.int .u16 0,.int .u16 0,.slice none 0 0] fun U bw k a7 V=>L0<|b7 a7 #[.int .u16 0,.int .u16 0,.int .u16 0,.slice none 0 0] fun bz aV G=>nt<|sq<|sg<|Pl 6<|nl<|?_
 refine tn<|c0<|sg<|Pl 1<|?_
 have a8:=ud V G k
 have H:=aD c a8
 refine L0<|Oc<|m5 (wR (RC.upd a H aA (aC.step (RC.u a) H))) fun bA aX aZ b0 b1 t=>?_
 obtain⟨bB,bC⟩:=aX
 obtain⟨bD,bE⟩:=aZ
 obtain⟨bF,bG⟩:=b0
 have y:=nb (RC.lt a4) (le P c.size) k
 refine L0<|b7 (aW t (Ne.symm y) aV) #[.int .u16 ((aQ C).file),.int .u16 ((aQ C).record),.int .u16 ((aQ C).count),.slice none 0 0] fun bI b2 I=>ng<|Pl 2<|nt<|c1<|sq<|Rg 9 (fun w'=>w'.cell? ⟨U,2,none⟩=some (.int .u16 ((aQ C).count))) fun bJ z=>?_
 have a9:=ub z b2
 refine bg (ae a9 rfl) fun o=>Rt 0 o<|Rt 1 o<|Rl 2 o (fun _ hs=>hs)<|Rr 3 o (.int .i64 ((aQ C).count)) (fun _ _=>cy (.int .i64 (IntKind.i64.wrap ((aQ C).count))) (by kernel_rfl) (congrArg (Value.int .i64) (i64_in (by omega))))<|Rr 4 o (.int .i64 (2*((aQ C).count))) (fun _ _=>cy (.int .i64 (IntKind.i64.wrap (2*((aQ C).count)))) (by kernel_rfl) (congrArg (Value.int .i64) (IntWalk.i64_in _ (by omega))))<|Rt 5 o<|?_
 have ab:=aD I z
 have W:=us t ab
 have ad:=ud F (ue a8 W k) N
 have J:=RC.upd b1 ab (aa y aA) ad
 refine R0 6 rfl<|Oc<|m1 (iF J) fun bK f=>?_
 have bL:=RC.clen J
 have af:=ub f a9
 refine bg (ae af rfl) fun b3=>Rt 7 b3<|?_
 refine R0 8 rfl<|Oc<|m2 (aY ((decide ((2*((aQ C).count))≤(((dt C).l.length:Nat) : Int)))) 5 (RC.upd J f aA (aC.step (RC.u J) f))) fun bN b4 q=>?_
 refine fP b4 fun x93 b5 b6=>?_
 have X:=aW q (Ne.symm y) af
 refine bg (ae X rfl) fun bO=>re<|tn<|go<|Pl 2<|L0<|aN X 2<|L0<|Oi ((aQ C).count)<|L0<|Oc<|nf (ge (n:=(aQ C).count) (by omega) b6) fun ag ai bP al bQ bR an D=>Pl 1<|?_
 refine L0<|bX (aW D (Ne.symm y) X) 3 #[.int .u16 ((aQ C).file),.int .u16 ((aQ C).record),.int .u16 ((aQ C).count),.slice ag ((x93.wordsR ((aQ C).count)).length) ai] fun bS b8 Y=>nt<|go<|Pl 1<|L0<|bM b8<|L0<|cL (m:=1) (e:=109) #[.int .u16 ((aQ C).file),.int .u16 ((aQ C).record),.int .u16 ((aQ C).count),.slice ag ((x93.wordsR ((aQ C).count)).length) ai] fun bT bU bV ba Z=>?_
 have a0:=aD Y Z
 have bb:=kB (R:=bq true) (x:=(dc.mk ((aQ C).file) ((aQ C).record) ((aQ C).count) (x93.wordsR ((aQ C).count)))) ba rfl ⟨_,rfl,((aq al a0 (fun x hx=>(aa (fun e=>(aB (am a7) (le (le (le (le (le G.size t.size) I.size) z.size) f.size) q.size) al) (e▸hx)) aA)) (fun _ _ h=>h))).rd,el (x:=(aQ C).file) (by omega),el (x:=(aQ C).record) (by omega),el (x:=(aQ C).count) (by omega)⟩
 have ao:=uz f (ui q (us D a0))
 have ar:=ue H (ut W ao (ac im (ac im ax))) (le c.size k)
 have au:=aq j ar (fun x hx=>(aa (fun e=>(RC.nrow a j (by decide)) (e▸hx)) aA)) (bq.upd16 ar (ap (RC.safe a _ (by decide)) aG))
 refine L0<|hZ (xs:=L) (ys:=([(dc.mk ((aQ C).file) ((aQ C).record) ((aQ C).count) (x93.wordsR ((aQ C).count)))])) (.agg #[.int .u16 0,.int .u16 0,.int .u16 0,.slice none 0 0]) 4 32 au bb (by simp) bq.ones (fun w' hv=>bq.upd16 hv (cM (dn _ au (by decide)) aG)) (by(try simp only[List.length_append,List.length_cons,List.length_nil,az]);omega) (le (le (le (le (le (le (le (le (le (le (le (le O.size P) c.size) V.size) G.size) t.size) I.size) z.size) f.size) q.size) D.size) Y.size) Z.size) fun bc bd bW be a1=>Pl 1<|nl<|bn<|?_
 subst b5
 have hC2:(cK s C).2.1=(((dt C).need (decide ((2*((aQ C).count))≤(((dt C).l.length:Nat) : Int))) 5).wordsC ((aQ C).count)):=by show iK C=_;(try simp only[iK,iQ,lV,g,S,T,bs,if_true,if_false,decide_true,decide_false]);all_goals rfl
 have hM2:[(cK s C).2.2]=[(dc.mk ((aQ C).file) ((aQ C).record) ((aQ C).count) (((dt C).need (decide ((2*((aQ C).count))≤(((dt C).l.length:Nat) : Int))) 5).wordsR ((aQ C).count)))]:=by show[iQ C]=_;(try simp only[iK,iQ,lV,g,S,T,bs,if_true,if_false,decide_true,decide_false]);all_goals rfl
 have hS2:(cK s C).1=s:=by(try (show s=_));(try simp only[eE,← Int.add_assoc]);all_goals rfl
 have hlt:=nq s C (by omega)
 have h9:=ir (one:=cK) Q (by omega) (by omega) hlt
 rw[hC2,hM2,hS2] at h9
 rw[hC2] at hlt
 have aw:=ut ad (ut (aC.mono (S':=(d :: (U :: (ob B++[])))) ao (ac im (ac im ax))) a1 (av il ax)) (ac (nr N) (ac (ni F.size k) (av (aP j lr) ax)))
 have ay:=ue H (u1 W (uz f (u1 q D im)) im) (le c.size k)
 exact gE ((n-1),(((dt C).need (decide ((2*((aQ C).count))≤(((dt C).l.length:Nat) : Int))) 5).wordsC ((aQ C).count)),(L++[(dc.mk ((aQ C).file) ((aQ C).record) ((aQ C).count) (((dt C).need (decide ((2*((aQ C).count))≤(((dt C).l.length:Nat) : Int))) 5).wordsR ((aQ C).count)))]),bc,bd,s) ⟨aw,(le (le (le (le (le (le (le (le (le (le (le (le P c.size) V.size) G.size) t.size) I.size) z.size) f.size) q.size) D.size) Y.size) Z.size) a1.size),(RC.upd an (ut (aC.mono (S':=(U :: (ob B++[]))) a0 (ac im ax)) a1 (av il ax)) (aa y (bj (RC.nrow an (aq j ay (fun x hx=>(aa (fun e=>(RC.nrow a j (by decide)) (e▸hx)) aA)) (bq.upd16 ay (ap (RC.safe a _ (by decide)) aG))) (by decide)) aA)) aw),be,(by(try dsimp only);omega),(by(try dsimp only);intro he;omega),(by(try dsimp only);simp only[List.length_append,List.length_cons,List.length_nil];omega),h9⟩ (by omega)
 refine xt<|tx<|tx<|bx<|tn<|sq<|sg<|Pl 3<|?_
 have a2:=RC.upd a c aA (aC.step (RC.u a) c)
 refine L0<|eq (p:=⟨d,3,none⟩) (v:=.int .i64 C.e) (RC.fld a2)<|Pl 1<|nt<|cb ((C.e==2)) (fun E=>?_) (fun E=>?_)
 have bf:=ah E
 refine sg<|Pl 2<|nt<|rt<|tr<|rr (.tuple #[.slice none 0 0,.int .i64 5])<|?_
 obtain⟨i6,iE⟩:=fu Q g
 have hw:bp (aR cK b.length 0 ⟨b,false,0⟩ []).1.e=5:=by unfold bp;rw[i6,if_pos E]
 refine⟨none,0,0,by rw[hw],fun h=>absurd (hw.symm.trans h) (by decide),F⟩
 have bf:=ak E
 refine bi<|sq<|Rg 7 (fun w'=>w'.cell? ⟨d,3,none⟩=some (.int .i64 C.e)) fun bY M=>?_
 refine bg (RC.fld (RC.upd a2 M aA (aC.step (RC.u a2) M))) fun i=>Rt 0 i<|Rt 1 i<|Rt 2 i<|Rt 3 i<|Rl 4 i (fun _ hs=>hs)<|Rt 5 i<|Rt 6 i<|re<|tn<|rt<|rr (.tuple #[.slice B L.length cq,.int .i64 C.e])<|?_
 obtain⟨i6,iE⟩:=fu Q g
 have hw:bp (aR cK b.length 0 ⟨b,false,0⟩ []).1.e=C.e:=by unfold bp;rw[i6,if_neg (by rw[E];decide)]
 have aE:=aD c M
 refine⟨_,_,_,by rw[hw],fun h=>by rw[iE (hw.symm.trans h)];exact(aq j aE (fun x hx=>aA) (bq.upd16 aE aG)),(aD F M)⟩
theorem mh{m:Md}{v:Value}{b:List Int}{w:World}(h:b9 m w v b)(hb:b.length≤1048576) :
    Calls Tryz.prog 163 #[.int .i64 0,.int .u8 20,v] w (fW (aR cJ b.length 0 ⟨b,false,0⟩ []) w):=by
  obtain⟨A,cp,rfl,_,_⟩:=h.shape
  exact to h hb
theorem mv{m:Md}{v:Value}{b:List Int}{w:World}(h:b9 m w v b)(hb:b.length≤1048576) :
    Calls Tryz.prog 163 #[.int .i64 1,.int .u8 20,v] w (fW (aR bJ b.length 0 ⟨b,false,0⟩ []) w):=by
  obtain⟨A,cp,rfl,_,_⟩:=h.shape
  exact uy h hb
theorem mr{m:Md}{v:Value}{b:List Int}{w:World}{dir:Int}(h:b9 m w v b)(hb:b.length≤1048576) :
    Calls Tryz.prog 163 #[.int .i64 dir,.int .u8 21,v] w (fW (aR cK b.length 0 ⟨b,false,0⟩ []) w):=by
  obtain⟨A,cp,rfl,_,_⟩:=h.shape
  exact uX h hb
end Go.Proofs.YtogbnemojakcpaaGreat
