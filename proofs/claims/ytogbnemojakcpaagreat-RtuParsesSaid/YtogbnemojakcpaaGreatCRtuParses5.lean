/- Contracts of functions, part CRtuParses5. -/
import Derived.Test.YtogbnemojakcpaaGreatCRtuParses1
import Derived.Test.YtogbnemojakcpaaGreatCRtuParses2
import Derived.Test.YtogbnemojakcpaaGreatCRtuParses3
import Derived.Test.YtogbnemojakcpaaGreatCRtuParses4
set_option linter.unusedVariables false
set_option linter.unusedSimpArgs false
set_option maxRecDepth 100000
set_option maxHeartbeats 4000000
namespace Go.Proofs.YtogbnemojakcpaaGreat
open Go.RowKit
def wx (A:Option Addr)(cp:Nat)(full:List Int)(k:Nat)(C:ah) : Array Value:=#[.slice A full.length cp,.int .i64 ((k:Nat) : Int),.bool C.sh,.int .i64 C.e]
structure RC (w0:World) (m:Md) (A:Option Addr) (cp:Nat) (full:List Int) (w:World) (g:Nat) (C:ah) : Prop where
  src:b7 m w0 (.slice A full.length cp) full
  u:aE [] w0 w
  new:w0.heap.size≤g
  cell:∃ k:Nat,w.heap[g]? = some (.cells (wx A cp full k C) 159 (0,0))∧k≤full.length∧C.l=full.drop k
  len:full.length≤1048576
theorem RC.upd{w0:World}{m:Md}{A:Option Addr}{cp:Nat}{full:List Int}{w w':World}{g:Nat}{C:ah}{S:List Nat}(h:RC w0 m A cp full w g C)(hu:aE S w w')(hg:g∉S)(U:aE [] w0 w') : RC w0 m A cp full w' g C:=by
  obtain⟨h1,h2,h3,⟨k,h4,h5,h6⟩,h7⟩:=h
  exact⟨h1,U,h3,⟨k,hu.blk hg h4,h5,h6⟩,h7⟩
theorem RC.rd{w0:World}{m:Md}{A:Option Addr}{cp:Nat}{full:List Int}{w:World}{g:Nat}{C:ah}(h:RC w0 m A cp full w g C) : b7 m w (.slice A full.length cp) full:=b7.old h.src h.u
theorem RC.rng{w0:World}{m:Md}{A:Option Addr}{cp:Nat}{full:List Int}{w:World}{g:Nat}{C:ah}(h:RC w0 m A cp full w g C) : ∀ x,x∈C.l→0≤x∧x<256:=fun x hx=>by
  obtain⟨k,_,_,h2⟩:=h.cell
  rw[h2] at hx
  exact b7.range h.src x (List.mem_of_mem_drop hx)
theorem td(C:ah){ok:Bool}{x:Int}(h:(ok || (C.e != 0))=true) : C.need ok x=C:=by
  unfold ah.need
  rw[if_neg]
  rintro⟨h1,rfl⟩
  rw[h1] at h
  cases h
theorem sH(C:ah){ok:Bool}{x:Int}(h:(ok || (C.e != 0))=false) : C.need ok x = { C with e:=x }:=by
  simp only[Bool.or_eq_false_iff,bne_eq_false_iff_eq] at h
  unfold ah.need
  rw[if_pos ⟨h.2,h.1⟩]
def tB (w0:World)(m:Md)(A:Option Addr)(cp:Nat)(full:List Int)(g:Nat)(C:ah)(w:World)(e:Ending)(w':World) : Prop:=e = .returned (.tuple #[])∧RC w0 m A cp full w' g C∧aE [g] w w'
theorem aV{w0:World}{m:Md}{A:Option Addr}{cp:Nat}{full:List Int}{w:World}{g:Nat}{C:ah}(ok:Bool)(x:Int)(hC:RC w0 m A cp full w g C) :
    Calls Tryz.prog 152 #[.pointer (some ⟨g,0,none⟩),.bool ok,.int .i64 x] w (tB w0 m A cp full g (C.need ok x) w):=by
 obtain⟨hsrc,hU,hnew,⟨k,hB,hk,hl⟩,hlen⟩:=hC
 refine en 18 Tryz.func152 rfl<|sq<|sg<|Pl 2<|cu 6 [7] 13 ((ok || (C.e != 0))) (fun K c=>?_) ?_
 refine bl 7 (ok) (fun b=>?_) (fun b=>?_)
 exact Pl 6<|ce c true (by rw[b];rfl)
 exact Pl 3<|L1<|aR hB 3<|Pl 2<|ce c (C.e != 0) (by rw[b];rfl)
 refine nt<|cb ((ok || (C.e != 0))) (fun a=>?_) (fun a=>?_)
 refine rt<|tr<|rr (.tuple #[])<|?_
 rw[td C a]
 exact⟨rfl,⟨hsrc,hU.trans' (aE.mono (S':=[g]) (aE.refl [] _) aq) (fun x hx=>.inr (by simp at hx;subst hx;exact hnew)),hnew,⟨k,hB,hk,hl⟩,hlen⟩,(aE.mono (S':=[g]) (aE.refl [] _) aq)⟩
 have i:=(aJ a).1
 have f:=(aJ a).2
 have j:=ai f
 refine bq<|go<|Pl 4<|L0<|bS hB 3 #[.slice A full.length cp,.int .i64 ((k:Nat) : Int),.bool C.sh,.int .i64 x] fun l h d=>nl<|rm (.tuple #[])<|?_
 rw[sH C a]
 exact⟨rfl,⟨hsrc,hU.trans' d (fun x hx=>.inr (by simp at hx;subst hx;exact hnew)),hnew,⟨k,h,hk,hl⟩,hlen⟩,d⟩
theorem i4{C:ah}{full:List Int}{k:Nat}{n:Int}(hk:k≤full.length)(hl:C.l=full.drop k) : C.fails n=((C.sh || decide (n<0))||decide ((((full.length:Nat) : Int)-((k:Nat) : Int))<n)):=by
  unfold ah.fails
  rw[hl,List.length_drop,show((full.length-k:Nat) : Int)=((full.length:Nat) : Int)-((k:Nat) : Int) by omega]
def sO (w0:World)(m:Md)(A:Option Addr)(cp:Nat)(full:List Int)(g:Nat)(C:ah)(n:Int)(w:World)(e:Ending)(w':World) : Prop:=∃ A2 n2 c2,e = .returned (.slice A2 n2 c2)∧(∀ m' w'',b7 m' w'' (.slice A full.length cp) full→b7 m' w'' (.slice A2 n2 c2) (C.bytesR n))∧RC w0 m A cp full w' g (C.bytesC n)∧aE [g] w w'
theorem sr{l full:List Int}{k a b:Nat}(hl:l=full.drop k)(h:b=k+a) : l.drop a=full.drop b:=by
  rw[hl,List.drop_drop,h]
theorem od{C:ah}{full:List Int}{k:Nat}{n:Int}(hk:k≤full.length)(hl:C.l=full.drop k)(hf:C.fails n=false)(a b:Nat)(ha:(a:Int)=k)(hb:(b:Int)=(k:Int)+n) : (full.take b).drop a=C.bytesR n:=by
  obtain rfl:a=k:=by omega
  unfold ah.bytesR
  rw[hf,hl,List.drop_take]
  show _=(full.drop a).take n.toNat
  rw[show b-a=n.toNat by omega]
theorem o9{w0:World}{m:Md}{A:Option Addr}{cp:Nat}{full:List Int}{w:World}{g:Nat}{C:ah}{n:Int}(hn : -1048576≤n∧n≤2097152)(hC:RC w0 m A cp full w g C) :
    Calls Tryz.prog 153 #[.pointer (some ⟨g,0,none⟩),.int .i64 n] w (sO w0 m A cp full g C n w):=by
 obtain⟨hsrc,hU,hnew,⟨k,hB,hk,hl⟩,hlen⟩:=hC
 have hcp:full.length≤cp:=by obtain⟨_,_,hv,h1,_⟩:=aK.shape hsrc;injection hv with _ _ h3;omega
 refine en 64 Tryz.func153 rfl<|sg<|Pl 1<|nt<|sq<|sq<|Rg 22 (fun w'=>w'.cell? ⟨g,2,none⟩=some (.bool C.sh)∧w'.cell? ⟨g,0,none⟩=some (.slice A full.length cp)∧w'.cell? ⟨g,1,none⟩=some (.int .i64 ((k:Nat) : Int))) fun a4 i=>?_
 have d:=ub i hB
 refine bh ⟨(ag d rfl),(ag d rfl),(ag d rfl)⟩ fun a=>Rt 0 a<|Rt 1 a<|Rt 2 a<|Rl 3 a (fun _ hs=>hs.1)<|Rt 4 a<|pa 9 (C.sh) (fun j=>?_) (fun j=>?_)
 refine Ro 5 a<|Ro 6 a<|Rt 7 a<|Rt 8 a<|Ro 9 a<|Ro 10 a<|Ro 11 a<|Ro 12 a<|Ro 13 a<|Ro 14 a<|Ro 15 a<|Ro 16 a<|Ro 17 a<|Ro 18 a<|?_
 refine Ro 19 a<|Ro 20 a<|Rt 21 a<|re<|tn<|c1<|sg<|Pl 3<|L0<|bS d 2 #[.slice A full.length cp,.int .i64 ((k:Nat) : Int),.bool true,.int .i64 C.e] fun a5 q D=>ng<|?_
 refine Pl 4<|L0<|aR q 0<|Pl 3<|L0<|bS q 1 #[.slice A full.length cp,.int .i64 ((full.length:Nat) : Int),.bool true,.int .i64 C.e] fun E F G=>ng<|Pl 1<|?_
 have r:=u1 (u1 (aE.mono (S':=[g]) i aq) D im) G im
 have H:RC w0 m A cp full E g { C with l:=[],sh:=true }:=⟨hsrc,hU.trans' r (fun x hx=>.inr (by simp at hx;subst hx;exact hnew)),hnew,⟨full.length,F,Nat.le_refl _,List.drop_length.symm⟩,hlen⟩
 refine L0<|Oc<|m2 (aV false 2 H) fun a6 I J=>ng<|Pl 1<|nt<|rt<|tr<|rr (.slice none 0 0)<|?_
 have hf:C.fails n=true:=by rw[i4 (n:=n) hk hl,j];rfl
 have e1:C.bytesR n=[]:=by unfold ah.bytesR;rw[hf];rfl
 have e2:C.bytesC n=ah.need { C with l:=[],sh:=true } false 2:=by unfold ah.bytesC;rw[hf];rfl
 exact⟨none,0,0,rfl,fun _ _ _=>by rw[e1];exact aK.nil ..,by rw[e2];exact I,(u1 r J im)⟩
 refine Rt 5 a<|Rt 6 a<|Rt 7 a<|Rt 8 a<|pa 13 ((decide (n<0))) (fun f=>?_) (fun f=>?_)
 have K:=of_decide_eq_true f
 refine Ro 9 a<|Ro 10 a<|Ro 11 a<|Ro 12 a<|Ro 13 a<|Ro 14 a<|Ro 15 a<|Ro 16 a<|Ro 17 a<|Ro 18 a<|Ro 19 a<|Ro 20 a<|Rt 21 a<|re<|?_
 refine tn<|c1<|sg<|Pl 3<|L0<|bS d 2 #[.slice A full.length cp,.int .i64 ((k:Nat) : Int),.bool true,.int .i64 C.e] fun a7 s L=>ng<|Pl 4<|L0<|aR s 0<|Pl 3<|L0<|bS s 1 #[.slice A full.length cp,.int .i64 ((full.length:Nat) : Int),.bool true,.int .i64 C.e] fun M N O=>?_
 refine ng<|Pl 1<|?_
 have t:=u1 (u1 (aE.mono (S':=[g]) i aq) L im) O im
 have Q:RC w0 m A cp full M g { C with l:=[],sh:=true }:=⟨hsrc,hU.trans' t (fun x hx=>.inr (by simp at hx;subst hx;exact hnew)),hnew,⟨full.length,N,Nat.le_refl _,List.drop_length.symm⟩,hlen⟩
 refine L0<|Oc<|m2 (aV false 2 Q) fun a8 R S=>ng<|Pl 1<|nt<|rt<|tr<|rr (.slice none 0 0)<|?_
 have hf:C.fails n=true:=by rw[i4 (n:=n) hk hl,j,f];rfl
 have e1:C.bytesR n=[]:=by unfold ah.bytesR;rw[hf];rfl
 have e2:C.bytesC n=ah.need { C with l:=[],sh:=true } false 2:=by unfold ah.bytesC;rw[hf];rfl
 exact⟨none,0,0,rfl,fun _ _ _=>by rw[e1];exact aK.nil ..,by rw[e2];exact R,(u1 t S im)⟩
 have K:=of_decide_eq_false f
 refine Rt 9 a<|Rt 10 a<|Rt 11 a<|Rt 12 a<|Rl 13 a (fun _ hs=>hs.2.1)<|Rt 14 a<|Rt 15 a<|Rt 16 a<|Rt 17 a<|Rl 18 a (fun _ hs=>hs.2.2)<|Rr 19 a (.int .i64 (((full.length:Nat) : Int)-((k:Nat) : Int))) (fun _ _=>cJ (.int .i64 (IntKind.i64.wrap (((full.length:Nat) : Int)-((k:Nat) : Int)))) (by kernel_rfl) (congrArg (Value.int .i64) (IntWalk.i64_in _ (by omega))))<|Rt 20 a<|Rt 21 a<|re<|?_
 refine tn<|cb ((decide ((((full.length:Nat) : Int)-((k:Nat) : Int))<n))) (fun o=>?_) (fun o=>?_)
 have T:=of_decide_eq_true o
 refine sg<|Pl 3<|L0<|bS d 2 #[.slice A full.length cp,.int .i64 ((k:Nat) : Int),.bool true,.int .i64 C.e] fun a9 u U=>ng<|Pl 4<|L0<|aR u 0<|Pl 3<|L0<|bS u 1 #[.slice A full.length cp,.int .i64 ((full.length:Nat) : Int),.bool true,.int .i64 C.e] fun V W X=>nt<|?_
 refine sg<|Pl 1<|?_
 have v:=u1 (u1 (aE.mono (S':=[g]) i aq) U im) X im
 have Y:RC w0 m A cp full V g { C with l:=[],sh:=true }:=⟨hsrc,hU.trans' v (fun x hx=>.inr (by simp at hx;subst hx;exact hnew)),hnew,⟨full.length,W,Nat.le_refl _,List.drop_length.symm⟩,hlen⟩
 refine L0<|Oc<|m2 (aV false 2 Y) fun aa Z a0=>ng<|Pl 1<|nt<|rt<|tr<|rr (.slice none 0 0)<|?_
 have hf:C.fails n=true:=by rw[i4 (n:=n) hk hl,j,f,o];rfl
 have e1:C.bytesR n=[]:=by unfold ah.bytesR;rw[hf];rfl
 have e2:C.bytesC n=ah.need { C with l:=[],sh:=true } false 2:=by unfold ah.bytesC;rw[hf];rfl
 exact⟨none,0,0,rfl,fun _ _ _=>by rw[e1];exact aK.nil ..,by rw[e2];exact Z,(u1 v a0 im)⟩
 have T:=of_decide_eq_false o
 refine bq<|sg<|Pl 4<|L0<|aR d 1<|Pl 1<|L0<|Oi (((k:Nat) : Int)+n)<|Pl 2<|L0<|bS d 1 #[.slice A full.length cp,.int .i64 (((k:Nat) : Int)+n),.bool C.sh,.int .i64 C.e] fun ab a1 a2=>nt<|sq<|Rg 16 (fun w'=>w'.cell? ⟨g,0,none⟩=some (.slice A full.length cp)∧w'.cell? ⟨g,1,none⟩=some (.int .i64 (((k:Nat) : Int)+n))) fun ac y=>?_
 have p:=ub y a1
 refine bh ⟨(ag p rfl),(ag p rfl)⟩ fun b=>Rt 0 b<|Rt 1 b<|Rt 2 b<|Rl 3 b (fun _ hs=>hs.1)<|Rt 4 b<|Rt 5 b<|Rt 6 b<|Rl 7 b (fun _ hs=>hs.2)<|Rt 8 b<|Rr 9 b (.int .i64 ((((k:Nat) : Int)+n)-n)) (fun _ _=>cJ (.int .i64 (IntKind.i64.wrap ((((k:Nat) : Int)+n)-n))) (by kernel_rfl) (congrArg (Value.int .i64) (IntWalk.i64_in _ (by omega))))<|Rt 10 b<|Rt 11 b<|Rt 12 b<|?_
 refine Rl 13 b (fun _ hs=>hs.2)<|lh (gx (P:=Tryz.prog) 22 5 1 Tryz.underlying22 rfl rfl A full.length cp (lo:=((((k:Nat) : Int)+n)-n)) (up:=(((k:Nat) : Int)+n)) ((((((k:Nat) : Int)+n)-n)).toNat) (((((k:Nat) : Int)+n)).toNat) (by omega) (by omega) (by omega) (by omega) (by omega)) fun z hrun69 a3=>Rr 14 b (.slice z ((((((k:Nat) : Int)+n)).toNat)-((((((k:Nat) : Int)+n)-n)).toNat)) (cp-((((((k:Nat) : Int)+n)-n)).toNat))) (fun _ _=>eT (kl:=.i64) (kh:=.i64) (lo:=((((k:Nat) : Int)+n)-n)) (hi:=(((k:Nat) : Int)+n)) (A:=A) (n:=full.length) (c:=cp) rfl Tryz.underlying22 (by kernel_rfl) (by kernel_rfl) (by kernel_rfl) (hrun69 _ _ _))<|Rt 15 b<|re<|tn<|rt<|rr (.slice z ((((((k:Nat) : Int)+n)).toNat)-((((((k:Nat) : Int)+n)-n)).toNat)) (cp-((((((k:Nat) : Int)+n)-n)).toNat)))<|?_
 have hf:C.fails n=false:=by rw[i4 (n:=n) hk hl,j,f,o];rfl
 have B:=aI (u1 (aE.mono (S':=[g]) i aq) a2 im) y
 have e2:C.bytesC n = { C with l:=C.l.drop n.toNat }:=by unfold ah.bytesC;rw[hf];rfl
 exact⟨_,_,_,rfl,fun m' w'' h=>by have:=a3 m' _ _ w'' full h;rw[od hk hl hf _ _ (by omega) (by omega)] at this;exact this,by rw[e2];exact⟨hsrc,hU.trans' B (fun x hx=>.inr (by simp at hx;subst hx;exact hnew)),hnew,⟨(((k:Nat) : Int)+n).toNat,(by unfold wx;rw[show((((((k:Nat) : Int)+n).toNat:Nat) : Int))=((k:Nat) : Int)+n by omega];exact p),by omega,sr hl (by omega)⟩,hlen⟩,B⟩
def t2 (w0:World)(m:Md)(A:Option Addr)(cp:Nat)(full:List Int)(g:Nat)(C:ah)(n:Int)(w:World)(e:Ending)(w':World) : Prop:=∃ A2 c2,e = .returned (.slice A2 (C.bytesR n).length c2)∧(∀ m' w'',b7 m' w'' (.slice A full.length cp) full→b7 m' w'' (.slice A2 (C.bytesR n).length c2) (C.bytesR n))∧RC w0 m A cp full w' g (C.bytesC n)∧aE [g] w w'
theorem f6{w0:World}{m:Md}{A:Option Addr}{cp:Nat}{full:List Int}{w:World}{g:Nat}{C:ah}{n:Int}(hn : -1048576≤n∧n≤2097152)(hC:RC w0 m A cp full w g C) : Calls Tryz.prog 153 #[.pointer (some ⟨g,0,none⟩),.int .i64 n] w (t2 w0 m A cp full g C n w):=by
  refine(o9 hn hC).mono ?_
  rintro e w' ⟨A2,n2,c2,rfl,h1,h2,h3⟩
  obtain⟨_,_,hv,_⟩:=aK.shape (h1 m w0 hC.src)
  injection hv with _ e2 _
  subst e2
  exact⟨A2,c2,rfl,h1,h2,h3⟩
theorem tq{full:List Int}{k:Nat}{C:ah}(hk:k≤full.length)(hl:C.l=full.drop k) : ((full.length:Nat) : Int)-((k:Nat) : Int)=((C.l.length:Nat) : Int):=by
  rw[hl,List.length_drop]
  omega
theorem gF{w0:World}{m:Md}{A:Option Addr}{cp:Nat}{full:List Int}{w:World}{g:Nat}{C:ah}(hC:RC w0 m A cp full w g C) :
    Calls Tryz.prog 161 #[.pointer (some ⟨g,0,none⟩)] w (cT (.int .i64 ((C.l.length:Nat) : Int)) w):=by
 obtain⟨hsrc,hU,hnew,⟨k,hB,hk,hl⟩,hlen⟩:=hC
 have hcp:full.length≤1048576:=hlen
 refine en 13 Tryz.func161 rfl<|sg<|Pl 1<|nt<|sq<|Rg 11 (fun w'=>w'.cell? ⟨g,0,none⟩=some (.slice A full.length cp)∧w'.cell? ⟨g,1,none⟩=some (.int .i64 ((k:Nat) : Int))) fun d b=>?_
 have c:=ub b hB
 refine bh ⟨(ag c rfl),(ag c rfl)⟩ fun a=>Rt 0 a<|Rt 1 a<|Rt 2 a<|Rl 3 a (fun _ hs=>hs.1)<|Rt 4 a<|Rt 5 a<|Rt 6 a<|Rt 7 a<|Rl 8 a (fun _ hs=>hs.2)<|Rr 9 a (.int .i64 (((full.length:Nat) : Int)-((k:Nat) : Int))) (fun _ _=>cJ (.int .i64 (IntKind.i64.wrap (((full.length:Nat) : Int)-((k:Nat) : Int)))) (by kernel_rfl) (congrArg (Value.int .i64) (IntWalk.i64_in _ (by omega))))<|Rt 10 a<|re<|tn<|?_
 refine rt<|rr (.int .i64 (((full.length:Nat) : Int)-((k:Nat) : Int)))<|?_
 rw[tq hk hl]
 exact⟨rfl,b⟩
theorem dX{w0:World}{m:Md}{A:Option Addr}{cp:Nat}{full:List Int}{w:World}{g:Nat}{C:ah}(hC:RC w0 m A cp full w g C) :
    Calls Tryz.prog 157 #[.pointer (some ⟨g,0,none⟩)] w (tB w0 m A cp full g C.endC w):=by
 refine en 7 Tryz.func157 rfl<|go<|Pl 2<|L0<|Oc<|m1 (gF hC) fun e a=>?_
 have b:=RC.upd hC a ay (aE.step (RC.u hC) a)
 refine Pl 1<|L0<|Oc<|m2 (aV ((((C.l.length:Nat) : Int)==0)) 3 b) fun f c d=>nl<|rm (.tuple #[])<|?_
 exact⟨rfl,c,(u1 (aE.mono (S':=[g]) a aq) d im)⟩
theorem RC.clen{w0:World}{m:Md}{A:Option Addr}{cp:Nat}{full:List Int}{w:World}{g:Nat}{C:ah}(h:RC w0 m A cp full w g C) : C.l.length≤1048576:=by
  obtain⟨k,_,_,h2⟩:=h.cell
  have:=h.len
  rw[h2,List.length_drop]
  omega
theorem p3{C:ah}(h:((((C.bytesR 1).length:Nat) : Int)==0)=true) : C.byteV=0:=by
  have hz:C.bytesR 1=[]:=List.eq_nil_of_length_eq_zero (by have:=al h;omega)
  unfold ah.byteV
  rw[hz]
  rfl
def nK (w0:World)(m:Md)(A:Option Addr)(cp:Nat)(full:List Int)(g:Nat)(q:IntKind)(M x:Int)(C:ah)(w:World)(e:Ending)(w':World) : Prop:=e = .returned (.int q x)∧RC w0 m A cp full w' g C∧aE [g] w w'∧0≤x∧x<M
theorem dI{w0:World}{m:Md}{A:Option Addr}{cp:Nat}{full:List Int}{w:World}{g:Nat}{C:ah}(hC:RC w0 m A cp full w g C) :
    Calls Tryz.prog 151 #[.pointer (some ⟨g,0,none⟩)] w (nK w0 m A cp full g .u8 256 C.byteV (C.bytesC 1) w):=by
 refine en 12 Tryz.func151 rfl<|sg<|Pl 1<|ng<|Pl 1<|L0<|Oc<|nk (f6 (n:=1) (by omega) hC) fun k l o d b c=>?_
 have q:=Nat.le_trans (ah.bytesR_le C 1) (RC.clen hC)
 refine Pl 1<|nt<|sq<|sg<|Pl 3<|nt<|cb (((((C.bytesR 1).length:Nat) : Int)==0)) (fun a=>?_) (fun a=>?_)
 have e:=al a
 refine sg<|Pl 1<|nt<|rt<|tr<|rr (.int .u8 0)<|?_
 exact⟨by rw[p3 a],b,c,kW (RC.rng hC)⟩
 have e:=ap a
 refine bq<|sg<|Pl 1<|fA (b7.at_ (d _ _ (RC.rd b)) 0 (by omega)) fun f h i j r=>L0<|jO ((C.bytesR 1).length) 0 i (by omega)<|L0<|e8 (p:=⟨f,h+0,none⟩) (v:=.int .u8 ((C.bytesR 1).getD 0 0)) j<|Pl 1<|nt<|rt<|rr (.int .u8 ((C.bytesR 1).getD 0 0))<|?_
 exact⟨rfl,b,c,kW (RC.rng hC)⟩
theorem pp{C:ah}{full:List Int}{k:Nat}{n:Int}(hk:k≤full.length)(hl:C.l=full.drop k)(h:(decide (n<0)||decide (((full.length:Nat) : Int)<n))=true) : C.wordsR n=cH (C.bytesR (-1))∧C.wordsC n=C.bytesC (-1):=by
  have hb:C.wbad n=true:=by
    unfold ah.wbad
    simp only[Bool.or_eq_true,decide_eq_true_eq] at h ⊢
    rw[hl,List.length_drop]
    omega
  have hf:C.fails (-1)=true:=by
    unfold ah.fails
    simp
  constructor
  · unfold ah.wordsR ah.bytesR
    rw[hb,hf]
    rfl
  · unfold ah.wordsC
    rw[hb]
    rfl
theorem qu{C:ah}{full:List Int}{k:Nat}{n:Int}(hk:k≤full.length)(hl:C.l=full.drop k)(h:(decide (n<0)||decide (((full.length:Nat) : Int)<n))=false) : C.wordsR n=cH (C.bytesR (n+n))∧C.wordsC n=C.bytesC (n+n):=by
  simp only[Bool.or_eq_false_iff,decide_eq_false_iff_not] at h
  by_cases hw:((C.l.length:Int)<n)
  · have hb:C.wbad n=true:=by
      unfold ah.wbad
      simp only[Bool.or_eq_true,decide_eq_true_eq]
      omega
    have hf:C.fails (-1)=true:=by
      unfold ah.fails
      simp
    have hf2:C.fails (n+n)=true:=by
      unfold ah.fails
      simp only[Bool.or_eq_true,decide_eq_true_eq]
      omega
    constructor
    · unfold ah.wordsR ah.bytesR
      rw[hb,hf2]
      rfl
    · unfold ah.wordsC
      rw[hb]
      unfold ah.bytesC
      rw[hf2,hf]
      rfl
  · have hb:C.wbad n=false:=by
      unfold ah.wbad
      simp only[Bool.or_eq_false_iff,decide_eq_false_iff_not]
      omega
    constructor
    · unfold ah.wordsR
      rw[hb,show 2*n=n+n by omega]
      rfl
    · unfold ah.wordsC
      rw[hb,show 2*n=n+n by omega]
      rfl
def tj (w0:World)(m:Md)(A:Option Addr)(cp:Nat)(full:List Int)(g:Nat)(C:ah)(n:Int)(w:World)(e:Ending)(w':World) : Prop:=∃ v,e = .returned v∧iU w.heap.size w' v (C.wordsR n)∧RC w0 m A cp full w' g (C.wordsC n)∧aE [g] w w'
theorem fp{w0:World}{m:Md}{A:Option Addr}{cp:Nat}{full:List Int}{w:World}{g:Nat}{C:ah}{n:Int}(hn : -1048576≤n∧n≤1048576)(hC:RC w0 m A cp full w g C) :
    Calls Tryz.prog 158 #[.pointer (some ⟨g,0,none⟩),.int .i64 n] w (tj w0 m A cp full g C n w):=by
 have hC0:=hC
 obtain⟨hsrc,hU,hnew,⟨k,hB,hk,hl⟩,hlen⟩:=hC0
 refine en 25 Tryz.func158 rfl<|sg<|Pl 1<|nt<|sq<|sg<|Pl 3<|cu 8 [7] 15 (((decide (n<0))||(decide (((full.length:Nat) : Int)<n)))) (fun K h=>?_) ?_
 refine bl 7 ((decide (n<0))) (fun a=>?_) (fun a=>?_)
 have l:=of_decide_eq_true a
 exact Pl 8<|ce h true (by rw[a];rfl)
 have l:=of_decide_eq_false a
 exact Pl 4<|L1<|aR hB 0<|Pl 3<|ce h (decide (((full.length:Nat) : Int)<n)) (by rw[a];rfl)
 refine nt<|cb (((decide (n<0))||(decide (((full.length:Nat) : Int)<n)))) (fun b=>?_) (fun b=>?_)
 refine sg<|Pl 1<|?_
 have o:=RC.upd hC (aE.refl [] _) ay (aE.step hC.u (aE.refl [] _))
 refine L0<|Oc<|nk (f6 (n:=-1) (by omega) o) fun E F G p c i=>?_
 have H:=Nat.le_trans (ah.bytesR_le C (-1)) (RC.clen hC)
 refine L0<|Oc<|ea (tJ (p _ _ (RC.rd c)) (by omega)) fun q r I s J L d=>Pl 1<|nt<|rt<|tr<|rr (.slice q ((cH (C.bytesR (-1))).length) r)<|?_
 have hw:=pp hk hl b
 exact⟨_,rfl,by rw[hw.1];exact(be.weaken s i.size),by rw[hw.2];exact(RC.upd c d ay (aE.step (RC.u c) d)),(aI i d)⟩
 have t:=(aJ b).1
 have v:=(aJ b).2
 have M:=of_decide_eq_false t
 have N:=of_decide_eq_false v
 refine bq<|sg<|Pl 3<|L0<|Oi (n+n)<|?_
 have x:=RC.upd hC (aE.refl [] _) ay (aE.step hC.u (aE.refl [] _))
 refine L0<|Oc<|nk (f6 (n:=(n+n)) (by omega) x) fun O P Q y e j=>?_
 have R:=Nat.le_trans (ah.bytesR_le C (n+n)) (RC.clen hC)
 refine L0<|Oc<|ea (tJ (y _ _ (RC.rd e)) (by omega)) fun z B S D T U f=>Pl 1<|nt<|rt<|rr (.slice z ((cH (C.bytesR (n+n))).length) B)<|?_
 have hw:=qu hk hl b
 exact⟨_,rfl,by rw[hw.1];exact(be.weaken D j.size),by rw[hw.2];exact(RC.upd e f ay (aE.step (RC.u e) f)),(aI j f)⟩
theorem oU{C:ah}(h:((((C.wordsR 1).length:Nat) : Int)==0)=true) : C.wordV=0:=by
  have hz:C.wordsR 1=[]:=List.eq_nil_of_length_eq_zero (by have:=al h;omega)
  unfold ah.wordV
  rw[hz]
  rfl
theorem cM{w0:World}{m:Md}{A:Option Addr}{cp:Nat}{full:List Int}{w:World}{g:Nat}{C:ah}(hC:RC w0 m A cp full w g C) :
    Calls Tryz.prog 154 #[.pointer (some ⟨g,0,none⟩)] w (nK w0 m A cp full g .u16 65536 C.wordV (C.wordsC 1) w):=by
 refine en 12 Tryz.func154 rfl<|sg<|Pl 1<|ng<|Pl 1<|L0<|Oc<|lz (fp (n:=1) (by omega) hC) fun k l o d q r b c=>Pl 1<|nt<|sq<|?_
 refine sg<|Pl 3<|nt<|cb (((((C.wordsR 1).length:Nat) : Int)==0)) (fun a=>?_) (fun a=>?_)
 have e:=al a
 refine sg<|Pl 1<|nt<|rt<|tr<|rr (.int .u16 0)<|?_
 exact⟨by rw[oU a],b,c,bQ (RC.rng hC)⟩
 have e:=ap a
 refine bq<|sg<|Pl 1<|fA (dN.at_ (d).rd 0 (by omega)) fun f h i j s=>L0<|jO ((C.wordsR 1).length) 0 i (by omega)<|L0<|e8 (p:=⟨f,h+0,none⟩) (v:=.int .u16 ((C.wordsR 1).getD 0 0)) j<|Pl 1<|nt<|rt<|rr (.int .u16 ((C.wordsR 1).getD 0 0))<|?_
 exact⟨rfl,b,c,bQ (RC.rng hC)⟩
theorem fd{w0:World}{m:Md}{A:Option Addr}{cp:Nat}{full:List Int}{w:World}{g:Nat}{C:ah}{G:Prop}(h:RC w0 m A cp full w g C)(k:∀ x,C=x→RC w0 m A cp full w g x→G) : G:=k C rfl h
open Go.RowKit
theorem pQ{x:Int}(hx:0≤x∧x<65536) : dZ x=((decide (x≤4)||(decide (10≤x)&&decide (x≤18)))||x==20):=by
  unfold dZ
  rw[Bool.eq_iff_iff]
  simp only[decide_eq_true_eq,List.mem_cons,List.not_mem_nil,or_false,Bool.or_eq_true,Bool.and_eq_true,beq_iff_eq]
  omega
theorem ka{x:Int}(hx:0≤x∧x<256) : d9 x=((((decide (1≤x)&&decide (x≤6))||x==8)||x==10)||x==11):=by
  unfold d9
  rw[Bool.eq_iff_iff]
  simp only[decide_eq_true_eq,List.mem_cons,List.not_mem_nil,or_false,Bool.or_eq_true,Bool.and_eq_true,beq_iff_eq]
  omega
theorem v6{x:Int}{w:World}(hx:0≤x∧x<65536) : Calls Tryz.prog 160 #[.int .u16 x] w (cT (.bool (dZ x)) w):=by
 refine en 17 Tryz.func160 rfl<|sg<|Pl 1<|ng<|Pl 3<|cu 7 [5] 12 (((decide (x≤4))||((decide (10≤x))&&(decide (x≤18))))) (fun K d=>?_) ?_
 refine bl 5 ((decide (x≤4))) (fun a=>?_) (fun a=>?_)
 have g:=of_decide_eq_true a
 exact Pl 7<|ce d true (by rw[a];rfl)
 have g:=of_decide_eq_false a
 refine Pl 3<|cu 3 [8] 11 (((decide (10≤x))&&(decide (x≤18)))) (fun K e=>?_) ?_
 refine bl 8 ((decide (10≤x))) (fun b=>?_) (fun b=>?_)
 have h:=of_decide_eq_true b
 exact Pl 3<|ce e (decide (x≤18)) (by rw[b];rfl)
 have h:=of_decide_eq_false b
 exact Pl 3<|ce e false (by rw[b];rfl)
 exact Pl 1<|ce d ((decide (10≤x))&&(decide (x≤18))) (by rw[a];rfl)
 refine Pl 1<|cu 3 [13] 16 ((((decide (x≤4))||((decide (10≤x))&&(decide (x≤18))))||(x==20))) (fun K f=>?_) ?_
 refine bl 13 (((decide (x≤4))||((decide (10≤x))&&(decide (x≤18))))) (fun c=>?_) (fun c=>?_)
 exact Pl 3<|ce f true (by rw[c];rfl)
 have i:=(aJ c).1
 have j:=(aJ c).2
 have k:=of_decide_eq_false i
 exact Pl 3<|ce f (x==20) (by rw[c];rfl)
 refine Pl 1<|nt<|rt<|rr (.bool (((decide (x≤4))||((decide (10≤x))&&(decide (x≤18))))||(x==20)))<|?_
 rw[pQ hx]
 have hs:((decide (x≤4)||(decide (10≤x)&&decide (x≤18)))||x==20)=(((decide (x≤4))||((decide (10≤x))&&(decide (x≤18))))||(x==20)):=by(try simp only[Bool.true_or,Bool.false_or,Bool.true_and,Bool.false_and,Bool.or_true,Bool.or_false]);all_goals rfl
 rw[hs]
 exact⟨rfl,(aE.refl [] _)⟩
theorem qV{x:Int}{w:World}(hx:0≤x∧x<256) : Calls Tryz.prog 149 #[.int .u8 x] w (cT (.bool (d9 x)) w):=by
 refine en 21 Tryz.func149 rfl<|sg<|Pl 1<|ng<|Pl 3<|cu 3 [5] 8 (((decide (1≤x))&&(decide (x≤6)))) (fun K e=>?_) ?_
 refine bl 5 ((decide (1≤x))) (fun a=>?_) (fun a=>?_)
 have j:=of_decide_eq_true a
 exact Pl 3<|ce e (decide (x≤6)) (by rw[a];rfl)
 have j:=of_decide_eq_false a
 exact Pl 3<|ce e false (by rw[a];rfl)
 refine Pl 1<|cu 3 [9] 12 ((((decide (1≤x))&&(decide (x≤6)))||(x==8))) (fun K f=>?_) ?_
 refine bl 9 (((decide (1≤x))&&(decide (x≤6)))) (fun b=>?_) (fun b=>?_)
 have k:=(aS b).1
 have l:=(aS b).2
 have p:=of_decide_eq_true k
 have q:=of_decide_eq_true l
 exact Pl 3<|ce f true (by rw[b];rfl)
 exact Pl 3<|ce f (x==8) (by rw[b];rfl)
 refine Pl 1<|cu 3 [13] 16 (((((decide (1≤x))&&(decide (x≤6)))||(x==8))||(x==10))) (fun K g=>?_) ?_
 refine bl 13 ((((decide (1≤x))&&(decide (x≤6)))||(x==8))) (fun c=>?_) (fun c=>?_)
 exact Pl 3<|ce g true (by rw[c];rfl)
 have r:=(aJ c).1
 have m:=(aJ c).2
 have s:=ap m
 exact Pl 3<|ce g (x==10) (by rw[c];rfl)
 refine Pl 1<|cu 3 [17] 20 ((((((decide (1≤x))&&(decide (x≤6)))||(x==8))||(x==10))||(x==11))) (fun K h=>?_) ?_
 refine bl 17 (((((decide (1≤x))&&(decide (x≤6)))||(x==8))||(x==10))) (fun d=>?_) (fun d=>?_)
 exact Pl 3<|ce h true (by rw[d];rfl)
 have i:=(aJ d).1
 have n:=(aJ d).2
 have t:=(aJ i).1
 have o:=(aJ i).2
 have q16abp:=ap o
 have u:=ap n
 exact Pl 3<|ce h (x==11) (by rw[d];rfl)
 refine Pl 1<|nt<|rt<|rr (.bool (((((decide (1≤x))&&(decide (x≤6)))||(x==8))||(x==10))||(x==11)))<|?_
 rw[ka hx]
 have hs:((((decide (1≤x)&&decide (x≤6))||x==8)||x==10)||x==11)=(((((decide (1≤x))&&(decide (x≤6)))||(x==8))||(x==10))||(x==11)):=by(try simp only[Bool.true_or,Bool.false_or,Bool.true_and,Bool.false_and,Bool.or_true,Bool.or_false]);all_goals rfl
 rw[hs]
 exact⟨rfl,(aE.refl [] _)⟩
theorem gA{dir sub v:Int}:eL dir sub v=if sub==1 then (v==0 || v==65280) else if sub==3 then v%256==0 else if dir==1&&(sub==2 || (decide (11≤sub)&&decide (sub≤18))) then true else v==0:=by
  unfold eL
  by_cases h1:sub=1
  · subst h1
    rfl
  by_cases h3:sub=3
  · subst h3
    rfl
  have e1:(sub==1)=false:=by simpa using h1
  have e3:(sub==3)=false:=by simpa using h3
  rw[e1,e3,Bool.and_comm]
  rfl
theorem vv{dir sub v:Int}{w:World}(hv:0≤v∧v<65536) : Calls Tryz.prog 162 #[.int .i64 dir,.int .u16 sub,.int .u16 v] w (cT (.bool (eL dir sub v)) w):=by
 refine en 39 Tryz.func162 rfl<|sg<|Pl 1<|nt<|sq<|bk<|sg<|Pl 3<|nt<|cb ((sub==1)) (fun a=>?_) (fun a=>?_)
 have m:=al a
 refine sg<|Pl 3<|cu 3 [12] 15 (((v==0)||(v==65280))) (fun K h=>?_) ?_
 refine bl 12 ((v==0)) (fun c=>?_) (fun c=>?_)
 have n:=al c
 exact Pl 3<|ce h true (by rw[c];rfl)
 have n:=ap c
 exact Pl 3<|ce h (v==65280) (by rw[c];rfl)
 refine Pl 1<|nt<|rt<|br<|tr<|rr (.bool ((v==0)||(v==65280)))<|?_
 have hs:eL dir sub v=((v==0)||(v==65280)):=by
   rw[gA]
   (try simp only[a,bs,if_true,if_false,decide_true,decide_false,reduceIte])
   all_goals rfl
 rw[hs]
 exact⟨rfl,(aE.refl [] _)⟩
 have m:=ap a
 refine sg<|Pl 3<|nt<|cb ((sub==3)) (fun b=>?_) (fun b=>?_)
 have o:=al b
 refine sg<|Pl 1<|L0<|Oe (.int .u16 (Int.tmod v 256)) (.int .u16 (v%256)) (congrArg (Value.int .u16) (Int.tmod_eq_emod_of_nonneg (by omega)))<|Pl 2<|nt<|rt<|br<|tr<|rr (.bool ((v%256)==0))<|?_
 have hs:eL dir sub v=((v%256)==0):=by
   rw[gA]
   (try simp only[a,b,bs,if_true,if_false,decide_true,decide_false,reduceIte])
   all_goals rfl
 rw[hs]
 exact⟨rfl,(aE.refl [] _)⟩
 have o:=ap b
 refine sg<|Pl 3<|cu 11 [25] 36 (((dir==1)&&((sub==2)||((decide (11≤sub))&&(decide (sub≤18)))))) (fun K i=>?_) ?_
 refine bl 25 ((dir==1)) (fun d=>?_) (fun d=>?_)
 have p:=al d
 refine Pl 3<|cu 7 [28] 35 (((sub==2)||((decide (11≤sub))&&(decide (sub≤18))))) (fun K j=>?_) ?_
 refine bl 28 ((sub==2)) (fun e=>?_) (fun e=>?_)
 have q:=al e
 exact Pl 7<|ce j true (by rw[e];rfl)
 have q:=ap e
 refine Pl 3<|cu 3 [31] 34 (((decide (11≤sub))&&(decide (sub≤18)))) (fun K k=>?_) ?_
 refine bl 31 ((decide (11≤sub))) (fun f=>?_) (fun f=>?_)
 have r:=of_decide_eq_true f
 exact Pl 3<|ce k (decide (sub≤18)) (by rw[f];rfl)
 have r:=of_decide_eq_false f
 exact Pl 3<|ce k false (by rw[f];rfl)
 exact Pl 1<|ce j ((decide (11≤sub))&&(decide (sub≤18))) (by rw[e];rfl)
 exact Pl 1<|ce i ((sub==2)||((decide (11≤sub))&&(decide (sub≤18)))) (by rw[d];rfl)
 have p:=ap d
 exact Pl 11<|ce i false (by rw[d];rfl)
 refine Pl 1<|nt<|cb (((dir==1)&&((sub==2)||((decide (11≤sub))&&(decide (sub≤18)))))) (fun g=>?_) (fun g=>?_)
 have l:=(aS g).1
 have s:=(aS g).2
 have t:=al l
 refine sg<|Pl 1<|nt<|rt<|br<|tr<|rr (.bool true)<|?_
 have hs:eL dir sub v=true:=by
   rw[gA]
   (try simp only[a,b,g,l,s,bs,if_true,if_false,decide_true,decide_false,reduceIte])
   all_goals rfl
 rw[hs]
 exact⟨rfl,(aE.refl [] _)⟩
 refine sk<|bn<|tn<|sg<|Pl 3<|nt<|rt<|rr (.bool (v==0))<|?_
 have hs:eL dir sub v=(v==0):=by
   rw[gA]
   (try simp only[a,b,g,bs,if_true,if_false,decide_true,decide_false,reduceIte])
   all_goals rfl
 rw[hs]
 exact⟨rfl,(aE.refl [] _)⟩
open Go.RowKit
theorem RC.lt{w0:World}{m:Md}{A:Option Addr}{cp:Nat}{full:List Int}{w:World}{g:Nat}{C:ah}(h:RC w0 m A cp full w g C) : g<w.heap.size:=by
  obtain⟨k,h1,_⟩:=h.cell
  exact ak h1
theorem RC.fld{w0:World}{m:Md}{A:Option Addr}{cp:Nat}{full:List Int}{w:World}{g:Nat}{C:ah}(h:RC w0 m A cp full w g C) : w.cell? ⟨g,3,none⟩=some (.int .i64 C.e):=by
  obtain⟨k,h1,_⟩:=h.cell
  rw[bu h1]
  rfl
theorem nh{c:Int}{C:ah}(h:(((c==3)||(c==4))||(c==23))=true) : aH 1 c C=some (bN c C):=by
  unfold aH
  by_cases h1:(c==3 || c==4)=true
  · rw[if_pos h1]
    rfl
  · rw[if_neg h1]
    have h2:c=23:=by
      simp only[Bool.or_eq_true,beq_iff_eq] at h h1
      omega
    subst h2
    rfl
theorem iS{n m:Int}:((n%2==0&&decide (0<n))&&decide (n≤m))=it n m:=by
  unfold it
  rw[Bool.eq_iff_iff]
  simp only[Bool.and_eq_true,decide_eq_true_eq,beq_iff_eq]
  omega
theorem iT{a k:Int}:(a==2*k+2)=(2+2*k==a):=by
  rw[Bool.eq_iff_iff]
  simp only[beq_iff_eq]
  omega
theorem dj{x:Int}:decide (0<x)=decide (1≤x):=by
  rw[Bool.eq_iff_iff]
  simp only[decide_eq_true_eq]
  omega
theorem jF{w0:World}{m:Md}{A:Option Addr}{cp:Nat}{full:List Int}{w:World}{g:Nat}{C:ah}{a most:Int}(ha:0≤a∧a<65536)(hC:RC w0 m A cp full w g C) :
    Calls Tryz.prog 159 #[.pointer (some ⟨g,0,none⟩),.int .u16 a,.int .i64 most] w (nK w0 m A cp full g .i64 65536 C.wordV (bK C a most) w):=by
 have hrng:=bQ (RC.rng hC)
 refine en 26 Tryz.func159 rfl<|sg<|Pl 1<|ng<|Pl 1<|L0<|Oc<|m3 (cM hC) fun r f h s=>L0<|Oi C.wordV<|Pl 1<|nt<|?_
 refine sg<|Pl 4<|cu 4 [14] 18 (((decide (0<C.wordV))&&(decide (C.wordV≤most)))) (fun K d=>?_) ?_
 refine bl 14 ((decide (0<C.wordV))) (fun b=>?_) (fun b=>?_)
 have i:=of_decide_eq_true b
 exact Pl 4<|ce d (decide (C.wordV≤most)) (by rw[b];rfl)
 have i:=of_decide_eq_false b
 exact Pl 4<|ce d false (by rw[b];rfl)
 refine L0<|Oc<|m2 (aV (((decide (0<C.wordV))&&(decide (C.wordV≤most)))) 5 f) fun j k l=>?_
 refine fd k fun x19 o e=>?_
 refine ng<|Pl 3<|L0<|Oc<|m1 (oT (a:=a) (n:=C.wordV) (w:=j) (by omega) (by omega)) fun t c=>?_
 refine L0<|Oc<|m2 (aV ((dh a C.wordV)) 7 (RC.upd e c ay (aE.step (RC.u e) c))) fun v p q=>ng<|Pl 2<|nt<|rt<|rr (.int .i64 C.wordV)<|?_
 subst o
 have e1:bK C a most=((C.wordsC 1).need (decide (0<C.wordV)&&decide (C.wordV≤most)) 5).need (dh a C.wordV) 7:=by unfold bK;rw[← dj]
 rw[e1]
 exact⟨rfl,p,(u1 h (u1 l (uz c q) im) im),hrng⟩
theorem aK.upd0{α:Type}{m:Md}{e:TypeId}{sz:Nat}{R R':World→α→List Value→Prop}{w:World}{v:Value}{xs:List α}(h:aK m e sz R w v xs)(hR:∀ x cs,R w x cs→R' w x cs) : aK m e sz R' w v xs:=by
  obtain⟨A,c,rfl,h1,h2,h0,h3⟩:=h
  refine⟨A,c,rfl,h1,h2,h0,fun hp=>?_⟩
  obtain⟨b,off,cells,t,fr,rfl,hb,ht,hx⟩:=h3 hp
  exact⟨b,off,cells,t,fr,rfl,hb,ht,fun j x hj=>by obtain⟨cs,hl,hr,hc⟩:=hx j x hj;exact⟨cs,hl,hR _ _ hr,hc⟩⟩
def na (v0:Value)(b:List Int)(w:World)(o:Obj)(cs:List Value) : Prop:=∃ A n c,cs=[.int .u8 o.id,.slice A n c]∧(∀ m' w',b7 m' w' v0 b→b7 m' w' (.slice A n c) o.value)∧B8 o.id
theorem na.ones{v0:Value}{b:List Int}{w:World}(x:Obj)(cs:List Value)(h:na v0 b w x cs) : ∀ v,v∈cs→v.oneCell'=true:=by
  obtain⟨A,n,c,rfl,h2,_⟩:=h
  intro u hu
  simp at hu
  rcases hu with rfl|rfl<;>rfl
def d8 (v0:Value)(b:List Int)(w:World)(cs:List Value)(M:aP) : Prop :=
  ∃ vw vb vd vr vo,cs=bP M vw vb vd vr vo∧dN true w vw M.words∧gf true w vb M.bits∧(∀ m' w',b7 m' w' v0 b→b7 m' w' vd M.data)∧kE true w vr M.recs∧aK true 111 2 (na v0 b) w vo M.objects∧eE M
theorem d8.rd{v0:Value}{b:List Int}{m:Md}{w:World}{cs:List Value}{M:aP}(h:d8 v0 b w cs M)(hb:b7 m w v0 b) : aW false w cs M:=by
  obtain⟨vw,vb,vd,vr,vo,h0,h1,h2,h3,h4,h5,h6⟩:=h
  exact⟨vw,vb,vd,vr,vo,h0,aK.any h1 fun _ _ q=>q,aK.any h2 fun _ _ q=>q,aK.any (h3 _ _ hb) fun _ _ q=>q,aK.any h4 fun r cs ⟨v,a,b,c⟩=>⟨v,a,aK.any b fun _ _ q=>q,c⟩,aK.any h5 fun r cs ⟨A,n,k,a,b,c⟩=>⟨_,a,aK.any (b _ _ hb) fun _ _ q=>q,c⟩,h6⟩
theorem d8.sub{v0 v1:Value}{b b1:List Int}{w:World}{cs:List Value}{M:aP}(h:d8 v1 b1 w cs M)(hv:∀ m' w',b7 m' w' v0 b→b7 m' w' v1 b1) : d8 v0 b w cs M:=by
  obtain⟨vw,vb,vd,vr,vo,h0,h1,h2,h3,h4,h5,h6⟩:=h
  exact⟨vw,vb,vd,vr,vo,h0,h1,h2,fun m' w' q=>h3 _ _ (hv _ _ q),h4,aK.upd0 h5 fun r cs ⟨A,n,k,a,b,c⟩=>⟨A,n,k,a,fun m' w' q=>b _ _ (hv _ _ q),c⟩,h6⟩
theorem d8.upd{v0:Value}{b:List Int}{w w':World}{cs:List Value}{M:aP}{S:List Nat}(h:d8 v0 b w cs M)(hu:aE S w w')(hs:cW true kG S w) : d8 v0 b w' cs M:=by
  obtain⟨vw,vb,vd,vr,vo,h0,h1,h2,h3,h4,h5,h6⟩:=h
  exact⟨vw,vb,vd,vr,vo,h0,dN.upd' h1 hu (hs.sub (by decide)),gf.upd' h2 hu (hs.sub (by decide)),h3,kE.upd' h4 hu hs,aK.upd h5 hu (hs.sub (by decide)) (fun _ _ q=>q),h6⟩
theorem d8.zero(v0:Value)(b:List Int)(w:World) : d8 v0 b w ku.toList aP.zero:=by
  obtain⟨vw,vb,vd,vr,vo,h0,h1,h2,h3,h4,h5,h6⟩:=aW.zero true w
  exact⟨_,_,_,_,_,rfl,aK.nil ..,aK.nil ..,(fun _ _ _=>aK.nil ..),aK.nil ..,aK.nil ..,h6⟩
theorem d8.size{v0:Value}{b:List Int}{w:World}{cs:Array Value}{M:aP}(h:d8 v0 b w cs.toList M) : cs.size=22:=by
  obtain⟨vw,vb,vd,vr,vo,h0,_⟩:=h
  rw[← Array.length_toList,h0]
  rfl
theorem d8.one{v0:Value}{b:List Int}{w w2:World}{m:Md}{cs:Array Value}{M:aP}(h:d8 v0 b w cs.toList M)(hb:b7 m w2 v0 b) : cs.all (·.oneCell')=true:=by
  obtain⟨vw,vb,vd,vr,vo,h0,h1,h2,h3,h4,h5,h6⟩:=h
  rw[← Array.all_toList,h0]
  obtain⟨_,_,rfl,_⟩:=h1
  obtain⟨_,_,rfl,_⟩:=h2
  obtain⟨_,_,rfl,_⟩:=h3 _ _ hb
  obtain⟨_,_,rfl,_⟩:=h4
  obtain⟨_,_,rfl,_⟩:=h5
  rfl
def dc (v0:Value)(b:List Int)(res:aP × Int)(w:World)(e:Ending)(w':World) : Prop:=∃ cs,e = .returned (.tuple #[.agg cs,.int .i64 res.2])∧d8 v0 b w' cs.toList res.1∧aE [] w w'
theorem bj{v0:Value}{b:List Int}{M:aP}{c:ah}{w W:World}{cs:Array Value}(h0:c.endC.e=0)(h:d8 v0 b W cs.toList M)(hu:aE [] w W) : dc v0 b (aF M c) w (.returned (.tuple #[.agg cs,.int .i64 0])) W:=by
  unfold aF
  rw[if_pos h0]
  exact⟨cs,rfl,h,hu⟩
theorem bg{v0:Value}{b:List Int}{M:aP}{c:ah}{w W:World}(h0:¬ c.endC.e=0)(hu:aE [] w W) : dc v0 b (aF M c) w (.returned (.tuple #[.agg ku,.int .i64 c.endC.e])) W:=by
  unfold aF
  rw[if_neg h0]
  exact⟨ku,rfl,d8.zero ..,hu⟩
theorem bt{v0:Value}{b:List Int}{x:Int}{w W:World}(hu:aE [] w W) : dc v0 b (aP.zero,x) w (.returned (.tuple #[.agg ku,.int .i64 x])) W:=⟨ku,rfl,d8.zero ..,hu⟩
theorem jS{m:Md}{A:Option Addr}{cp:Nat}{b:List Int}{w:World}{c:Int}(hcode:B8 c)(hsl:b7 m w (.slice A b.length cp) b)(hb:b.length≤1048576) :
    Calls Tryz.prog 94 #[.int .i64 0,.int .u8 c,.slice A b.length cp] w (dc (.slice A b.length cp) b (ae aH 0 c b) w):=by
 obtain⟨hcode1,hcode2⟩:=hcode
 have hln:(b.length:Int)≤1048576:=by omega
 refine en 221 Tryz.func94 rfl<|sg<|L0<|bI mZ fun eH eI t k f=>Pl 1<|nt<|sq<|sg<|Pl 6<|nt<|c0<|?_
 refine bq<|sg<|Pl 2<|L0<|dx #[.slice A b.length cp,.int .i64 0,.bool false,.int .i64 0] fun l eJ d o i=>Pl 1<|ng<|Pl 2<|L0<|bI mZ fun eK eL g a8 H=>L0<|b6 a8 (mC c) fun a6 a7 y=>?_
 refine nt<|sq<|bk<|sg<|Pl 15<|nt<|c0<|sg<|Pl 3<|cu 3 [68] 71 (((c==3)||(c==4))) (fun K bQ=>?_) ?_
 refine bl 68 ((c==3)) (fun a9=>?_) (fun a9=>?_)
 have dq:=al a9
 exact Pl 3<|ce bQ true (by rw[a9];rfl)
 have dq:=ap a9
 exact Pl 3<|ce bQ (c==4) (by rw[a9];rfl)
 refine Pl 1<|nt<|?_
 have a0:=ud H y g
 have r:=aI i a0
 have z:=aI f r
 refine cb (((c==3)||(c==4))) (fun q=>?_) (fun q=>?_)
 refine sg<|Pl 1<|?_
 have dr:RC w _ A cp b a6 l (ah.mk b false 0):=⟨hsl,z,(Nat.le_trans f.size d),⟨0,(ub a0 o),Nat.zero_le _,rfl⟩,by omega⟩
 refine L0<|Oc<|m3 (cM dr) fun eM ds bR eN=>Pl 1<|?_
 have ab:=nb (ak o) lr g
 refine L0<|bS (aT bR (Ne.symm ab) a7) 2 (mG c 0 ((ah.mk b false 0).wordV) 0 0 0 0 0 0 0 0 0 nS nS nS nS 0 0 0 0 0 nS) fun eO bT bU=>nt<|go<|Pl 2<|L0<|aR bT 2<|?_
 have b3:=us bR bU
 have bV:=ut z b3 (ac (ni f.size d) (ac (ni (le f.size i.size) g) aq))
 refine L0<|Oc<|m3 (jF (a:=(ah.mk b false 0).wordV) (most:=125) (by omega) (RC.upd ds bU (aa ab ay) bV)) fun eP dt bW eQ=>?_
 refine fd dt fun x52 c2 du=>?_
 refine L0<|uw (((ah.mk b false 0).wordsC 1).wordV)<|Pl 1<|?_
 refine L0<|bS (aT bW (Ne.symm ab) bT) 3 (mG c 0 ((ah.mk b false 0).wordV) (((ah.mk b false 0).wordsC 1).wordV) 0 0 0 0 0 0 0 0 nS nS nS nS 0 0 0 0 0 nS) fun eR dv c3=>nl<|bn<|tn<|sg<|Pl 1<|?_
 have b4:=us bW c3
 have c4:=ut bV b4 (ac (ni f.size d) (ac (ni (le f.size i.size) g) aq))
 refine L0<|Oc<|m2 (dX (RC.upd du c3 (aa ab ay) c4)) fun eS b5 aN=>nt<|sq<|sg<|Pl 3<|L0<|e8 (p:=⟨l,3,none⟩) (v:=.int .i64 x52.endC.e) (RC.fld b5)<|Pl 1<|nt<|?_
 have c5:=ud c4 aN (le f.size d)
 refine cb ((x52.endC.e != 0)) (fun ad=>?_) (fun ad=>?_)
 have b9:=au ad
 refine sq<|Rg 7 (fun w'=>w'.cell? ⟨l,3,none⟩=some (.int .i64 x52.endC.e)) fun eT aO=>?_
 have c6:=RC.upd b5 aO ay (aE.step (RC.u b5) aO)
 refine bh (RC.fld c6) fun af=>Rt 0 af<|Rt 1 af<|Rt 2 af<|Rt 3 af<|Rl 4 af (fun _ hs=>hs)<|?_
 refine R0 5 rfl<|b6 (ub (ut r (ut b3 (u1 b4 (aI aN aO) im) (ac im (ac im aq))) (ac (nr d) (ac (ni i.size g) aq))) k) mZ fun eU dw c7=>?_
 have c8:=ud c5 (uz aO c7) t
 refine bh (RC.fld (RC.upd c6 c7 (aa (Ne.symm (nb (ak k) lr d)) ay) c8)) fun dy=>Rt 6 dy<|re<|tn<|rt<|tr<|bF dw (.int .i64 x52.endC.e)<|?_
 have hs:ae aH 0 c b=aF (aP.mk c 0 ((ah.mk b false 0).wordV) (((ah.mk b false 0).wordsC 1).wordV) 0 0 0 0 0 0 0 0 [] [] [] [] 0 0 0 0 0 []) x52:=by
   subst c2
   unfold ae aH bJ bN cS cA ck cz cy gJ
   (try simp only[q,ad,bs,if_true,if_false,decide_true,decide_false,eq_self,true_or,or_true,or_false,false_or,if_true,if_false,bZ,bX,cc,bY,reduceIte,iS,iT])
   all_goals rfl
 rw[hs]
 exact bg b9 c8
 have b9:=ai ad
 refine bq<|sg<|?_
 refine L0<|ch (aT aN (Ne.symm ab) dv)<|?_
 refine L0<|b6 (ub (ut r (ut b3 (u1 b4 aN im) (ac im (ac im aq))) (ac (nr d) (ac (ni i.size g) aq))) k) (mG c 0 ((ah.mk b false 0).wordV) (((ah.mk b false 0).wordsC 1).wordV) 0 0 0 0 0 0 0 0 nS nS nS nS 0 0 0 0 0 nS) fun eV dz dA=>Pl 1<|nt<|rt<|bF dz (.int .i64 0)<|?_
 have hs:ae aH 0 c b=aF (aP.mk c 0 ((ah.mk b false 0).wordV) (((ah.mk b false 0).wordsC 1).wordV) 0 0 0 0 0 0 0 0 [] [] [] [] 0 0 0 0 0 []) x52:=by
   subst c2
   unfold ae aH bJ bN cS cA ck cz cy gJ
   (try simp only[q,ad,bs,if_true,if_false,decide_true,decide_false,eq_self,true_or,or_true,or_false,false_or,if_true,if_false,bZ,bX,cc,bY,reduceIte,iS,iT])
   all_goals rfl
 rw[hs]
 exact bj b9 ⟨_,_,_,_,_,rfl,aK.nil ..,aK.nil ..,(fun _ _ _=>aK.nil ..),aK.nil ..,aK.nil ..,⟨(b8 (x:=c) (by omega)),(b8 (x:=0) (by omega)),(aB (x:=(ah.mk b false 0).wordV) (by omega)),(aB (x:=((ah.mk b false 0).wordsC 1).wordV) (by omega)),(aB (x:=0) (by omega)),(aB (x:=0) (by omega)),(aB (x:=0) (by omega)),(aB (x:=0) (by omega)),(aB (x:=0) (by omega)),(aB (x:=0) (by omega)),(aB (x:=0) (by omega)),(aB (x:=0) (by omega)),(b8 (x:=0) (by omega)),(b8 (x:=0) (by omega)),(b8 (x:=0) (by omega)),(b8 (x:=0) (by omega)),(b8 (x:=0) (by omega))⟩⟩ (ud c5 dA t)
 have B:=(aJ q).1
 have C:=(aJ q).2
 have eW:=ap B
 have eX:=ap C
 refine sg<|Pl 3<|nt<|cb ((c==6)) (fun s=>?_) (fun s=>?_)
 have dB:=al s
 refine sg<|Pl 1<|?_
 have dC:RC w _ A cp b a6 l (ah.mk b false 0):=⟨hsl,z,(Nat.le_trans f.size d),⟨0,(ub a0 o),Nat.zero_le _,rfl⟩,by omega⟩
 refine L0<|Oc<|m3 (cM dC) fun eY dD c9 eZ=>Pl 1<|?_
 have ag:=nb (ak o) lr g
 refine L0<|bS (aT c9 (Ne.symm ag) a7) 2 (mG c 0 ((ah.mk b false 0).wordV) 0 0 0 0 0 0 0 0 0 nS nS nS nS 0 0 0 0 0 nS) fun f0 dE ca=>nt<|go<|Pl 1<|?_
 have ba:=us c9 ca
 have cd:=ut z ba (ac (ni f.size d) (ac (ni (le f.size i.size) g) aq))
 refine L0<|Oc<|m3 (cM (RC.upd dD ca (aa ag ay) cd)) fun f1 dF cg f2=>Pl 1<|?_
 refine L0<|bS (aT cg (Ne.symm ag) dE) 4 (mG c 0 ((ah.mk b false 0).wordV) 0 (((ah.mk b false 0).wordsC 1).wordV) 0 0 0 0 0 0 0 nS nS nS nS 0 0 0 0 0 nS) fun f3 dG ci=>nl<|bn<|tn<|sg<|Pl 1<|?_
 have bb:=us cg ci
 have cj:=ut cd bb (ac (ni f.size d) (ac (ni (le f.size i.size) g) aq))
 refine L0<|Oc<|m2 (dX (RC.upd dF ci (aa ag ay) cj)) fun f4 bc aQ=>nt<|sq<|sg<|Pl 3<|L0<|e8 (p:=⟨l,3,none⟩) (v:=.int .i64 (((((ah.mk b false 0).wordsC 1).wordsC 1).endC).e)) (RC.fld bc)<|Pl 1<|nt<|?_
 have cl:=ud cj aQ (le f.size d)
 refine cb (((((((ah.mk b false 0).wordsC 1).wordsC 1).endC).e)!=0)) (fun aj=>?_) (fun aj=>?_)
 have bd:=au aj
 refine sq<|Rg 7 (fun w'=>w'.cell? ⟨l,3,none⟩=some (.int .i64 (((((ah.mk b false 0).wordsC 1).wordsC 1).endC).e))) fun f5 aS=>?_
 have cm:=RC.upd bc aS ay (aE.step (RC.u bc) aS)
 refine bh (RC.fld cm) fun am=>Rt 0 am<|Rt 1 am<|Rt 2 am<|Rt 3 am<|Rl 4 am (fun _ hs=>hs)<|?_
 refine R0 5 rfl<|b6 (ub (ut r (ut ba (u1 bb (aI aQ aS) im) (ac im (ac im aq))) (ac (nr d) (ac (ni i.size g) aq))) k) mZ fun f6 dH cn=>?_
 have co:=ud cl (uz aS cn) t
 refine bh (RC.fld (RC.upd cm cn (aa (Ne.symm (nb (ak k) lr d)) ay) co)) fun dJ=>Rt 6 dJ<|re<|tn<|rt<|tr<|bF dH (.int .i64 (((((ah.mk b false 0).wordsC 1).wordsC 1).endC).e))<|?_
 have hs:ae aH 0 c b=aF (aP.mk c 0 ((ah.mk b false 0).wordV) 0 (((ah.mk b false 0).wordsC 1).wordV) 0 0 0 0 0 0 0 [] [] [] [] 0 0 0 0 0 []) (((ah.mk b false 0).wordsC 1).wordsC 1):=by
   unfold ae aH bJ bN cS cA ck cz cy gJ
   (try simp only[q,B,C,s,aj,bs,if_true,if_false,decide_true,decide_false,eq_self,true_or,or_true,or_false,false_or,if_true,if_false,bZ,bX,cc,bY,reduceIte,iS,iT])
   all_goals rfl
 rw[hs]
 exact bg bd co
 have bd:=ai aj
 refine bq<|sg<|?_
 refine L0<|ch (aT aQ (Ne.symm ag) dG)<|?_
 refine L0<|b6 (ub (ut r (ut ba (u1 bb aQ im) (ac im (ac im aq))) (ac (nr d) (ac (ni i.size g) aq))) k) (mG c 0 ((ah.mk b false 0).wordV) 0 (((ah.mk b false 0).wordsC 1).wordV) 0 0 0 0 0 0 0 nS nS nS nS 0 0 0 0 0 nS) fun f7 dK dL=>Pl 1<|nt<|rt<|bF dK (.int .i64 0)<|?_
 have hs:ae aH 0 c b=aF (aP.mk c 0 ((ah.mk b false 0).wordV) 0 (((ah.mk b false 0).wordsC 1).wordV) 0 0 0 0 0 0 0 [] [] [] [] 0 0 0 0 0 []) (((ah.mk b false 0).wordsC 1).wordsC 1):=by
   unfold ae aH bJ bN cS cA ck cz cy gJ
   (try simp only[q,B,C,s,aj,bs,if_true,if_false,decide_true,decide_false,eq_self,true_or,or_true,or_false,false_or,if_true,if_false,bZ,bX,cc,bY,reduceIte,iS,iT])
   all_goals rfl
 rw[hs]
 exact bj bd ⟨_,_,_,_,_,rfl,aK.nil ..,aK.nil ..,(fun _ _ _=>aK.nil ..),aK.nil ..,aK.nil ..,⟨(b8 (x:=c) (by omega)),(b8 (x:=0) (by omega)),(aB (x:=(ah.mk b false 0).wordV) (by omega)),(aB (x:=0) (by omega)),(aB (x:=((ah.mk b false 0).wordsC 1).wordV) (by omega)),(aB (x:=0) (by omega)),(aB (x:=0) (by omega)),(aB (x:=0) (by omega)),(aB (x:=0) (by omega)),(aB (x:=0) (by omega)),(aB (x:=0) (by omega)),(aB (x:=0) (by omega)),(b8 (x:=0) (by omega)),(b8 (x:=0) (by omega)),(b8 (x:=0) (by omega)),(b8 (x:=0) (by omega)),(b8 (x:=0) (by omega))⟩⟩ (ud cl dL t)
 have dB:=ap s
 refine sg<|Pl 3<|nt<|cb ((c==16)) (fun D=>?_) (fun D=>?_)
 have dM:=al D
 refine sg<|Pl 1<|?_
 have dN:RC w _ A cp b a6 l (ah.mk b false 0):=⟨hsl,z,(Nat.le_trans f.size d),⟨0,(ub a0 o),Nat.zero_le _,rfl⟩,by omega⟩
 refine L0<|Oc<|m3 (cM dN) fun f8 dO L f9=>Pl 1<|?_
 have I:=nb (ak o) lr g
 refine L0<|bS (aT L (Ne.symm I) a7) 2 (mG c 0 ((ah.mk b false 0).wordV) 0 0 0 0 0 0 0 0 0 nS nS nS nS 0 0 0 0 0 nS) fun fa cq M=>ng<|Pl 2<|L0<|aR cq 2<|?_
 have be:=us L M
 have cr:=ut z be (ac (ni f.size d) (ac (ni (le f.size i.size) g) aq))
 refine L0<|Oc<|m3 (jF (a:=(ah.mk b false 0).wordV) (most:=123) (by omega) (RC.upd dO M (aa I ay) cr)) fun fb dP N fc=>?_
 refine fd dP fun cs ct dQ=>?_
 refine L0<|uw (((ah.mk b false 0).wordsC 1).wordV)<|Pl 1<|?_
 refine L0<|bS (aT N (Ne.symm I) cq) 3 (mG c 0 ((ah.mk b false 0).wordV) (((ah.mk b false 0).wordsC 1).wordV) 0 0 0 0 0 0 0 0 nS nS nS nS 0 0 0 0 0 nS) fun fe dR O=>ng<|Pl 2<|nt<|c1<|sg<|Pl 1<|?_
 have bf:=us N O
 have cv:=ut cr bf (ac (ni f.size d) (ac (ni (le f.size i.size) g) aq))
 refine L0<|Oc<|m3 (dI (RC.upd dQ O (aa I ay) cv)) fun ff dS P fg=>L0<|Oi cs.byteV<|Pl 1<|ng<|Pl 3<|?_
 have cw:=aT P (Ne.symm I) dR
 refine L0<|aR cw 3<|L0<|Oi (((ah.mk b false 0).wordsC 1).wordV)<|L0<|Oi (2*(((ah.mk b false 0).wordsC 1).wordV))<|Pl 1<|L0<|Oc<|m2 (aV ((cs.byteV==(2*(((ah.mk b false 0).wordsC 1).wordV)))) 5 dS) fun fh dT Q=>?_
 refine fd dT fun E cx dU=>?_
 refine nt<|go<|Pl 2<|?_
 have cB:=aT Q (Ne.symm I) cw
 refine L0<|aR cB 3<|L0<|Oi (((ah.mk b false 0).wordsC 1).wordV)<|L0<|Oc<|lz (fp (n:=((ah.mk b false 0).wordsC 1).wordV) (by omega) dU) fun cC cD fi R fj fk dV cE=>Pl 1<|?_
 refine L0<|bS (aT cE (Ne.symm I) cB) 12 (mG c 0 ((ah.mk b false 0).wordV) (((ah.mk b false 0).wordsC 1).wordV) 0 0 0 0 0 0 0 0 (.slice cC ((E.wordsR (((ah.mk b false 0).wordsC 1).wordV)).length) cD) nS nS nS 0 0 0 0 0 nS) fun fl dW aU=>nl<|bn<|tn<|sg<|Pl 1<|?_
 have bi:=ui P (ui Q (us cE aU))
 have cF:=ut cv bi (ac (ni f.size d) (ac (ni (le f.size i.size) g) aq))
 refine L0<|Oc<|m2 (dX (RC.upd dV aU (aa I ay) cF)) fun fm bm an=>nt<|sq<|sg<|Pl 3<|L0<|e8 (p:=⟨l,3,none⟩) (v:=.int .i64 (((E.wordsC (((ah.mk b false 0).wordsC 1).wordV)).endC).e)) (RC.fld bm)<|Pl 1<|nt<|?_
 have cG:=ud cF an (le f.size d)
 refine cb (((((E.wordsC (((ah.mk b false 0).wordsC 1).wordV)).endC).e)!=0)) (fun ao=>?_) (fun ao=>?_)
 have bo:=au ao
 refine sq<|Rg 7 (fun w'=>w'.cell? ⟨l,3,none⟩=some (.int .i64 (((E.wordsC (((ah.mk b false 0).wordsC 1).wordV)).endC).e))) fun fn aW=>?_
 have cH:=RC.upd bm aW ay (aE.step (RC.u bm) aW)
 refine bh (RC.fld cH) fun ar=>Rt 0 ar<|Rt 1 ar<|Rt 2 ar<|Rt 3 ar<|Rl 4 ar (fun _ hs=>hs)<|?_
 have cI:=aI an aW
 refine R0 5 rfl<|b6 (ub (ut r (ut be (ut bf (u1 bi cI im) (ac im (ac im aq))) (ac im (ac im aq))) (ac (nr d) (ac (ni i.size g) aq))) k) mZ fun fo dY bp=>?_
 have cJ:=ud cG (uz aW bp) t
 refine bh (RC.fld (RC.upd cH bp (aa (Ne.symm (nb (ak k) lr d)) ay) cJ)) fun dZ=>Rt 6 dZ<|re<|tn<|rt<|tr<|bF dY (.int .i64 (((E.wordsC (((ah.mk b false 0).wordsC 1).wordV)).endC).e))<|?_
 have fq:=ax R (us aU (us cI bp)) (fun x hx=>(aa (fun e=>(aA (ak a8) (le (le (le (le (le (le y.size L.size) M.size) N.size) O.size) P.size) Q.size) R) (e▸hx)) (aa (fun e=>(aA (ak o) (le (le (le (le (le (le (le H.size y.size) L.size) M.size) N.size) O.size) P.size) Q.size) R) (e▸hx)) (aa (fun e=>(aA (ak k) (le (le (le (le (le (le (le (le i.size H.size) y.size) L.size) M.size) N.size) O.size) P.size) Q.size) R) (e▸hx)) ay)))) (fun _ _ h=>h)
 have hs:ae aH 0 c b=aF (aP.mk c 0 ((ah.mk b false 0).wordV) (((ah.mk b false 0).wordsC 1).wordV) 0 0 0 0 0 0 0 0 (E.wordsR (((ah.mk b false 0).wordsC 1).wordV)) [] [] [] 0 0 0 0 0 []) (E.wordsC (((ah.mk b false 0).wordsC 1).wordV)):=by
   subst cx ct
   unfold ae aH bJ bN cS cA ck cz cy gJ
   (try simp only[q,B,C,s,D,ao,bs,if_true,if_false,decide_true,decide_false,eq_self,true_or,or_true,or_false,false_or,if_true,if_false,bZ,bX,cc,bY,reduceIte,iS,iT])
   all_goals rfl
 rw[hs]
 exact bg bo cJ
 have bo:=ai ao
 refine bq<|sg<|?_
 refine L0<|ch (aT an (Ne.symm I) dW)<|?_
 refine L0<|b6 (ub (ut r (ut be (ut bf (u1 bi an im) (ac im (ac im aq))) (ac im (ac im aq))) (ac (nr d) (ac (ni i.size g) aq))) k) (mG c 0 ((ah.mk b false 0).wordV) (((ah.mk b false 0).wordsC 1).wordV) 0 0 0 0 0 0 0 0 (.slice cC ((E.wordsR (((ah.mk b false 0).wordsC 1).wordV)).length) cD) nS nS nS 0 0 0 0 0 nS) fun fr e0 cK=>Pl 1<|nt<|rt<|bF e0 (.int .i64 0)<|?_
 have hs:ae aH 0 c b=aF (aP.mk c 0 ((ah.mk b false 0).wordV) (((ah.mk b false 0).wordsC 1).wordV) 0 0 0 0 0 0 0 0 (E.wordsR (((ah.mk b false 0).wordsC 1).wordV)) [] [] [] 0 0 0 0 0 []) (E.wordsC (((ah.mk b false 0).wordsC 1).wordV)):=by
   subst cx ct
   unfold ae aH bJ bN cS cA ck cz cy gJ
   (try simp only[q,B,C,s,D,ao,bs,if_true,if_false,decide_true,decide_false,eq_self,true_or,or_true,or_false,false_or,if_true,if_false,bZ,bX,cc,bY,reduceIte,iS,iT])
   all_goals rfl
 rw[hs]
 exact bj bo ⟨_,_,_,_,_,rfl,((ax R (us aU (us an cK)) (fun x hx=>(aa (fun e=>(aA (ak a8) (le (le (le (le (le (le y.size L.size) M.size) N.size) O.size) P.size) Q.size) R) (e▸hx)) (aa (fun e=>(aA (ak o) (le (le (le (le (le (le (le H.size y.size) L.size) M.size) N.size) O.size) P.size) Q.size) R) (e▸hx)) (aa (fun e=>(aA (ak k) (le (le (le (le (le (le (le (le i.size H.size) y.size) L.size) M.size) N.size) O.size) P.size) Q.size) R) (e▸hx)) ay)))) (fun _ _ h=>h))).rd,aK.nil ..,(fun _ _ _=>aK.nil ..),aK.nil ..,aK.nil ..,⟨(b8 (x:=c) (by omega)),(b8 (x:=0) (by omega)),(aB (x:=(ah.mk b false 0).wordV) (by omega)),(aB (x:=((ah.mk b false 0).wordsC 1).wordV) (by omega)),(aB (x:=0) (by omega)),(aB (x:=0) (by omega)),(aB (x:=0) (by omega)),(aB (x:=0) (by omega)),(aB (x:=0) (by omega)),(aB (x:=0) (by omega)),(aB (x:=0) (by omega)),(aB (x:=0) (by omega)),(b8 (x:=0) (by omega)),(b8 (x:=0) (by omega)),(b8 (x:=0) (by omega)),(b8 (x:=0) (by omega)),(b8 (x:=0) (by omega))⟩⟩ (ud cG cK t)
 have dM:=ap D
 refine sg<|Pl 3<|nt<|cb ((c==22)) (fun F=>?_) (fun F=>?_)
 have e1:=al F
 refine sg<|Pl 1<|?_
 have e2:RC w _ A cp b a6 l (ah.mk b false 0):=⟨hsl,z,(Nat.le_trans f.size d),⟨0,(ub a0 o),Nat.zero_le _,rfl⟩,by omega⟩
 refine L0<|Oc<|m3 (cM e2) fun fs e3 cL ft=>Pl 1<|?_
 have a1:=nb (ak o) lr g
 refine L0<|bS (aT cL (Ne.symm a1) a7) 2 (mG c 0 ((ah.mk b false 0).wordV) 0 0 0 0 0 0 0 0 0 nS nS nS nS 0 0 0 0 0 nS) fun fu e4 cN=>ng<|Pl 1<|?_
 have bu:=us cL cN
 have cO:=ut z bu (ac (ni f.size d) (ac (ni (le f.size i.size) g) aq))
 refine L0<|Oc<|m3 (cM (RC.upd e3 cN (aa a1 ay) cO)) fun fv e5 cP fw=>Pl 1<|?_
 refine L0<|bS (aT cP (Ne.symm a1) e4) 5 (mG c 0 ((ah.mk b false 0).wordV) 0 0 (((ah.mk b false 0).wordsC 1).wordV) 0 0 0 0 0 0 nS nS nS nS 0 0 0 0 0 nS) fun fx e6 cQ=>nt<|go<|Pl 1<|?_
 have bv:=us cP cQ
 have cR:=ut cO bv (ac (ni f.size d) (ac (ni (le f.size i.size) g) aq))
 refine L0<|Oc<|m3 (cM (RC.upd e5 cQ (aa a1 ay) cR)) fun fy e7 cT fz=>Pl 1<|?_
 refine L0<|bS (aT cT (Ne.symm a1) e6) 6 (mG c 0 ((ah.mk b false 0).wordV) 0 0 (((ah.mk b false 0).wordsC 1).wordV) ((((ah.mk b false 0).wordsC 1).wordsC 1).wordV) 0 0 0 0 0 nS nS nS nS 0 0 0 0 0 nS) fun fA e9 cU=>nl<|bn<|tn<|sg<|Pl 1<|?_
 have bw:=us cT cU
 have cV:=ut cR bw (ac (ni f.size d) (ac (ni (le f.size i.size) g) aq))
 refine L0<|Oc<|m2 (dX (RC.upd e7 cU (aa a1 ay) cV)) fun fB bx aX=>nt<|sq<|sg<|Pl 3<|L0<|e8 (p:=⟨l,3,none⟩) (v:=.int .i64 ((((((ah.mk b false 0).wordsC 1).wordsC 1).wordsC 1).endC).e)) (RC.fld bx)<|Pl 1<|nt<|?_
 have cW:=ud cV aX (le f.size d)
 refine cb ((((((((ah.mk b false 0).wordsC 1).wordsC 1).wordsC 1).endC).e)!=0)) (fun av=>?_) (fun av=>?_)
 have bz:=au av
 refine sq<|Rg 7 (fun w'=>w'.cell? ⟨l,3,none⟩=some (.int .i64 ((((((ah.mk b false 0).wordsC 1).wordsC 1).wordsC 1).endC).e))) fun fC aY=>?_
 have cX:=RC.upd bx aY ay (aE.step (RC.u bx) aY)
 refine bh (RC.fld cX) fun aw=>Rt 0 aw<|Rt 1 aw<|Rt 2 aw<|Rt 3 aw<|Rl 4 aw (fun _ hs=>hs)<|?_
 refine R0 5 rfl<|b6 (ub (ut r (ut bu (ut bv (u1 bw (aI aX aY) im) (ac im (ac im aq))) (ac im (ac im aq))) (ac (nr d) (ac (ni i.size g) aq))) k) mZ fun fD ea cY=>?_
 have cZ:=ud cW (uz aY cY) t
 refine bh (RC.fld (RC.upd cX cY (aa (Ne.symm (nb (ak k) lr d)) ay) cZ)) fun eb=>Rt 6 eb<|re<|tn<|rt<|tr<|bF ea (.int .i64 ((((((ah.mk b false 0).wordsC 1).wordsC 1).wordsC 1).endC).e))<|?_
 have hs:ae aH 0 c b=aF (aP.mk c 0 ((ah.mk b false 0).wordV) 0 0 (((ah.mk b false 0).wordsC 1).wordV) ((((ah.mk b false 0).wordsC 1).wordsC 1).wordV) 0 0 0 0 0 [] [] [] [] 0 0 0 0 0 []) ((((ah.mk b false 0).wordsC 1).wordsC 1).wordsC 1):=by
   unfold ae aH bJ bN cS cA ck cz cy gJ
   (try simp only[q,B,C,s,D,F,av,bs,if_true,if_false,decide_true,decide_false,eq_self,true_or,or_true,or_false,false_or,if_true,if_false,bZ,bX,cc,bY,reduceIte,iS,iT])
   all_goals rfl
 rw[hs]
 exact bg bz cZ
 have bz:=ai av
 refine bq<|sg<|?_
 refine L0<|ch (aT aX (Ne.symm a1) e9)<|?_
 refine L0<|b6 (ub (ut r (ut bu (ut bv (u1 bw aX im) (ac im (ac im aq))) (ac im (ac im aq))) (ac (nr d) (ac (ni i.size g) aq))) k) (mG c 0 ((ah.mk b false 0).wordV) 0 0 (((ah.mk b false 0).wordsC 1).wordV) ((((ah.mk b false 0).wordsC 1).wordsC 1).wordV) 0 0 0 0 0 nS nS nS nS 0 0 0 0 0 nS) fun fE ec ed=>Pl 1<|nt<|rt<|bF ec (.int .i64 0)<|?_
 have hs:ae aH 0 c b=aF (aP.mk c 0 ((ah.mk b false 0).wordV) 0 0 (((ah.mk b false 0).wordsC 1).wordV) ((((ah.mk b false 0).wordsC 1).wordsC 1).wordV) 0 0 0 0 0 [] [] [] [] 0 0 0 0 0 []) ((((ah.mk b false 0).wordsC 1).wordsC 1).wordsC 1):=by
   unfold ae aH bJ bN cS cA ck cz cy gJ
   (try simp only[q,B,C,s,D,F,av,bs,if_true,if_false,decide_true,decide_false,eq_self,true_or,or_true,or_false,false_or,if_true,if_false,bZ,bX,cc,bY,reduceIte,iS,iT])
   all_goals rfl
 rw[hs]
 exact bj bz ⟨_,_,_,_,_,rfl,aK.nil ..,aK.nil ..,(fun _ _ _=>aK.nil ..),aK.nil ..,aK.nil ..,⟨(b8 (x:=c) (by omega)),(b8 (x:=0) (by omega)),(aB (x:=(ah.mk b false 0).wordV) (by omega)),(aB (x:=0) (by omega)),(aB (x:=0) (by omega)),(aB (x:=((ah.mk b false 0).wordsC 1).wordV) (by omega)),(aB (x:=(((ah.mk b false 0).wordsC 1).wordsC 1).wordV) (by omega)),(aB (x:=0) (by omega)),(aB (x:=0) (by omega)),(aB (x:=0) (by omega)),(aB (x:=0) (by omega)),(aB (x:=0) (by omega)),(b8 (x:=0) (by omega)),(b8 (x:=0) (by omega)),(b8 (x:=0) (by omega)),(b8 (x:=0) (by omega)),(b8 (x:=0) (by omega))⟩⟩ (ud cW ed t)
 have e1:=ap F
 refine sg<|Pl 3<|nt<|cb ((c==23)) (fun S=>?_) (fun S=>?_)
 have ee:=al S
 refine sg<|Pl 1<|?_
 have ef:RC w _ A cp b a6 l (ah.mk b false 0):=⟨hsl,z,(Nat.le_trans f.size d),⟨0,(ub a0 o),Nat.zero_le _,rfl⟩,by omega⟩
 refine L0<|Oc<|m3 (cM ef) fun fF eg T fG=>Pl 1<|?_
 have J:=nb (ak o) lr g
 refine L0<|bS (aT T (Ne.symm J) a7) 2 (mG c 0 ((ah.mk b false 0).wordV) 0 0 0 0 0 0 0 0 0 nS nS nS nS 0 0 0 0 0 nS) fun fH d0 U=>ng<|Pl 2<|L0<|aR d0 2<|?_
 have bA:=us T U
 have d1:=ut z bA (ac (ni f.size d) (ac (ni (le f.size i.size) g) aq))
 refine L0<|Oc<|m3 (jF (a:=(ah.mk b false 0).wordV) (most:=125) (by omega) (RC.upd eg U (aa J ay) d1)) fun fI eh V fJ=>?_
 refine fd eh fun j d2 ei=>?_
 refine L0<|uw (((ah.mk b false 0).wordsC 1).wordV)<|Pl 1<|?_
 refine L0<|bS (aT V (Ne.symm J) d0) 3 (mG c 0 ((ah.mk b false 0).wordV) (((ah.mk b false 0).wordsC 1).wordV) 0 0 0 0 0 0 0 0 nS nS nS nS 0 0 0 0 0 nS) fun fK ej W=>ng<|Pl 1<|?_
 have bB:=us V W
 have d3:=ut d1 bB (ac (ni f.size d) (ac (ni (le f.size i.size) g) aq))
 refine L0<|Oc<|m3 (cM (RC.upd ei W (aa J ay) d3)) fun fL ek X fM=>Pl 1<|?_
 refine L0<|bS (aT X (Ne.symm J) ej) 7 (mG c 0 ((ah.mk b false 0).wordV) (((ah.mk b false 0).wordsC 1).wordV) 0 0 0 j.wordV 0 0 0 0 nS nS nS nS 0 0 0 0 0 nS) fun fN d4 Y=>ng<|Pl 2<|L0<|aR d4 7<|?_
 have bC:=us X Y
 have d5:=ut d3 bC (ac (ni f.size d) (ac (ni (le f.size i.size) g) aq))
 refine L0<|Oc<|m3 (jF (a:=j.wordV) (most:=121) (by omega) (RC.upd ek Y (aa J ay) d5)) fun fO el a2 fP=>Pl 1<|ng<|Pl 1<|L0<|Oc<|m3 (dI el) fun fQ em a3 fR=>L0<|Oi ((bK (j.wordsC 1) j.wordV 121).byteV)<|Pl 1<|ng<|?_
 refine Pl 3<|L0<|Oi (2*((j.wordsC 1).wordV))<|Pl 1<|L0<|Oc<|m2 (aV ((((bK (j.wordsC 1) j.wordV 121).byteV)==(2*((j.wordsC 1).wordV)))) 5 em) fun fS eo a4=>?_
 refine fd eo fun G d6 ep=>?_
 refine nt<|go<|Pl 2<|L0<|Oc<|lz (fp (n:=(j.wordsC 1).wordV) (by omega) ep) fun d7 d8 fT Z fU fV eq er=>Pl 1<|?_
 have d9:=u1 a2 (u1 a3 (u1 a4 er im) im) im
 refine L0<|bS (aT d9 (Ne.symm J) d4) 12 (mG c 0 ((ah.mk b false 0).wordV) (((ah.mk b false 0).wordsC 1).wordV) 0 0 0 j.wordV 0 0 0 0 (.slice d7 ((G.wordsR ((j.wordsC 1).wordV)).length) d8) nS nS nS 0 0 0 0 0 nS) fun fW es aZ=>nl<|bn<|tn<|sg<|Pl 1<|?_
 have bD:=us d9 aZ
 have da:=ut d5 bD (ac (ni f.size d) (ac (ni (le f.size i.size) g) aq))
 refine L0<|Oc<|m2 (dX (RC.upd eq aZ (aa J ay) da)) fun fX bE az=>nt<|sq<|sg<|Pl 3<|L0<|e8 (p:=⟨l,3,none⟩) (v:=.int .i64 (((G.wordsC ((j.wordsC 1).wordV)).endC).e)) (RC.fld bE)<|Pl 1<|nt<|?_
 have db:=ud da az (le f.size d)
 refine cb (((((G.wordsC ((j.wordsC 1).wordV)).endC).e)!=0)) (fun aC=>?_) (fun aC=>?_)
 have bG:=au aC
 refine sq<|Rg 7 (fun w'=>w'.cell? ⟨l,3,none⟩=some (.int .i64 (((G.wordsC ((j.wordsC 1).wordV)).endC).e))) fun fY b0=>?_
 have dd:=RC.upd bE b0 ay (aE.step (RC.u bE) b0)
 refine bh (RC.fld dd) fun aD=>Rt 0 aD<|Rt 1 aD<|Rt 2 aD<|Rt 3 aD<|Rl 4 aD (fun _ hs=>hs)<|?_
 have de:=aI az b0
 refine R0 5 rfl<|b6 (ub (ut r (ut bA (ut bB (ut bC (u1 bD de im) (ac im (ac im aq))) (ac im (ac im aq))) (ac im (ac im aq))) (ac (nr d) (ac (ni i.size g) aq))) k) mZ fun fZ et bH=>?_
 have df:=ud db (uz b0 bH) t
 refine bh (RC.fld (RC.upd dd bH (aa (Ne.symm (nb (ak k) lr d)) ay) df)) fun eu=>Rt 6 eu<|re<|tn<|rt<|tr<|bF et (.int .i64 (((G.wordsC ((j.wordsC 1).wordV)).endC).e))<|?_
 have g0:=ax Z (us aZ (us de bH)) (fun x hx=>(aa (fun e=>(aA (ak a8) (le (le (le (le (le (le (le (le (le y.size T.size) U.size) V.size) W.size) X.size) Y.size) a2.size) a3.size) a4.size) Z) (e▸hx)) (aa (fun e=>(aA (ak o) (le (le (le (le (le (le (le (le (le (le H.size y.size) T.size) U.size) V.size) W.size) X.size) Y.size) a2.size) a3.size) a4.size) Z) (e▸hx)) (aa (fun e=>(aA (ak k) (le (le (le (le (le (le (le (le (le (le (le i.size H.size) y.size) T.size) U.size) V.size) W.size) X.size) Y.size) a2.size) a3.size) a4.size) Z) (e▸hx)) ay)))) (fun _ _ h=>h)
 have hs:ae aH 0 c b=aF (aP.mk c 0 ((ah.mk b false 0).wordV) (((ah.mk b false 0).wordsC 1).wordV) 0 0 0 j.wordV 0 0 0 0 (G.wordsR ((j.wordsC 1).wordV)) [] [] [] 0 0 0 0 0 []) (G.wordsC ((j.wordsC 1).wordV)):=by
   subst d6 d2
   unfold ae aH bJ bN cS cA ck cz cy gJ
   (try simp only[q,B,C,s,D,F,S,aC,bs,if_true,if_false,decide_true,decide_false,eq_self,true_or,or_true,or_false,false_or,if_true,if_false,bZ,bX,cc,bY,reduceIte,iS,iT])
   all_goals rfl
 rw[hs]
 exact bg bG df
 have bG:=ai aC
 refine bq<|sg<|?_
 refine L0<|ch (aT az (Ne.symm J) es)<|?_
 refine L0<|b6 (ub (ut r (ut bA (ut bB (ut bC (u1 bD az im) (ac im (ac im aq))) (ac im (ac im aq))) (ac im (ac im aq))) (ac (nr d) (ac (ni i.size g) aq))) k) (mG c 0 ((ah.mk b false 0).wordV) (((ah.mk b false 0).wordsC 1).wordV) 0 0 0 j.wordV 0 0 0 0 (.slice d7 ((G.wordsR ((j.wordsC 1).wordV)).length) d8) nS nS nS 0 0 0 0 0 nS) fun g1 ev dg=>Pl 1<|nt<|rt<|bF ev (.int .i64 0)<|?_
 have hs:ae aH 0 c b=aF (aP.mk c 0 ((ah.mk b false 0).wordV) (((ah.mk b false 0).wordsC 1).wordV) 0 0 0 j.wordV 0 0 0 0 (G.wordsR ((j.wordsC 1).wordV)) [] [] [] 0 0 0 0 0 []) (G.wordsC ((j.wordsC 1).wordV)):=by
   subst d6 d2
   unfold ae aH bJ bN cS cA ck cz cy gJ
   (try simp only[q,B,C,s,D,F,S,aC,bs,if_true,if_false,decide_true,decide_false,eq_self,true_or,or_true,or_false,false_or,if_true,if_false,bZ,bX,cc,bY,reduceIte,iS,iT])
   all_goals rfl
 rw[hs]
 exact bj bG ⟨_,_,_,_,_,rfl,((ax Z (us aZ (us az dg)) (fun x hx=>(aa (fun e=>(aA (ak a8) (le (le (le (le (le (le (le (le (le y.size T.size) U.size) V.size) W.size) X.size) Y.size) a2.size) a3.size) a4.size) Z) (e▸hx)) (aa (fun e=>(aA (ak o) (le (le (le (le (le (le (le (le (le (le H.size y.size) T.size) U.size) V.size) W.size) X.size) Y.size) a2.size) a3.size) a4.size) Z) (e▸hx)) (aa (fun e=>(aA (ak k) (le (le (le (le (le (le (le (le (le (le (le i.size H.size) y.size) T.size) U.size) V.size) W.size) X.size) Y.size) a2.size) a3.size) a4.size) Z) (e▸hx)) ay)))) (fun _ _ h=>h))).rd,aK.nil ..,(fun _ _ _=>aK.nil ..),aK.nil ..,aK.nil ..,⟨(b8 (x:=c) (by omega)),(b8 (x:=0) (by omega)),(aB (x:=(ah.mk b false 0).wordV) (by omega)),(aB (x:=((ah.mk b false 0).wordsC 1).wordV) (by omega)),(aB (x:=0) (by omega)),(aB (x:=0) (by omega)),(aB (x:=0) (by omega)),(aB (x:=j.wordV) (by omega)),(aB (x:=0) (by omega)),(aB (x:=0) (by omega)),(aB (x:=0) (by omega)),(aB (x:=0) (by omega)),(b8 (x:=0) (by omega)),(b8 (x:=0) (by omega)),(b8 (x:=0) (by omega)),(b8 (x:=0) (by omega)),(b8 (x:=0) (by omega))⟩⟩ (ud db dg t)
 have ee:=ap S
 refine sg<|Pl 3<|cu 3 [168] 171 ((c==24)) (fun K dh=>?_) ?_
 refine bl 168 ((c==24)) (fun aG=>?_) (fun aG=>?_)
 have ew:=al aG
 exact Pl 3<|ce dh true aG
 have ew:=ap aG
 exact Pl 3<|ce dh false aG
 refine Pl 1<|nt<|cb ((c==24)) (fun a5=>?_) (fun a5=>?_)
 have ex:=al a5
 refine go<|Pl 1<|?_
 have ey:RC w _ A cp b a6 l (ah.mk b false 0):=⟨hsl,z,(Nat.le_trans f.size d),⟨0,(ub a0 o),Nat.zero_le _,rfl⟩,by omega⟩
 refine L0<|Oc<|m3 (cM ey) fun g2 ez di g3=>Pl 1<|?_
 have bL:=nb (ak o) lr g
 refine L0<|bS (aT di (Ne.symm bL) a7) 2 (mG c 0 ((ah.mk b false 0).wordV) 0 0 0 0 0 0 0 0 0 nS nS nS nS 0 0 0 0 0 nS) fun g4 eA dj=>nl<|bn<|tn<|sg<|Pl 1<|?_
 have bM:=us di dj
 have dk:=ut z bM (ac (ni f.size d) (ac (ni (le f.size i.size) g) aq))
 refine L0<|Oc<|m2 (dX (RC.upd ez dj (aa bL ay) dk)) fun g5 bO b1=>nt<|sq<|sg<|Pl 3<|L0<|e8 (p:=⟨l,3,none⟩) (v:=.int .i64 ((((ah.mk b false 0).wordsC 1).endC).e)) (RC.fld bO)<|Pl 1<|nt<|?_
 have dl:=ud dk b1 (le f.size d)
 refine cb ((((((ah.mk b false 0).wordsC 1).endC).e)!=0)) (fun aL=>?_) (fun aL=>?_)
 have bP:=au aL
 refine sq<|Rg 7 (fun w'=>w'.cell? ⟨l,3,none⟩=some (.int .i64 ((((ah.mk b false 0).wordsC 1).endC).e))) fun g6 b2=>?_
 have dm:=RC.upd bO b2 ay (aE.step (RC.u bO) b2)
 refine bh (RC.fld dm) fun aM=>Rt 0 aM<|Rt 1 aM<|Rt 2 aM<|Rt 3 aM<|Rl 4 aM (fun _ hs=>hs)<|?_
 refine R0 5 rfl<|b6 (ub (ut r (u1 bM (aI b1 b2) im) (ac (nr d) (ac (ni i.size g) aq))) k) mZ fun g7 eB dn=>?_
 have dp:=ud dl (uz b2 dn) t
 refine bh (RC.fld (RC.upd dm dn (aa (Ne.symm (nb (ak k) lr d)) ay) dp)) fun eC=>Rt 6 eC<|re<|tn<|rt<|tr<|bF eB (.int .i64 ((((ah.mk b false 0).wordsC 1).endC).e))<|?_
 have hs:ae aH 0 c b=aF (aP.mk c 0 ((ah.mk b false 0).wordV) 0 0 0 0 0 0 0 0 0 [] [] [] [] 0 0 0 0 0 []) ((ah.mk b false 0).wordsC 1):=by
   unfold ae aH bJ bN cS cA ck cz cy gJ
   (try simp only[q,B,C,s,D,F,S,a5,aL,bs,if_true,if_false,decide_true,decide_false,eq_self,true_or,or_true,or_false,false_or,if_true,if_false,bZ,bX,cc,bY,reduceIte,iS,iT])
   all_goals rfl
 rw[hs]
 exact bg bP dp
 have bP:=ai aL
 refine bq<|sg<|?_
 refine L0<|ch (aT b1 (Ne.symm bL) eA)<|?_
 refine L0<|b6 (ub (ut r (u1 bM b1 im) (ac (nr d) (ac (ni i.size g) aq))) k) (mG c 0 ((ah.mk b false 0).wordV) 0 0 0 0 0 0 0 0 0 nS nS nS nS 0 0 0 0 0 nS) fun g8 eD eE=>Pl 1<|nt<|rt<|bF eD (.int .i64 0)<|?_
 have hs:ae aH 0 c b=aF (aP.mk c 0 ((ah.mk b false 0).wordV) 0 0 0 0 0 0 0 0 0 [] [] [] [] 0 0 0 0 0 []) ((ah.mk b false 0).wordsC 1):=by
   unfold ae aH bJ bN cS cA ck cz cy gJ
   (try simp only[q,B,C,s,D,F,S,a5,aL,bs,if_true,if_false,decide_true,decide_false,eq_self,true_or,or_true,or_false,false_or,if_true,if_false,bZ,bX,cc,bY,reduceIte,iS,iT])
   all_goals rfl
 rw[hs]
 exact bj bP ⟨_,_,_,_,_,rfl,aK.nil ..,aK.nil ..,(fun _ _ _=>aK.nil ..),aK.nil ..,aK.nil ..,⟨(b8 (x:=c) (by omega)),(b8 (x:=0) (by omega)),(aB (x:=(ah.mk b false 0).wordV) (by omega)),(aB (x:=0) (by omega)),(aB (x:=0) (by omega)),(aB (x:=0) (by omega)),(aB (x:=0) (by omega)),(aB (x:=0) (by omega)),(aB (x:=0) (by omega)),(aB (x:=0) (by omega)),(aB (x:=0) (by omega)),(aB (x:=0) (by omega)),(b8 (x:=0) (by omega)),(b8 (x:=0) (by omega)),(b8 (x:=0) (by omega)),(b8 (x:=0) (by omega)),(b8 (x:=0) (by omega))⟩⟩ (ud dl eE t)
 have ex:=ap a5
 refine sg<|Pl 3<|nt<|cf a5<|sg<|Pl 1<|?_
 refine L0<|b6 (ub r k) mZ fun g9 eF eG=>Pl 1<|nt<|rt<|br<|tr<|bF eF (.int .i64 4)<|?_
 have hs:ae aH 0 c b=(aP.zero,4):=by
   unfold ae aH bJ bN cS cA ck cz cy gJ
   (try simp only[q,B,C,s,D,F,S,a5,bs,if_true,if_false,decide_true,decide_false,eq_self,true_or,or_true,or_false,false_or,if_true,if_false,bZ,bX,cc,bY,reduceIte,iS,iT])
   all_goals rfl
 rw[hs]
 exact bt (ud z eG t)
theorem jX{m:Md}{A:Option Addr}{cp:Nat}{b:List Int}{w:World}{c:Int}(hcode:B8 c)(hsl:b7 m w (.slice A b.length cp) b)(hb:b.length≤1048576) :
    Calls Tryz.prog 94 #[.int .i64 1,.int .u8 c,.slice A b.length cp] w (dc (.slice A b.length cp) b (ae aH 1 c b) w):=by
 obtain⟨hcode1,hcode2⟩:=hcode
 have hln:(b.length:Int)≤1048576:=by omega
 refine en 221 Tryz.func94 rfl<|sg<|L0<|bI mZ fun e4 e5 y j f=>Pl 1<|nt<|sq<|sg<|Pl 6<|nt<|c0<|?_
 refine bq<|sg<|Pl 2<|L0<|dx #[.slice A b.length cp,.int .i64 0,.bool false,.int .i64 0] fun l e6 d q i=>Pl 1<|ng<|Pl 2<|L0<|bI mZ fun e7 e9 g W H=>L0<|b6 W (mC c) fun X Y r=>?_
 refine nt<|sq<|bk<|sg<|Pl 6<|cu 3 [35] 38 (((c==3)||(c==4))) (fun K bv=>?_) ?_
 refine bl 35 ((c==3)) (fun Z=>?_) (fun Z=>?_)
 have cT:=al Z
 exact Pl 3<|ce bv true (by rw[Z];rfl)
 have cT:=ap Z
 exact Pl 3<|ce bv (c==4) (by rw[Z];rfl)
 refine Pl 1<|cu 3 [39] 42 ((((c==3)||(c==4))||(c==23))) (fun K bw=>?_) ?_
 refine bl 39 (((c==3)||(c==4))) (fun a0=>?_) (fun a0=>?_)
 exact Pl 3<|ce bw true (by rw[a0];rfl)
 have cU:=(aJ a0).1
 have cV:=(aJ a0).2
 have ea:=ap cU
 have eb:=ap cV
 exact Pl 3<|ce bw (c==23) (by rw[a0];rfl)
 refine Pl 2<|nt<|?_
 have T:=ud H r g
 have s:=aI i T
 have z:=aI f s
 refine cb ((((c==3)||(c==4))||(c==23))) (fun k=>?_) (fun k=>?_)
 refine sg<|Pl 1<|?_
 have cW:RC w _ A cp b X l (ah.mk b false 0):=⟨hsl,z,(Nat.le_trans f.size d),⟨0,(ub T q),Nat.zero_le _,rfl⟩,by omega⟩
 refine L0<|Oc<|m3 (dI cW) fun ec cX M ed=>L0<|Oi ((ah.mk b false 0).byteV)<|Pl 1<|ng<|Pl 2<|L0<|Oe (.int .i64 (Int.tmod ((ah.mk b false 0).byteV) 2)) (.int .i64 (((ah.mk b false 0).byteV)%2)) (congrArg (Value.int .i64) (Int.tmod_eq_emod_of_nonneg (by omega)))<|Pl 2<|cu 3 [51] 54 ((((((ah.mk b false 0).byteV)%2)==0)&&(decide (0<((ah.mk b false 0).byteV))))) (fun K bx=>?_) ?_
 refine bl 51 (((((ah.mk b false 0).byteV)%2)==0)) (fun a1=>?_) (fun a1=>?_)
 have cY:=al a1
 exact Pl 3<|ce bx (decide (0<((ah.mk b false 0).byteV))) (by rw[a1];rfl)
 have cY:=ap a1
 exact Pl 3<|ce bx false (by rw[a1];rfl)
 refine Pl 1<|cu 3 [55] 58 (((((((ah.mk b false 0).byteV)%2)==0)&&(decide (0<((ah.mk b false 0).byteV))))&&(decide (((ah.mk b false 0).byteV)≤250)))) (fun K bz=>?_) ?_
 refine bl 55 ((((((ah.mk b false 0).byteV)%2)==0)&&(decide (0<((ah.mk b false 0).byteV))))) (fun a2=>?_) (fun a2=>?_)
 have cZ:=(aS a2).1
 have d0:=(aS a2).2
 have ee:=al cZ
 have ef:=of_decide_eq_true d0
 exact Pl 3<|ce bz (decide (((ah.mk b false 0).byteV)≤250)) (by rw[a2];rfl)
 exact Pl 3<|ce bz false (by rw[a2];rfl)
 refine L0<|Oc<|m2 (aV (((((((ah.mk b false 0).byteV)%2)==0)&&(decide (0<((ah.mk b false 0).byteV))))&&(decide (((ah.mk b false 0).byteV)≤250)))) 5 cX) fun eg d1 N=>?_
 refine fd d1 fun x49 bA d2=>?_
 refine nt<|go<|Pl 2<|L0<|Oe (.int .i64 (IntKind.i64.wrap (Int.tdiv ((ah.mk b false 0).byteV) 2))) (.int .i64 (((ah.mk b false 0).byteV)/2)) (congrArg (Value.int .i64) (fe (by omega) (by omega)))<|L0<|Oc<|lz (fp (n:=(((ah.mk b false 0).byteV)/2)) (by omega) d2) fun bB bC eh I ei ej d3 d4=>Pl 1<|?_
 have bD:=u1 M (u1 N d4 im) im
 have aQ:=nb (ak q) lr g
 refine L0<|bS (aT bD (Ne.symm aQ) Y) 12 (mG c 0 0 0 0 0 0 0 0 0 0 0 (.slice bB ((x49.wordsR (((ah.mk b false 0).byteV)/2)).length) bC) nS nS nS 0 0 0 0 0 nS) fun ek d5 av=>nl<|bn<|tn<|sg<|Pl 1<|?_
 have aU:=us bD av
 have bE:=ut z aU (ac (ni f.size d) (ac (ni (le f.size i.size) g) aq))
 refine L0<|Oc<|m2 (dX (RC.upd d3 av (aa aQ ay) bE)) fun el aW a3=>nt<|sq<|sg<|Pl 3<|L0<|e8 (p:=⟨l,3,none⟩) (v:=.int .i64 (((x49.wordsC (((ah.mk b false 0).byteV)/2)).endC).e)) (RC.fld aW)<|Pl 1<|nt<|?_
 have bG:=ud bE a3 (le f.size d)
 refine cb (((((x49.wordsC (((ah.mk b false 0).byteV)/2)).endC).e)!=0)) (fun a4=>?_) (fun a4=>?_)
 have aX:=au a4
 refine sq<|Rg 7 (fun w'=>w'.cell? ⟨l,3,none⟩=some (.int .i64 (((x49.wordsC (((ah.mk b false 0).byteV)/2)).endC).e))) fun em aw=>?_
 have bH:=RC.upd aW aw ay (aE.step (RC.u aW) aw)
 refine bh (RC.fld bH) fun a5=>Rt 0 a5<|Rt 1 a5<|Rt 2 a5<|Rt 3 a5<|Rl 4 a5 (fun _ hs=>hs)<|?_
 have bK:=aI a3 aw
 refine R0 5 rfl<|b6 (ub (ut s (u1 aU bK im) (ac (nr d) (ac (ni i.size g) aq))) j) mZ fun eo d6 aY=>?_
 have bL:=ud bG (uz aw aY) y
 refine bh (RC.fld (RC.upd bH aY (aa (Ne.symm (nb (ak j) lr d)) ay) bL)) fun d7=>Rt 6 d7<|re<|tn<|rt<|tr<|bF d6 (.int .i64 (((x49.wordsC (((ah.mk b false 0).byteV)/2)).endC).e))<|?_
 have ep:=ax I (us av (us bK aY)) (fun x hx=>(aa (fun e=>(aA (ak W) (le (le r.size M.size) N.size) I) (e▸hx)) (aa (fun e=>(aA (ak q) (le (le (le H.size r.size) M.size) N.size) I) (e▸hx)) (aa (fun e=>(aA (ak j) (le (le (le (le i.size H.size) r.size) M.size) N.size) I) (e▸hx)) ay)))) (fun _ _ h=>h)
 have hs:ae aH 1 c b=aF (aP.mk c 0 0 0 0 0 0 0 0 0 0 0 (x49.wordsR (((ah.mk b false 0).byteV)/2)) [] [] [] 0 0 0 0 0 []) (x49.wordsC (((ah.mk b false 0).byteV)/2)):=by
   subst bA
   unfold ae
   (try simp only[k,a4,bs,if_true,if_false,decide_true,decide_false,eq_self,true_or,or_true,or_false,false_or,if_true,if_false,bZ,bX,cc,bY,reduceIte,iS,iT,nh k])
   all_goals rfl
 rw[hs]
 exact bg aX bL
 have aX:=ai a4
 refine bq<|sg<|?_
 refine L0<|ch (aT a3 (Ne.symm aQ) d5)<|?_
 refine L0<|b6 (ub (ut s (u1 aU a3 im) (ac (nr d) (ac (ni i.size g) aq))) j) (mG c 0 0 0 0 0 0 0 0 0 0 0 (.slice bB ((x49.wordsR (((ah.mk b false 0).byteV)/2)).length) bC) nS nS nS 0 0 0 0 0 nS) fun eq d8 bM=>Pl 1<|nt<|rt<|bF d8 (.int .i64 0)<|?_
 have hs:ae aH 1 c b=aF (aP.mk c 0 0 0 0 0 0 0 0 0 0 0 (x49.wordsR (((ah.mk b false 0).byteV)/2)) [] [] [] 0 0 0 0 0 []) (x49.wordsC (((ah.mk b false 0).byteV)/2)):=by
   subst bA
   unfold ae
   (try simp only[k,a4,bs,if_true,if_false,decide_true,decide_false,eq_self,true_or,or_true,or_false,false_or,if_true,if_false,bZ,bX,cc,bY,reduceIte,iS,iT,nh k])
   all_goals rfl
 rw[hs]
 exact bj aX ⟨_,_,_,_,_,rfl,((ax I (us av (us a3 bM)) (fun x hx=>(aa (fun e=>(aA (ak W) (le (le r.size M.size) N.size) I) (e▸hx)) (aa (fun e=>(aA (ak q) (le (le (le H.size r.size) M.size) N.size) I) (e▸hx)) (aa (fun e=>(aA (ak j) (le (le (le (le i.size H.size) r.size) M.size) N.size) I) (e▸hx)) ay)))) (fun _ _ h=>h))).rd,aK.nil ..,(fun _ _ _=>aK.nil ..),aK.nil ..,aK.nil ..,⟨(b8 (x:=c) (by omega)),(b8 (x:=0) (by omega)),(aB (x:=0) (by omega)),(aB (x:=0) (by omega)),(aB (x:=0) (by omega)),(aB (x:=0) (by omega)),(aB (x:=0) (by omega)),(aB (x:=0) (by omega)),(aB (x:=0) (by omega)),(aB (x:=0) (by omega)),(aB (x:=0) (by omega)),(aB (x:=0) (by omega)),(b8 (x:=0) (by omega)),(b8 (x:=0) (by omega)),(b8 (x:=0) (by omega)),(b8 (x:=0) (by omega)),(b8 (x:=0) (by omega))⟩⟩ (ud bG bM y)
 have B:=(aJ k).1
 have C:=(aJ k).2
 have D:=(aJ B).1
 have E:=(aJ B).2
 have q35aap:=ap D
 have q35abp:=ap E
 have er:=ap C
 refine sg<|Pl 3<|sy 68 D<|Pl 4<|nt<|cf E<|sg<|Pl 3<|nt<|cb ((c==6)) (fun t=>?_) (fun t=>?_)
 have d9:=al t
 refine sg<|Pl 1<|?_
 have da:RC w _ A cp b X l (ah.mk b false 0):=⟨hsl,z,(Nat.le_trans f.size d),⟨0,(ub T q),Nat.zero_le _,rfl⟩,by omega⟩
 refine L0<|Oc<|m3 (cM da) fun es db bO et=>Pl 1<|?_
 have a6:=nb (ak q) lr g
 refine L0<|bS (aT bO (Ne.symm a6) Y) 2 (mG c 0 ((ah.mk b false 0).wordV) 0 0 0 0 0 0 0 0 0 nS nS nS nS 0 0 0 0 0 nS) fun eu dd bP=>nt<|go<|Pl 1<|?_
 have aZ:=us bO bP
 have bQ:=ut z aZ (ac (ni f.size d) (ac (ni (le f.size i.size) g) aq))
 refine L0<|Oc<|m3 (cM (RC.upd db bP (aa a6 ay) bQ)) fun ev de bR ew=>Pl 1<|?_
 refine L0<|bS (aT bR (Ne.symm a6) dd) 4 (mG c 0 ((ah.mk b false 0).wordV) 0 (((ah.mk b false 0).wordsC 1).wordV) 0 0 0 0 0 0 0 nS nS nS nS 0 0 0 0 0 nS) fun ex df bT=>nl<|bn<|tn<|sg<|Pl 1<|?_
 have b0:=us bR bT
 have bU:=ut bQ b0 (ac (ni f.size d) (ac (ni (le f.size i.size) g) aq))
 refine L0<|Oc<|m2 (dX (RC.upd de bT (aa a6 ay) bU)) fun ey b1 az=>nt<|sq<|sg<|Pl 3<|L0<|e8 (p:=⟨l,3,none⟩) (v:=.int .i64 (((((ah.mk b false 0).wordsC 1).wordsC 1).endC).e)) (RC.fld b1)<|Pl 1<|nt<|?_
 have bV:=ud bU az (le f.size d)
 refine cb (((((((ah.mk b false 0).wordsC 1).wordsC 1).endC).e)!=0)) (fun a7=>?_) (fun a7=>?_)
 have b2:=au a7
 refine sq<|Rg 7 (fun w'=>w'.cell? ⟨l,3,none⟩=some (.int .i64 (((((ah.mk b false 0).wordsC 1).wordsC 1).endC).e))) fun ez aC=>?_
 have bW:=RC.upd b1 aC ay (aE.step (RC.u b1) aC)
 refine bh (RC.fld bW) fun a8=>Rt 0 a8<|Rt 1 a8<|Rt 2 a8<|Rt 3 a8<|Rl 4 a8 (fun _ hs=>hs)<|?_
 refine R0 5 rfl<|b6 (ub (ut s (ut aZ (u1 b0 (aI az aC) im) (ac im (ac im aq))) (ac (nr d) (ac (ni i.size g) aq))) j) mZ fun eA dg c1=>?_
 have c2:=ud bV (uz aC c1) y
 refine bh (RC.fld (RC.upd bW c1 (aa (Ne.symm (nb (ak j) lr d)) ay) c2)) fun dh=>Rt 6 dh<|re<|tn<|rt<|tr<|bF dg (.int .i64 (((((ah.mk b false 0).wordsC 1).wordsC 1).endC).e))<|?_
 have hs:ae aH 1 c b=aF (aP.mk c 0 ((ah.mk b false 0).wordV) 0 (((ah.mk b false 0).wordsC 1).wordV) 0 0 0 0 0 0 0 [] [] [] [] 0 0 0 0 0 []) (((ah.mk b false 0).wordsC 1).wordsC 1):=by
   unfold ae aH bJ bN cS cA ck cz cy gJ
   (try simp only[k,B,D,E,C,t,a7,bs,if_true,if_false,decide_true,decide_false,eq_self,true_or,or_true,or_false,false_or,if_true,if_false,bZ,bX,cc,bY,reduceIte,iS,iT])
   all_goals rfl
 rw[hs]
 exact bg b2 c2
 have b2:=ai a7
 refine bq<|sg<|?_
 refine L0<|ch (aT az (Ne.symm a6) df)<|?_
 refine L0<|b6 (ub (ut s (ut aZ (u1 b0 az im) (ac im (ac im aq))) (ac (nr d) (ac (ni i.size g) aq))) j) (mG c 0 ((ah.mk b false 0).wordV) 0 (((ah.mk b false 0).wordsC 1).wordV) 0 0 0 0 0 0 0 nS nS nS nS 0 0 0 0 0 nS) fun eB di dj=>Pl 1<|nt<|rt<|bF di (.int .i64 0)<|?_
 have hs:ae aH 1 c b=aF (aP.mk c 0 ((ah.mk b false 0).wordV) 0 (((ah.mk b false 0).wordsC 1).wordV) 0 0 0 0 0 0 0 [] [] [] [] 0 0 0 0 0 []) (((ah.mk b false 0).wordsC 1).wordsC 1):=by
   unfold ae aH bJ bN cS cA ck cz cy gJ
   (try simp only[k,B,D,E,C,t,a7,bs,if_true,if_false,decide_true,decide_false,eq_self,true_or,or_true,or_false,false_or,if_true,if_false,bZ,bX,cc,bY,reduceIte,iS,iT])
   all_goals rfl
 rw[hs]
 exact bj b2 ⟨_,_,_,_,_,rfl,aK.nil ..,aK.nil ..,(fun _ _ _=>aK.nil ..),aK.nil ..,aK.nil ..,⟨(b8 (x:=c) (by omega)),(b8 (x:=0) (by omega)),(aB (x:=(ah.mk b false 0).wordV) (by omega)),(aB (x:=0) (by omega)),(aB (x:=((ah.mk b false 0).wordsC 1).wordV) (by omega)),(aB (x:=0) (by omega)),(aB (x:=0) (by omega)),(aB (x:=0) (by omega)),(aB (x:=0) (by omega)),(aB (x:=0) (by omega)),(aB (x:=0) (by omega)),(aB (x:=0) (by omega)),(b8 (x:=0) (by omega)),(b8 (x:=0) (by omega)),(b8 (x:=0) (by omega)),(b8 (x:=0) (by omega)),(b8 (x:=0) (by omega))⟩⟩ (ud bV dj y)
 have d9:=ap t
 refine sg<|Pl 3<|nt<|cb ((c==16)) (fun F=>?_) (fun F=>?_)
 have dk:=al F
 refine sg<|Pl 1<|?_
 have dl:RC w _ A cp b X l (ah.mk b false 0):=⟨hsl,z,(Nat.le_trans f.size d),⟨0,(ub T q),Nat.zero_le _,rfl⟩,by omega⟩
 refine L0<|Oc<|m3 (cM dl) fun eC dm c3 eD=>Pl 1<|?_
 have a9:=nb (ak q) lr g
 refine L0<|bS (aT c3 (Ne.symm a9) Y) 2 (mG c 0 ((ah.mk b false 0).wordV) 0 0 0 0 0 0 0 0 0 nS nS nS nS 0 0 0 0 0 nS) fun eE c4 c5=>ng<|Pl 2<|L0<|aR c4 2<|?_
 have b3:=us c3 c5
 have c6:=ut z b3 (ac (ni f.size d) (ac (ni (le f.size i.size) g) aq))
 refine L0<|Oc<|m3 (jF (a:=(ah.mk b false 0).wordV) (most:=123) (by omega) (RC.upd dm c5 (aa a9 ay) c6)) fun eF dn c7 eG=>?_
 refine fd dn fun U c8 dp=>?_
 refine L0<|uw (((ah.mk b false 0).wordsC 1).wordV)<|Pl 1<|?_
 refine L0<|bS (aT c7 (Ne.symm a9) c4) 3 (mG c 0 ((ah.mk b false 0).wordV) (((ah.mk b false 0).wordsC 1).wordV) 0 0 0 0 0 0 0 0 nS nS nS nS 0 0 0 0 0 nS) fun eH dq c9=>ng<|Pl 2<|nt<|c0<|sk<|bn<|tn<|sg<|?_
 refine Pl 1<|?_
 have b4:=us c7 c9
 have ca:=ut c6 b4 (ac (ni f.size d) (ac (ni (le f.size i.size) g) aq))
 refine L0<|Oc<|m2 (dX (RC.upd dp c9 (aa a9 ay) ca)) fun eI b5 aD=>nt<|sq<|sg<|Pl 3<|L0<|e8 (p:=⟨l,3,none⟩) (v:=.int .i64 U.endC.e) (RC.fld b5)<|Pl 1<|nt<|?_
 have cd:=ud ca aD (le f.size d)
 refine cb ((U.endC.e != 0)) (fun ab=>?_) (fun ab=>?_)
 have b9:=au ab
 refine sq<|Rg 7 (fun w'=>w'.cell? ⟨l,3,none⟩=some (.int .i64 U.endC.e)) fun eJ aG=>?_
 have cg:=RC.upd b5 aG ay (aE.step (RC.u b5) aG)
 refine bh (RC.fld cg) fun ad=>Rt 0 ad<|Rt 1 ad<|Rt 2 ad<|Rt 3 ad<|Rl 4 ad (fun _ hs=>hs)<|?_
 refine R0 5 rfl<|b6 (ub (ut s (ut b3 (u1 b4 (aI aD aG) im) (ac im (ac im aq))) (ac (nr d) (ac (ni i.size g) aq))) j) mZ fun eK dr ci=>?_
 have cj:=ud cd (uz aG ci) y
 refine bh (RC.fld (RC.upd cg ci (aa (Ne.symm (nb (ak j) lr d)) ay) cj)) fun ds=>Rt 6 ds<|re<|tn<|rt<|tr<|bF dr (.int .i64 U.endC.e)<|?_
 have hs:ae aH 1 c b=aF (aP.mk c 0 ((ah.mk b false 0).wordV) (((ah.mk b false 0).wordsC 1).wordV) 0 0 0 0 0 0 0 0 [] [] [] [] 0 0 0 0 0 []) U:=by
   subst c8
   unfold ae aH bJ bN cS cA ck cz cy gJ
   (try simp only[k,B,D,E,C,t,F,ab,bs,if_true,if_false,decide_true,decide_false,eq_self,true_or,or_true,or_false,false_or,if_true,if_false,bZ,bX,cc,bY,reduceIte,iS,iT])
   all_goals rfl
 rw[hs]
 exact bg b9 cj
 have b9:=ai ab
 refine bq<|sg<|?_
 refine L0<|ch (aT aD (Ne.symm a9) dq)<|?_
 refine L0<|b6 (ub (ut s (ut b3 (u1 b4 aD im) (ac im (ac im aq))) (ac (nr d) (ac (ni i.size g) aq))) j) (mG c 0 ((ah.mk b false 0).wordV) (((ah.mk b false 0).wordsC 1).wordV) 0 0 0 0 0 0 0 0 nS nS nS nS 0 0 0 0 0 nS) fun eL dt du=>Pl 1<|nt<|rt<|bF dt (.int .i64 0)<|?_
 have hs:ae aH 1 c b=aF (aP.mk c 0 ((ah.mk b false 0).wordV) (((ah.mk b false 0).wordsC 1).wordV) 0 0 0 0 0 0 0 0 [] [] [] [] 0 0 0 0 0 []) U:=by
   subst c8
   unfold ae aH bJ bN cS cA ck cz cy gJ
   (try simp only[k,B,D,E,C,t,F,ab,bs,if_true,if_false,decide_true,decide_false,eq_self,true_or,or_true,or_false,false_or,if_true,if_false,bZ,bX,cc,bY,reduceIte,iS,iT])
   all_goals rfl
 rw[hs]
 exact bj b9 ⟨_,_,_,_,_,rfl,aK.nil ..,aK.nil ..,(fun _ _ _=>aK.nil ..),aK.nil ..,aK.nil ..,⟨(b8 (x:=c) (by omega)),(b8 (x:=0) (by omega)),(aB (x:=(ah.mk b false 0).wordV) (by omega)),(aB (x:=((ah.mk b false 0).wordsC 1).wordV) (by omega)),(aB (x:=0) (by omega)),(aB (x:=0) (by omega)),(aB (x:=0) (by omega)),(aB (x:=0) (by omega)),(aB (x:=0) (by omega)),(aB (x:=0) (by omega)),(aB (x:=0) (by omega)),(aB (x:=0) (by omega)),(b8 (x:=0) (by omega)),(b8 (x:=0) (by omega)),(b8 (x:=0) (by omega)),(b8 (x:=0) (by omega)),(b8 (x:=0) (by omega))⟩⟩ (ud cd du y)
 have dk:=ap F
 refine sg<|Pl 3<|nt<|cb ((c==22)) (fun J=>?_) (fun J=>?_)
 have dv:=al J
 refine sg<|Pl 1<|?_
 have dw:RC w _ A cp b X l (ah.mk b false 0):=⟨hsl,z,(Nat.le_trans f.size d),⟨0,(ub T q),Nat.zero_le _,rfl⟩,by omega⟩
 refine L0<|Oc<|m3 (cM dw) fun eM dy cl eN=>Pl 1<|?_
 have O:=nb (ak q) lr g
 refine L0<|bS (aT cl (Ne.symm O) Y) 2 (mG c 0 ((ah.mk b false 0).wordV) 0 0 0 0 0 0 0 0 0 nS nS nS nS 0 0 0 0 0 nS) fun eO dz cm=>ng<|Pl 1<|?_
 have ba:=us cl cm
 have cn:=ut z ba (ac (ni f.size d) (ac (ni (le f.size i.size) g) aq))
 refine L0<|Oc<|m3 (cM (RC.upd dy cm (aa O ay) cn)) fun eP dA co eQ=>Pl 1<|?_
 refine L0<|bS (aT co (Ne.symm O) dz) 5 (mG c 0 ((ah.mk b false 0).wordV) 0 0 (((ah.mk b false 0).wordsC 1).wordV) 0 0 0 0 0 0 nS nS nS nS 0 0 0 0 0 nS) fun eR dB cq=>nt<|go<|Pl 1<|?_
 have bb:=us co cq
 have cr:=ut cn bb (ac (ni f.size d) (ac (ni (le f.size i.size) g) aq))
 refine L0<|Oc<|m3 (cM (RC.upd dA cq (aa O ay) cr)) fun eS dC cs eT=>Pl 1<|?_
 refine L0<|bS (aT cs (Ne.symm O) dB) 6 (mG c 0 ((ah.mk b false 0).wordV) 0 0 (((ah.mk b false 0).wordsC 1).wordV) ((((ah.mk b false 0).wordsC 1).wordsC 1).wordV) 0 0 0 0 0 nS nS nS nS 0 0 0 0 0 nS) fun eU dD ct=>nl<|bn<|tn<|sg<|Pl 1<|?_
 have bc:=us cs ct
 have cv:=ut cr bc (ac (ni f.size d) (ac (ni (le f.size i.size) g) aq))
 refine L0<|Oc<|m2 (dX (RC.upd dC ct (aa O ay) cv)) fun eV bd aL=>nt<|sq<|sg<|Pl 3<|L0<|e8 (p:=⟨l,3,none⟩) (v:=.int .i64 ((((((ah.mk b false 0).wordsC 1).wordsC 1).wordsC 1).endC).e)) (RC.fld bd)<|Pl 1<|nt<|?_
 have cw:=ud cv aL (le f.size d)
 refine cb ((((((((ah.mk b false 0).wordsC 1).wordsC 1).wordsC 1).endC).e)!=0)) (fun af=>?_) (fun af=>?_)
 have be:=au af
 refine sq<|Rg 7 (fun w'=>w'.cell? ⟨l,3,none⟩=some (.int .i64 ((((((ah.mk b false 0).wordsC 1).wordsC 1).wordsC 1).endC).e))) fun eW aM=>?_
 have cx:=RC.upd bd aM ay (aE.step (RC.u bd) aM)
 refine bh (RC.fld cx) fun ag=>Rt 0 ag<|Rt 1 ag<|Rt 2 ag<|Rt 3 ag<|Rl 4 ag (fun _ hs=>hs)<|?_
 refine R0 5 rfl<|b6 (ub (ut s (ut ba (ut bb (u1 bc (aI aL aM) im) (ac im (ac im aq))) (ac im (ac im aq))) (ac (nr d) (ac (ni i.size g) aq))) j) mZ fun eX dE cB=>?_
 have cC:=ud cw (uz aM cB) y
 refine bh (RC.fld (RC.upd cx cB (aa (Ne.symm (nb (ak j) lr d)) ay) cC)) fun dF=>Rt 6 dF<|re<|tn<|rt<|tr<|bF dE (.int .i64 ((((((ah.mk b false 0).wordsC 1).wordsC 1).wordsC 1).endC).e))<|?_
 have hs:ae aH 1 c b=aF (aP.mk c 0 ((ah.mk b false 0).wordV) 0 0 (((ah.mk b false 0).wordsC 1).wordV) ((((ah.mk b false 0).wordsC 1).wordsC 1).wordV) 0 0 0 0 0 [] [] [] [] 0 0 0 0 0 []) ((((ah.mk b false 0).wordsC 1).wordsC 1).wordsC 1):=by
   unfold ae aH bJ bN cS cA ck cz cy gJ
   (try simp only[k,B,D,E,C,t,F,J,af,bs,if_true,if_false,decide_true,decide_false,eq_self,true_or,or_true,or_false,false_or,if_true,if_false,bZ,bX,cc,bY,reduceIte,iS,iT])
   all_goals rfl
 rw[hs]
 exact bg be cC
 have be:=ai af
 refine bq<|sg<|?_
 refine L0<|ch (aT aL (Ne.symm O) dD)<|?_
 refine L0<|b6 (ub (ut s (ut ba (ut bb (u1 bc aL im) (ac im (ac im aq))) (ac im (ac im aq))) (ac (nr d) (ac (ni i.size g) aq))) j) (mG c 0 ((ah.mk b false 0).wordV) 0 0 (((ah.mk b false 0).wordsC 1).wordV) ((((ah.mk b false 0).wordsC 1).wordsC 1).wordV) 0 0 0 0 0 nS nS nS nS 0 0 0 0 0 nS) fun eY dG dH=>Pl 1<|nt<|rt<|bF dG (.int .i64 0)<|?_
 have hs:ae aH 1 c b=aF (aP.mk c 0 ((ah.mk b false 0).wordV) 0 0 (((ah.mk b false 0).wordsC 1).wordV) ((((ah.mk b false 0).wordsC 1).wordsC 1).wordV) 0 0 0 0 0 [] [] [] [] 0 0 0 0 0 []) ((((ah.mk b false 0).wordsC 1).wordsC 1).wordsC 1):=by
   unfold ae aH bJ bN cS cA ck cz cy gJ
   (try simp only[k,B,D,E,C,t,F,J,af,bs,if_true,if_false,decide_true,decide_false,eq_self,true_or,or_true,or_false,false_or,if_true,if_false,bZ,bX,cc,bY,reduceIte,iS,iT])
   all_goals rfl
 rw[hs]
 exact bj be ⟨_,_,_,_,_,rfl,aK.nil ..,aK.nil ..,(fun _ _ _=>aK.nil ..),aK.nil ..,aK.nil ..,⟨(b8 (x:=c) (by omega)),(b8 (x:=0) (by omega)),(aB (x:=(ah.mk b false 0).wordV) (by omega)),(aB (x:=0) (by omega)),(aB (x:=0) (by omega)),(aB (x:=((ah.mk b false 0).wordsC 1).wordV) (by omega)),(aB (x:=(((ah.mk b false 0).wordsC 1).wordsC 1).wordV) (by omega)),(aB (x:=0) (by omega)),(aB (x:=0) (by omega)),(aB (x:=0) (by omega)),(aB (x:=0) (by omega)),(aB (x:=0) (by omega)),(b8 (x:=0) (by omega)),(b8 (x:=0) (by omega)),(b8 (x:=0) (by omega)),(b8 (x:=0) (by omega)),(b8 (x:=0) (by omega))⟩⟩ (ud cw dH y)
 have dv:=ap J
 refine sg<|Pl 3<|nt<|cf C<|sg<|Pl 3<|cu 3 [168] 171 (false) (fun K cD=>?_) ?_
 refine bl 168 ((c==24)) (fun bf=>?_) (fun bf=>?_)
 have dJ:=al bf
 exact Pl 3<|ce cD false rfl
 have dJ:=ap bf
 exact Pl 3<|ce cD false rfl
 refine Pl 1<|nt<|c0<|sg<|Pl 3<|nt<|cb ((c==24)) (fun V=>?_) (fun V=>?_)
 have dK:=al V
 refine sg<|Pl 1<|?_
 have dL:RC w _ A cp b X l (ah.mk b false 0):=⟨hsl,z,(Nat.le_trans f.size d),⟨0,(ub T q),Nat.zero_le _,rfl⟩,by omega⟩
 refine L0<|Oc<|m3 (cM dL) fun eZ dM P f0=>L0<|Oi ((ah.mk b false 0).wordV)<|Pl 1<|ng<|Pl 2<|L0<|Oe (.int .i64 (Int.tmod ((ah.mk b false 0).wordV) 2)) (.int .i64 (((ah.mk b false 0).wordV)%2)) (congrArg (Value.int .i64) (Int.tmod_eq_emod_of_nonneg (by omega)))<|Pl 2<|cu 3 [185] 188 ((((((ah.mk b false 0).wordV)%2)==0)&&(decide (2≤((ah.mk b false 0).wordV))))) (fun K cE=>?_) ?_
 refine bl 185 (((((ah.mk b false 0).wordV)%2)==0)) (fun aj=>?_) (fun aj=>?_)
 have dN:=al aj
 exact Pl 3<|ce cE (decide (2≤((ah.mk b false 0).wordV))) (by rw[aj];rfl)
 have dN:=ap aj
 exact Pl 3<|ce cE false (by rw[aj];rfl)
 refine Pl 1<|cu 3 [189] 192 (((((((ah.mk b false 0).wordV)%2)==0)&&(decide (2≤((ah.mk b false 0).wordV))))&&(decide (((ah.mk b false 0).wordV)≤64)))) (fun K cF=>?_) ?_
 refine bl 189 ((((((ah.mk b false 0).wordV)%2)==0)&&(decide (2≤((ah.mk b false 0).wordV))))) (fun am=>?_) (fun am=>?_)
 have dO:=(aS am).1
 have dP:=(aS am).2
 have f1:=al dO
 have f2:=of_decide_eq_true dP
 exact Pl 3<|ce cF (decide (((ah.mk b false 0).wordV)≤64)) (by rw[am];rfl)
 exact Pl 3<|ce cF false (by rw[am];rfl)
 refine L0<|Oc<|m2 (aV (((((((ah.mk b false 0).wordV)%2)==0)&&(decide (2≤((ah.mk b false 0).wordV))))&&(decide (((ah.mk b false 0).wordV)≤64)))) 5 dM) fun f3 dQ Q=>?_
 refine fd dQ fun o cG dR=>?_
 refine ng<|Pl 1<|L0<|Oc<|m3 (cM dR) fun f4 dS R f5=>L0<|Oi o.wordV<|Pl 1<|ng<|Pl 3<|L0<|Oi (2*o.wordV)<|?_
 refine L0<|Oi ((2*o.wordV)+2)<|Pl 1<|L0<|Oc<|m2 (aV ((((ah.mk b false 0).wordV)==((2*o.wordV)+2))) 5 dS) fun f6 dT S=>?_
 refine fd dT fun G cH dU=>?_
 refine nt<|go<|Pl 2<|L0<|Oc<|lz (fp (n:=o.wordV) (by omega) dU) fun cI cJ f7 L f8 f9 dV dW=>Pl 1<|?_
 have cK:=u1 P (u1 Q (u1 R (u1 S dW im) im) im) im
 have bi:=nb (ak q) lr g
 refine L0<|bS (aT cK (Ne.symm bi) Y) 12 (mG c 0 0 0 0 0 0 0 0 0 0 0 (.slice cI ((G.wordsR o.wordV).length) cJ) nS nS nS 0 0 0 0 0 nS) fun fa dY aN=>nl<|bn<|tn<|sg<|Pl 1<|?_
 have bm:=us cK aN
 have cL:=ut z bm (ac (ni f.size d) (ac (ni (le f.size i.size) g) aq))
 refine L0<|Oc<|m2 (dX (RC.upd dV aN (aa bi ay) cL)) fun fb bo an=>nt<|sq<|sg<|Pl 3<|L0<|e8 (p:=⟨l,3,none⟩) (v:=.int .i64 (((G.wordsC o.wordV).endC).e)) (RC.fld bo)<|Pl 1<|nt<|?_
 have cN:=ud cL an (le f.size d)
 refine cb (((((G.wordsC o.wordV).endC).e)!=0)) (fun ao=>?_) (fun ao=>?_)
 have bp:=au ao
 refine sq<|Rg 7 (fun w'=>w'.cell? ⟨l,3,none⟩=some (.int .i64 (((G.wordsC o.wordV).endC).e))) fun fc aO=>?_
 have cO:=RC.upd bo aO ay (aE.step (RC.u bo) aO)
 refine bh (RC.fld cO) fun ar=>Rt 0 ar<|Rt 1 ar<|Rt 2 ar<|Rt 3 ar<|Rl 4 ar (fun _ hs=>hs)<|?_
 have cP:=aI an aO
 refine R0 5 rfl<|b6 (ub (ut s (u1 bm cP im) (ac (nr d) (ac (ni i.size g) aq))) j) mZ fun ff dZ bu=>?_
 have cQ:=ud cN (uz aO bu) y
 refine bh (RC.fld (RC.upd cO bu (aa (Ne.symm (nb (ak j) lr d)) ay) cQ)) fun e0=>Rt 6 e0<|re<|tn<|rt<|tr<|bF dZ (.int .i64 (((G.wordsC o.wordV).endC).e))<|?_
 have fg:=ax L (us aN (us cP bu)) (fun x hx=>(aa (fun e=>(aA (ak W) (le (le (le (le r.size P.size) Q.size) R.size) S.size) L) (e▸hx)) (aa (fun e=>(aA (ak q) (le (le (le (le (le H.size r.size) P.size) Q.size) R.size) S.size) L) (e▸hx)) (aa (fun e=>(aA (ak j) (le (le (le (le (le (le i.size H.size) r.size) P.size) Q.size) R.size) S.size) L) (e▸hx)) ay)))) (fun _ _ h=>h)
 have hs:ae aH 1 c b=aF (aP.mk c 0 0 0 0 0 0 0 0 0 0 0 (G.wordsR o.wordV) [] [] [] 0 0 0 0 0 []) (G.wordsC o.wordV):=by
   subst cH cG
   unfold ae aH bJ bN cS cA ck cz cy gJ
   (try simp only[k,B,D,E,C,t,F,J,V,ao,bs,if_true,if_false,decide_true,decide_false,eq_self,true_or,or_true,or_false,false_or,if_true,if_false,bZ,bX,cc,bY,reduceIte,iS,iT])
   all_goals rfl
 rw[hs]
 exact bg bp cQ
 have bp:=ai ao
 refine bq<|sg<|?_
 refine L0<|ch (aT an (Ne.symm bi) dY)<|?_
 refine L0<|b6 (ub (ut s (u1 bm an im) (ac (nr d) (ac (ni i.size g) aq))) j) (mG c 0 0 0 0 0 0 0 0 0 0 0 (.slice cI ((G.wordsR o.wordV).length) cJ) nS nS nS 0 0 0 0 0 nS) fun fh e1 cR=>Pl 1<|nt<|rt<|bF e1 (.int .i64 0)<|?_
 have hs:ae aH 1 c b=aF (aP.mk c 0 0 0 0 0 0 0 0 0 0 0 (G.wordsR o.wordV) [] [] [] 0 0 0 0 0 []) (G.wordsC o.wordV):=by
   subst cH cG
   unfold ae aH bJ bN cS cA ck cz cy gJ
   (try simp only[k,B,D,E,C,t,F,J,V,ao,bs,if_true,if_false,decide_true,decide_false,eq_self,true_or,or_true,or_false,false_or,if_true,if_false,bZ,bX,cc,bY,reduceIte,iS,iT])
   all_goals rfl
 rw[hs]
 exact bj bp ⟨_,_,_,_,_,rfl,((ax L (us aN (us an cR)) (fun x hx=>(aa (fun e=>(aA (ak W) (le (le (le (le r.size P.size) Q.size) R.size) S.size) L) (e▸hx)) (aa (fun e=>(aA (ak q) (le (le (le (le (le H.size r.size) P.size) Q.size) R.size) S.size) L) (e▸hx)) (aa (fun e=>(aA (ak j) (le (le (le (le (le (le i.size H.size) r.size) P.size) Q.size) R.size) S.size) L) (e▸hx)) ay)))) (fun _ _ h=>h))).rd,aK.nil ..,(fun _ _ _=>aK.nil ..),aK.nil ..,aK.nil ..,⟨(b8 (x:=c) (by omega)),(b8 (x:=0) (by omega)),(aB (x:=0) (by omega)),(aB (x:=0) (by omega)),(aB (x:=0) (by omega)),(aB (x:=0) (by omega)),(aB (x:=0) (by omega)),(aB (x:=0) (by omega)),(aB (x:=0) (by omega)),(aB (x:=0) (by omega)),(aB (x:=0) (by omega)),(aB (x:=0) (by omega)),(b8 (x:=0) (by omega)),(b8 (x:=0) (by omega)),(b8 (x:=0) (by omega)),(b8 (x:=0) (by omega)),(b8 (x:=0) (by omega))⟩⟩ (ud cN cR y)
 have dK:=ap V
 refine sg<|Pl 1<|?_
 refine L0<|b6 (ub s j) mZ fun fi e2 e3=>Pl 1<|nt<|rt<|br<|tr<|bF e2 (.int .i64 4)<|?_
 have hs:ae aH 1 c b=(aP.zero,4):=by
   unfold ae aH bJ bN cS cA ck cz cy gJ
   (try simp only[k,B,D,E,C,t,F,J,V,bs,if_true,if_false,decide_true,decide_false,eq_self,true_or,or_true,or_false,false_or,if_true,if_false,bZ,bX,cc,bY,reduceIte,iS,iT])
   all_goals rfl
 rw[hs]
 exact bt (ud z e3 y)
theorem km{m:Md}{A:Option Addr}{cp:Nat}{b:List Int}{w:World}{dir c:Int}(hcode:B8 c)(hsl:b7 m w (.slice A b.length cp) b)(hb:b.length≤1048576)(hd:¬ (dir=0∨dir=1)) :
    Calls Tryz.prog 94 #[.int .i64 dir,.int .u8 c,.slice A b.length cp] w (dc (.slice A b.length cp) b (ae aH dir c b) w):=by
 obtain⟨hcode1,hcode2⟩:=hcode
 have hln:(b.length:Int)≤1048576:=by omega
 have e0:(dir != 0)=true:=by simp;omega
 have e1:(dir != 1)=true:=by simp;omega
 refine en 221 Tryz.func94 rfl<|sg<|L0<|bI mZ fun g h a d e=>Pl 1<|nt<|sq<|sg<|Pl 3<|sy 18 e0<|Pl 3<|nl<|?_
 refine tn<|ct e1<|sg<|Pl 1<|L0<|b6 d mZ fun i dy f=>Pl 1<|nt<|rt<|tr<|bF dy (.int .i64 1)<|?_
 have hs:ae aH dir c b=(aP.zero,1):=by
   unfold ae aH bJ bN cS cA ck cz cy gJ
   (try simp only[e0,e1,bs,if_true,if_false,decide_true,decide_false,eq_self,true_or,or_true,or_false,false_or,if_true,if_false,bZ,bX,cc,bY,reduceIte,hd,iS,iT])
   all_goals rfl
 rw[hs]
 exact bt (ud e f a)
open Go.RowKit
def et (dir:Int)(C:ah) : ah:=(C.wordsC 1).need (dZ C.wordV&&((C.wordV != 4)||(dir==0))) 8
theorem fl{C:ah}:et 0 C=(C.wordsC 1).need (dZ C.wordV) 8:=by
  unfold et
  rw[show((0:Int)==0)=true from rfl,Bool.or_true,Bool.and_true]
theorem fk{C:ah}:et 1 C=(C.wordsC 1).need (dZ C.wordV&&(C.wordV != 4)) 8:=by
  unfold et
  rw[show((1:Int)==0)=false from rfl,Bool.or_false]
def cV (dir c:Int)(C:ah) : ah × aP :=
  if C.wordV==0 then ((iP (et dir C)).wordsC (((et dir C).l.length:Int)/2),{ aP.zero with code:=c,sub:=C.wordV,words:=(iP (et dir C)).wordsR (((et dir C).l.length:Int)/2) })
  else (((et dir C).wordsC 1).need (eL dir C.wordV (et dir C).wordV) 6,{ aP.zero with code:=c,sub:=C.wordV,words:=[(et dir C).wordV] })
def cm (c:Int)(C:ah) : ah × aP :=
  if c==7 then (C.bytesC 1,{ aP.zero with code:=c,value:=C.byteV })
  else if c==11 then ((du C).wordsC 1,{ aP.zero with code:=c,status:=C.wordV,events:=(du C).wordV })
  else if c==12 then ((gL C).bytesC (C.byteV-6),{ aP.zero with code:=c,status:=(gc C 6 70).wordV,events:=(du (gc C 6 70)).wordV,messages:=((du (gc C 6 70)).wordsC 1).wordV,data:=(gL C).bytesR (C.byteV-6) })
  else ((gc C 1 251).bytesC C.byteV,{ aP.zero with code:=c,data:=(gc C 1 251).bytesR C.byteV })
def aX (dir c:Int)(C:ah) : Option (ah × aP) :=
  if ((((c != 7)&&(c != 8))&&(c != 11))&&(c != 12))&&(c != 17) then none
  else if c==8 then some (cV dir c C)
  else if dir==0 then some (C,{ aP.zero with code:=c })
  else some (cm c C)
theorem jR{m:Md}{A:Option Addr}{cp:Nat}{b:List Int}{w:World}{c:Int}(hcode:B8 c)(hsl:b7 m w (.slice A b.length cp) b)(hb:b.length≤1048576) :
    Calls Tryz.prog 95 #[.int .i64 0,.int .u8 c,.slice A b.length cp] w (dc (.slice A b.length cp) b (ae aX 0 c b) w):=by
 obtain⟨hcode1,hcode2⟩:=hcode
 have hln:(b.length:Int)≤1048576:=by omega
 refine en 197 Tryz.func95 rfl<|sg<|L0<|bI mZ fun cP cQ I g i=>Pl 1<|nt<|sq<|sg<|Pl 6<|nt<|c0<|?_
 refine bq<|sq<|sg<|Pl 3<|cu 3 [24] 27 (((c != 7)&&(c != 8))) (fun K aU=>?_) ?_
 refine bl 24 ((c != 7)) (fun P=>?_) (fun P=>?_)
 have bW:=au P
 exact Pl 3<|ce aU (c != 8) (by rw[P];rfl)
 have bW:=ai P
 exact Pl 3<|ce aU false (by rw[P];rfl)
 refine Pl 1<|cu 3 [28] 31 ((((c != 7)&&(c != 8))&&(c != 11))) (fun K aW=>?_) ?_
 refine bl 28 (((c != 7)&&(c != 8))) (fun Q=>?_) (fun Q=>?_)
 have c2:=(aS Q).1
 have c3:=(aS Q).2
 have cR:=au c2
 have cS:=au c3
 exact Pl 3<|ce aW (c != 11) (by rw[Q];rfl)
 exact Pl 3<|ce aW false (by rw[Q];rfl)
 refine Pl 1<|cu 3 [32] 35 (((((c != 7)&&(c != 8))&&(c != 11))&&(c != 12))) (fun K aY=>?_) ?_
 refine bl 32 ((((c != 7)&&(c != 8))&&(c != 11))) (fun R=>?_) (fun R=>?_)
 have b0:=(aS R).1
 have c4:=(aS R).2
 have c5:=(aS b0).1
 have c6:=(aS b0).2
 have q19aap:=au c5
 have q19abp:=au c6
 have cT:=au c4
 exact Pl 3<|ce aY (c != 12) (by rw[R];rfl)
 exact Pl 3<|ce aY false (by rw[R];rfl)
 refine Pl 1<|cu 3 [36] 39 ((((((c != 7)&&(c != 8))&&(c != 11))&&(c != 12))&&(c != 17))) (fun K b1=>?_) ?_
 refine bl 36 (((((c != 7)&&(c != 8))&&(c != 11))&&(c != 12))) (fun S=>?_) (fun S=>?_)
 have b2:=(aS S).1
 have c7:=(aS S).2
 have b3:=(aS b2).1
 have c8:=(aS b2).2
 have q21aaa:=(aS b3).1
 have q21aab:=(aS b3).2
 have q21aaap:=au q21aaa
 have q21aabp:=au q21aab
 have q21abp:=au c8
 have cU:=au c7
 exact Pl 3<|ce b1 (c != 17) (by rw[S];rfl)
 exact Pl 3<|ce b1 false (by rw[S];rfl)
 refine nt<|cb ((((((c != 7)&&(c != 8))&&(c != 11))&&(c != 12))&&(c != 17))) (fun r=>?_) (fun r=>?_)
 have aj:=(aS r).1
 have b4:=(aS r).2
 have am:=(aS aj).1
 have b5:=(aS aj).2
 have q23aaa:=(aS am).1
 have q23aab:=(aS am).2
 have q23aaaa:=(aS q23aaa).1
 have q23aaab:=(aS q23aaa).2
 have q23aaaap:=au q23aaaa
 have q23aaabp:=au q23aaab
 have q23aabp:=au q23aab
 have q23abp:=au b5
 have cW:=au b4
 refine sg<|Pl 1<|L0<|b6 g mZ fun cX c9 ca=>Pl 1<|nt<|rt<|tr<|bF c9 (.int .i64 4)<|?_
 have hs:ae aX 0 c b=(aP.zero,4):=by
   unfold ae aX cV cm
   (try simp only[r,aj,am,q23aaa,q23aaaa,q23aaab,q23aab,b5,b4,bs,if_true,if_false,decide_true,decide_false,eq_self,true_or,or_true,or_false,false_or,if_true,if_false,bZ,bX,cc,bY,reduceIte,fl,fk])
   all_goals rfl
 rw[hs]
 exact bt (ud i ca I)
 refine bq<|sg<|Pl 2<|L0<|dx #[.slice A b.length cp,.int .i64 0,.bool false,.int .i64 0] fun D cY a E q=>Pl 1<|ng<|Pl 2<|L0<|bI mZ fun cZ d0 s T y=>L0<|b6 T (mC c) fun b9 ba k=>?_
 refine nt<|sq<|bk<|sg<|Pl 3<|nt<|?_
 have an:=ud y k s
 have J:=aI q an
 have a6:=aI i J
 refine cb ((c==8)) (fun z=>?_) (fun z=>?_)
 have cd:=al z
 refine sg<|Pl 1<|?_
 have cf:RC w _ A cp b b9 D (ah.mk b false 0):=⟨hsl,a6,(Nat.le_trans i.size a),⟨0,(ub an E),Nat.zero_le _,rfl⟩,by omega⟩
 refine L0<|Oc<|m3 (cM cf) fun d1 cg j d2=>Pl 1<|?_
 have t:=nb (ak E) lr s
 refine L0<|bS (aT j (Ne.symm t) ba) 8 (mG c 0 0 0 0 0 0 0 ((ah.mk b false 0).wordV) 0 0 0 nS nS nS nS 0 0 0 0 0 nS) fun ci ao o=>ng<|Pl 1<|L0<|aR ao 8<|L0<|Oc<|m1 (v6 (x:=(ah.mk b false 0).wordV) (w:=ci) (by omega)) fun d3 f=>Pl 1<|ng<|Pl 3<|cu 8 [72] 80 ((dZ ((ah.mk b false 0).wordV))) (fun K bb=>?_) ?_
 refine bl 72 ((dZ ((ah.mk b false 0).wordV))) (fun ar=>?_) (fun ar=>?_)
 refine Pl 1<|?_
 refine L1<|aR (ub f ao) 8<|Pl 2<|cu 3 [76] 79 (true) (fun K bc=>?_) ?_
 refine bl 76 ((((ah.mk b false 0).wordV)!=4)) (fun av=>?_) (fun av=>?_)
 have cj:=au av
 exact Pl 3<|ce bc true rfl
 have cj:=ai av
 exact Pl 3<|ce bc true rfl
 exact Pl 1<|ce bb true ar
 exact Pl 8<|ce bb false ar
 have bd:=aI o f
 have U:=us j bd
 have be:=ut a6 U (ac (ni i.size a) (ac (ni (le i.size q.size) s) aq))
 refine L0<|Oc<|m2 (aV ((dZ ((ah.mk b false 0).wordV))) 8 (RC.upd cg bd (aa t ay) be)) fun d4 ck d=>?_
 refine fd ck fun x70 a7 V=>?_
 refine nt<|sq<|sg<|Pl 1<|?_
 have aw:=aT (uz f d) (Ne.symm t) ao
 refine L0<|aR aw 8<|Pl 1<|nt<|?_
 have bf:=ud be d (le i.size a)
 refine cb ((((ah.mk b false 0).wordV)==0)) (fun L=>?_) (fun L=>?_)
 have cl:=al L
 refine sg<|Pl 1<|L0<|Oc<|m1 (gF V) fun d5 B=>?_
 have d6:=RC.clen V
 refine Pl 1<|ng<|Pl 2<|L0<|Oe (.int .i64 (Int.tmod ((x70.l.length:Nat) : Int) 2)) (.int .i64 (((x70.l.length:Nat) : Int)%2)) (congrArg (Value.int .i64) (Int.tmod_eq_emod_of_nonneg (by omega)))<|Pl 2<|cu 3 [91] 94 ((((((x70.l.length:Nat) : Int)%2)==0)&&(decide (2≤((x70.l.length:Nat) : Int))))) (fun K bi=>?_) ?_
 refine bl 91 (((((x70.l.length:Nat) : Int)%2)==0)) (fun W=>?_) (fun W=>?_)
 have cn:=al W
 exact Pl 3<|ce bi (decide (2≤((x70.l.length:Nat) : Int))) (by rw[W];rfl)
 have cn:=ap W
 exact Pl 3<|ce bi false (by rw[W];rfl)
 refine Pl 1<|cu 3 [95] 98 (((((((x70.l.length:Nat) : Int)%2)==0)&&(decide (2≤((x70.l.length:Nat) : Int))))&&(decide (((x70.l.length:Nat) : Int)≤250)))) (fun K bm=>?_) ?_
 refine bl 95 ((((((x70.l.length:Nat) : Int)%2)==0)&&(decide (2≤((x70.l.length:Nat) : Int))))) (fun X=>?_) (fun X=>?_)
 have co:=(aS X).1
 have cq:=(aS X).2
 have d7:=al co
 have d8:=of_decide_eq_true cq
 exact Pl 3<|ce bm (decide (((x70.l.length:Nat) : Int)≤250)) (by rw[X];rfl)
 exact Pl 3<|ce bm false (by rw[X];rfl)
 refine L0<|Oc<|m2 (aV (((((((x70.l.length:Nat) : Int)%2)==0)&&(decide (2≤((x70.l.length:Nat) : Int))))&&(decide (((x70.l.length:Nat) : Int)≤250)))) 5 (RC.upd V B ay (aE.step (RC.u V) B))) fun d9 cr M=>?_
 refine fd cr fun x88 bo cs=>?_
 refine ng<|Pl 2<|L0<|Oe (.int .i64 (IntKind.i64.wrap (Int.tdiv ((x70.l.length:Nat) : Int) 2))) (.int .i64 (((x70.l.length:Nat) : Int)/2)) (congrArg (Value.int .i64) (fe (by omega) (by omega)))<|L0<|Oc<|lz (fp (n:=(((x70.l.length:Nat) : Int)/2)) (by omega) cs) fun bp br da F db dd ct cv=>Pl 1<|?_
 have bu:=uz B (u1 M cv im)
 refine L0<|bS (aT bu (Ne.symm t) aw) 12 (mG c 0 0 0 0 0 0 0 ((ah.mk b false 0).wordV) 0 0 0 (.slice bp ((x88.wordsR (((x70.l.length:Nat) : Int)/2)).length) br) nS nS nS 0 0 0 0 0 nS) fun de cw a8=>nt<|xt<|tx<|bx<|tn<|sg<|Pl 1<|?_
 have aC:=us bu a8
 have bv:=ut bf aC (ac (ni i.size a) (ac (ni (le i.size q.size) s) aq))
 refine L0<|Oc<|m2 (dX (RC.upd ct a8 (aa t ay) bv)) fun df aD Y=>nt<|sq<|sg<|Pl 3<|L0<|e8 (p:=⟨D,3,none⟩) (v:=.int .i64 (((x88.wordsC (((x70.l.length:Nat) : Int)/2)).endC).e)) (RC.fld aD)<|Pl 1<|nt<|?_
 have bw:=ud bv Y (le i.size a)
 refine cb (((((x88.wordsC (((x70.l.length:Nat) : Int)/2)).endC).e)!=0)) (fun Z=>?_) (fun Z=>?_)
 have aG:=au Z
 refine sq<|Rg 7 (fun w'=>w'.cell? ⟨D,3,none⟩=some (.int .i64 (((x88.wordsC (((x70.l.length:Nat) : Int)/2)).endC).e))) fun dg a9=>?_
 have bz:=RC.upd aD a9 ay (aE.step (RC.u aD) a9)
 refine bh (RC.fld bz) fun a0=>Rt 0 a0<|Rt 1 a0<|Rt 2 a0<|Rt 3 a0<|Rl 4 a0 (fun _ hs=>hs)<|?_
 have bA:=aI Y a9
 refine R0 5 rfl<|b6 (ub (ut J (ut U (ui d (u1 aC bA im)) (ac im (ac im aq))) (ac (nr a) (ac (ni q.size s) aq))) g) mZ fun dh cx aH=>?_
 have bB:=ud bw (uz a9 aH) I
 refine bh (RC.fld (RC.upd bz aH (aa (Ne.symm (nb (ak g) lr a)) ay) bB)) fun cy=>Rt 6 cy<|re<|tn<|rt<|tr<|bF cx (.int .i64 (((x88.wordsC (((x70.l.length:Nat) : Int)/2)).endC).e))<|?_
 have di:=ax F (us a8 (us bA aH)) (fun x hx=>(aa (fun e=>(aA (ak T) (le (le (le (le (le (le k.size j.size) o.size) f.size) d.size) B.size) M.size) F) (e▸hx)) (aa (fun e=>(aA (ak E) (le (le (le (le (le (le (le y.size k.size) j.size) o.size) f.size) d.size) B.size) M.size) F) (e▸hx)) (aa (fun e=>(aA (ak g) (le (le (le (le (le (le (le (le q.size y.size) k.size) j.size) o.size) f.size) d.size) B.size) M.size) F) (e▸hx)) ay)))) (fun _ _ h=>h)
 have hs:ae aX 0 c b=aF (aP.mk c 0 0 0 0 0 0 0 ((ah.mk b false 0).wordV) 0 0 0 (x88.wordsR (((x70.l.length:Nat) : Int)/2)) [] [] [] 0 0 0 0 0 []) (x88.wordsC (((x70.l.length:Nat) : Int)/2)):=by
   subst bo a7
   unfold ae aX cV cm
   (try simp only[r,z,L,Z,bs,if_true,if_false,decide_true,decide_false,eq_self,true_or,or_true,or_false,false_or,if_true,if_false,bZ,bX,cc,bY,reduceIte,fl,fk])
   all_goals rfl
 rw[hs]
 exact bg aG bB
 have aG:=ai Z
 refine bq<|sg<|?_
 refine L0<|ch (aT Y (Ne.symm t) cw)<|?_
 refine L0<|b6 (ub (ut J (ut U (ui d (u1 aC Y im)) (ac im (ac im aq))) (ac (nr a) (ac (ni q.size s) aq))) g) (mG c 0 0 0 0 0 0 0 ((ah.mk b false 0).wordV) 0 0 0 (.slice bp ((x88.wordsR (((x70.l.length:Nat) : Int)/2)).length) br) nS nS nS 0 0 0 0 0 nS) fun dj cz bC=>Pl 1<|nt<|rt<|bF cz (.int .i64 0)<|?_
 have hs:ae aX 0 c b=aF (aP.mk c 0 0 0 0 0 0 0 ((ah.mk b false 0).wordV) 0 0 0 (x88.wordsR (((x70.l.length:Nat) : Int)/2)) [] [] [] 0 0 0 0 0 []) (x88.wordsC (((x70.l.length:Nat) : Int)/2)):=by
   subst bo a7
   unfold ae aX cV cm
   (try simp only[r,z,L,Z,bs,if_true,if_false,decide_true,decide_false,eq_self,true_or,or_true,or_false,false_or,if_true,if_false,bZ,bX,cc,bY,reduceIte,fl,fk])
   all_goals rfl
 rw[hs]
 exact bj aG ⟨_,_,_,_,_,rfl,((ax F (us a8 (us Y bC)) (fun x hx=>(aa (fun e=>(aA (ak T) (le (le (le (le (le (le k.size j.size) o.size) f.size) d.size) B.size) M.size) F) (e▸hx)) (aa (fun e=>(aA (ak E) (le (le (le (le (le (le (le y.size k.size) j.size) o.size) f.size) d.size) B.size) M.size) F) (e▸hx)) (aa (fun e=>(aA (ak g) (le (le (le (le (le (le (le (le q.size y.size) k.size) j.size) o.size) f.size) d.size) B.size) M.size) F) (e▸hx)) ay)))) (fun _ _ h=>h))).rd,aK.nil ..,(fun _ _ _=>aK.nil ..),aK.nil ..,aK.nil ..,⟨(b8 (x:=c) (by omega)),(b8 (x:=0) (by omega)),(aB (x:=0) (by omega)),(aB (x:=0) (by omega)),(aB (x:=0) (by omega)),(aB (x:=0) (by omega)),(aB (x:=0) (by omega)),(aB (x:=0) (by omega)),(aB (x:=(ah.mk b false 0).wordV) (by omega)),(aB (x:=0) (by omega)),(aB (x:=0) (by omega)),(aB (x:=0) (by omega)),(b8 (x:=0) (by omega)),(b8 (x:=0) (by omega)),(b8 (x:=0) (by omega)),(b8 (x:=0) (by omega)),(b8 (x:=0) (by omega))⟩⟩ (ud bw bC I)
 have cl:=ap L
 refine bq<|sg<|Pl 1<|L0<|Oc<|m3 (cM V) fun cA bD G dk=>Pl 1<|ng<|Pl 3<|?_
 have bE:=aT G (Ne.symm t) aw
 refine L0<|aR bE 8<|Pl 1<|L0<|Oc<|m1 (vv (dir:=0) (sub:=(ah.mk b false 0).wordV) (v:=x70.wordV) (w:=cA) (by omega)) fun dl C=>?_
 refine L0<|Oc<|m2 (aV ((eL 0 ((ah.mk b false 0).wordV) x70.wordV)) 6 (RC.upd bD C ay (aE.step (RC.u bD) C))) fun dm cB N=>?_
 refine fd cB fun O bG cC=>?_
 refine nt<|go<|Pl 1<|L0<|dA (m:=1) (e:=24) #[.int .u16 x70.wordV] fun bH dn cD cE bJ=>?_
 have H:=ec cD (xs:=[x70.wordV]) (by as_aux_lemma=>kernel_rfl) (az (by omega) aZ) (by(try simp only[List.length_cons,List.length_nil]);omega) cE
 refine Pl 1<|?_
 have bK:=uz C (aI N bJ)
 refine L0<|bS (aT bK (Ne.symm t) bE) 12 (mG c 0 0 0 0 0 0 0 ((ah.mk b false 0).wordV) 0 0 0 (.slice (some ⟨bH,0,none⟩) 1 1) nS nS nS 0 0 0 0 0 nS) fun dp cF ab=>nl<|bn<|tn<|sg<|Pl 1<|?_
 have aJ:=ui G (us bK ab)
 have bL:=ut bf aJ (ac (ni i.size a) (ac (ni (le i.size q.size) s) aq))
 refine L0<|Oc<|m2 (dX (RC.upd cC (uz bJ ab) (aa t ay) bL)) fun dq aL a1=>nt<|sq<|sg<|Pl 3<|L0<|e8 (p:=⟨D,3,none⟩) (v:=.int .i64 O.endC.e) (RC.fld aL)<|Pl 1<|nt<|?_
 have bM:=ud bL a1 (le i.size a)
 refine cb ((O.endC.e != 0)) (fun a2=>?_) (fun a2=>?_)
 have aM:=au a2
 refine sq<|Rg 7 (fun w'=>w'.cell? ⟨D,3,none⟩=some (.int .i64 O.endC.e)) fun dr ad=>?_
 have bN:=RC.upd aL ad ay (aE.step (RC.u aL) ad)
 refine bh (RC.fld bN) fun a3=>Rt 0 a3<|Rt 1 a3<|Rt 2 a3<|Rt 3 a3<|Rl 4 a3 (fun _ hs=>hs)<|?_
 have bO:=aI a1 ad
 refine R0 5 rfl<|b6 (ub (ut J (ut U (ui d (u1 aJ bO im)) (ac im (ac im aq))) (ac (nr a) (ac (ni q.size s) aq))) g) mZ fun ds cG aN=>?_
 have bP:=ud bM (uz ad aN) I
 refine bh (RC.fld (RC.upd bN aN (aa (Ne.symm (nb (ak g) lr a)) ay) bP)) fun cH=>Rt 6 cH<|re<|tn<|rt<|tr<|bF cG (.int .i64 O.endC.e)<|?_
 have dt:=ax H (us ab (us bO aN)) (fun x hx=>(aa (fun e=>(aA (ak T) (le (le (le (le (le (le (le k.size j.size) o.size) f.size) d.size) G.size) C.size) N.size) H) (e▸hx)) (aa (fun e=>(aA (ak E) (le (le (le (le (le (le (le (le y.size k.size) j.size) o.size) f.size) d.size) G.size) C.size) N.size) H) (e▸hx)) (aa (fun e=>(aA (ak g) (le (le (le (le (le (le (le (le (le q.size y.size) k.size) j.size) o.size) f.size) d.size) G.size) C.size) N.size) H) (e▸hx)) ay)))) (fun _ _ h=>h)
 have hs:ae aX 0 c b=aF (aP.mk c 0 0 0 0 0 0 0 ((ah.mk b false 0).wordV) 0 0 0 [x70.wordV] [] [] [] 0 0 0 0 0 []) O:=by
   subst bG a7
   unfold ae aX cV cm
   (try simp only[r,z,L,a2,bs,if_true,if_false,decide_true,decide_false,eq_self,true_or,or_true,or_false,false_or,if_true,if_false,bZ,bX,cc,bY,reduceIte,fl,fk])
   all_goals rfl
 rw[hs]
 exact bg aM bP
 have aM:=ai a2
 refine bq<|sg<|?_
 refine L0<|ch (aT a1 (Ne.symm t) cF)<|?_
 refine L0<|b6 (ub (ut J (ut U (ui d (u1 aJ a1 im)) (ac im (ac im aq))) (ac (nr a) (ac (ni q.size s) aq))) g) (mG c 0 0 0 0 0 0 0 ((ah.mk b false 0).wordV) 0 0 0 (.slice (some ⟨bH,0,none⟩) 1 1) nS nS nS 0 0 0 0 0 nS) fun du cI bQ=>Pl 1<|nt<|rt<|bF cI (.int .i64 0)<|?_
 have hs:ae aX 0 c b=aF (aP.mk c 0 0 0 0 0 0 0 ((ah.mk b false 0).wordV) 0 0 0 [x70.wordV] [] [] [] 0 0 0 0 0 []) O:=by
   subst bG a7
   unfold ae aX cV cm
   (try simp only[r,z,L,a2,bs,if_true,if_false,decide_true,decide_false,eq_self,true_or,or_true,or_false,false_or,if_true,if_false,bZ,bX,cc,bY,reduceIte,fl,fk])
   all_goals rfl
 rw[hs]
 exact bj aM ⟨_,_,_,_,_,rfl,((ax H (us ab (us a1 bQ)) (fun x hx=>(aa (fun e=>(aA (ak T) (le (le (le (le (le (le (le k.size j.size) o.size) f.size) d.size) G.size) C.size) N.size) H) (e▸hx)) (aa (fun e=>(aA (ak E) (le (le (le (le (le (le (le (le y.size k.size) j.size) o.size) f.size) d.size) G.size) C.size) N.size) H) (e▸hx)) (aa (fun e=>(aA (ak g) (le (le (le (le (le (le (le (le (le q.size y.size) k.size) j.size) o.size) f.size) d.size) G.size) C.size) N.size) H) (e▸hx)) ay)))) (fun _ _ h=>h))).rd,aK.nil ..,(fun _ _ _=>aK.nil ..),aK.nil ..,aK.nil ..,⟨(b8 (x:=c) (by omega)),(b8 (x:=0) (by omega)),(aB (x:=0) (by omega)),(aB (x:=0) (by omega)),(aB (x:=0) (by omega)),(aB (x:=0) (by omega)),(aB (x:=0) (by omega)),(aB (x:=0) (by omega)),(aB (x:=(ah.mk b false 0).wordV) (by omega)),(aB (x:=0) (by omega)),(aB (x:=0) (by omega)),(aB (x:=0) (by omega)),(b8 (x:=0) (by omega)),(b8 (x:=0) (by omega)),(b8 (x:=0) (by omega)),(b8 (x:=0) (by omega)),(b8 (x:=0) (by omega))⟩⟩ (ud bM bQ I)
 have cd:=ap z
 refine sg<|Pl 3<|nt<|c1<|sk<|bn<|tn<|sg<|Pl 1<|?_
 have cJ:RC w _ A cp b b9 D (ah.mk b false 0):=⟨hsl,a6,(Nat.le_trans i.size a),⟨0,(ub an E),Nat.zero_le _,rfl⟩,by omega⟩
 refine L0<|Oc<|m2 (dX cJ) fun dv aO af=>nt<|sq<|sg<|Pl 3<|L0<|e8 (p:=⟨D,3,none⟩) (v:=.int .i64 (((ah.mk b false 0).endC).e)) (RC.fld aO)<|Pl 1<|nt<|?_
 have bR:=ud a6 af (le i.size a)
 refine cb (((((ah.mk b false 0).endC).e)!=0)) (fun a4=>?_) (fun a4=>?_)
 have aQ:=au a4
 refine sq<|Rg 7 (fun w'=>w'.cell? ⟨D,3,none⟩=some (.int .i64 (((ah.mk b false 0).endC).e))) fun dw ag=>?_
 have bT:=RC.upd aO ag ay (aE.step (RC.u aO) ag)
 refine bh (RC.fld bT) fun a5=>Rt 0 a5<|Rt 1 a5<|Rt 2 a5<|Rt 3 a5<|Rl 4 a5 (fun _ hs=>hs)<|?_
 refine R0 5 rfl<|b6 (ub (ud J (aI af ag) a) g) mZ fun dy cK bU=>?_
 have bV:=ud bR (uz ag bU) I
 refine bh (RC.fld (RC.upd bT bU (aa (Ne.symm (nb (ak g) lr a)) ay) bV)) fun cL=>Rt 6 cL<|re<|tn<|rt<|tr<|bF cK (.int .i64 (((ah.mk b false 0).endC).e))<|?_
 have hs:ae aX 0 c b=aF (aP.mk c 0 0 0 0 0 0 0 0 0 0 0 [] [] [] [] 0 0 0 0 0 []) (ah.mk b false 0):=by
   unfold ae aX cV cm
   (try simp only[r,z,a4,bs,if_true,if_false,decide_true,decide_false,eq_self,true_or,or_true,or_false,false_or,if_true,if_false,bZ,bX,cc,bY,reduceIte,fl,fk])
   all_goals rfl
 rw[hs]
 exact bg aQ bV
 have aQ:=ai a4
 refine bq<|sg<|?_
 refine L0<|ch (aT af (Ne.symm (nb (ak E) lr s)) ba)<|?_
 refine L0<|b6 (ub (ud J af a) g) (mC c) fun dz cN cO=>Pl 1<|nt<|rt<|bF cN (.int .i64 0)<|?_
 have hs:ae aX 0 c b=aF (aP.mk c 0 0 0 0 0 0 0 0 0 0 0 [] [] [] [] 0 0 0 0 0 []) (ah.mk b false 0):=by
   unfold ae aX cV cm
   (try simp only[r,z,a4,bs,if_true,if_false,decide_true,decide_false,eq_self,true_or,or_true,or_false,false_or,if_true,if_false,bZ,bX,cc,bY,reduceIte,fl,fk])
   all_goals rfl
 rw[hs]
 exact bj aQ ⟨_,_,_,_,_,rfl,aK.nil ..,aK.nil ..,(fun _ _ _=>aK.nil ..),aK.nil ..,aK.nil ..,⟨(b8 (x:=c) (by omega)),(b8 (x:=0) (by omega)),(aB (x:=0) (by omega)),(aB (x:=0) (by omega)),(aB (x:=0) (by omega)),(aB (x:=0) (by omega)),(aB (x:=0) (by omega)),(aB (x:=0) (by omega)),(aB (x:=0) (by omega)),(aB (x:=0) (by omega)),(aB (x:=0) (by omega)),(aB (x:=0) (by omega)),(b8 (x:=0) (by omega)),(b8 (x:=0) (by omega)),(b8 (x:=0) (by omega)),(b8 (x:=0) (by omega)),(b8 (x:=0) (by omega))⟩⟩ (ud bR cO I)
theorem kj{m:Md}{A:Option Addr}{cp:Nat}{b:List Int}{w:World}{c:Int}(hcode:B8 c)(hsl:b7 m w (.slice A b.length cp) b)(hb:b.length≤1048576) :
    Calls Tryz.prog 95 #[.int .i64 1,.int .u8 c,.slice A b.length cp] w (dc (.slice A b.length cp) b (ae aX 1 c b) w):=by
 obtain⟨hcode1,hcode2⟩:=hcode
 have hln:(b.length:Int)≤1048576:=by omega
 refine en 197 Tryz.func95 rfl<|sg<|L0<|bI mZ fun fz fA B i d=>Pl 1<|nt<|sq<|sg<|Pl 6<|nt<|c0<|?_
 refine bq<|sq<|sg<|Pl 3<|cu 3 [24] 27 (((c != 7)&&(c != 8))) (fun K c2=>?_) ?_
 refine bl 24 ((c != 7)) (fun a0=>?_) (fun a0=>?_)
 have dL:=au a0
 exact Pl 3<|ce c2 (c != 8) (by rw[a0];rfl)
 have dL:=ai a0
 exact Pl 3<|ce c2 false (by rw[a0];rfl)
 refine Pl 1<|cu 3 [28] 31 ((((c != 7)&&(c != 8))&&(c != 11))) (fun K c3=>?_) ?_
 refine bl 28 (((c != 7)&&(c != 8))) (fun a1=>?_) (fun a1=>?_)
 have dM:=(aS a1).1
 have dN:=(aS a1).2
 have fB:=au dM
 have fC:=au dN
 exact Pl 3<|ce c3 (c != 11) (by rw[a1];rfl)
 exact Pl 3<|ce c3 false (by rw[a1];rfl)
 refine Pl 1<|cu 3 [32] 35 (((((c != 7)&&(c != 8))&&(c != 11))&&(c != 12))) (fun K c4=>?_) ?_
 refine bl 32 ((((c != 7)&&(c != 8))&&(c != 11))) (fun a2=>?_) (fun a2=>?_)
 have c5:=(aS a2).1
 have dO:=(aS a2).2
 have dP:=(aS c5).1
 have dQ:=(aS c5).2
 have q19aap:=au dP
 have q19abp:=au dQ
 have fD:=au dO
 exact Pl 3<|ce c4 (c != 12) (by rw[a2];rfl)
 exact Pl 3<|ce c4 false (by rw[a2];rfl)
 refine Pl 1<|cu 3 [36] 39 ((((((c != 7)&&(c != 8))&&(c != 11))&&(c != 12))&&(c != 17))) (fun K c6=>?_) ?_
 refine bl 36 (((((c != 7)&&(c != 8))&&(c != 11))&&(c != 12))) (fun a3=>?_) (fun a3=>?_)
 have c7:=(aS a3).1
 have dR:=(aS a3).2
 have c8:=(aS c7).1
 have dS:=(aS c7).2
 have q21aaa:=(aS c8).1
 have q21aab:=(aS c8).2
 have q21aaap:=au q21aaa
 have q21aabp:=au q21aab
 have q21abp:=au dS
 have fE:=au dR
 exact Pl 3<|ce c6 (c != 17) (by rw[a3];rfl)
 exact Pl 3<|ce c6 false (by rw[a3];rfl)
 refine nt<|cb ((((((c != 7)&&(c != 8))&&(c != 11))&&(c != 12))&&(c != 17))) (fun q=>?_) (fun q=>?_)
 have bd:=(aS q).1
 have c9:=(aS q).2
 have be:=(aS bd).1
 have ca:=(aS bd).2
 have q23aaa:=(aS be).1
 have q23aab:=(aS be).2
 have q23aaaa:=(aS q23aaa).1
 have q23aaab:=(aS q23aaa).2
 have q23aaaap:=au q23aaaa
 have q23aaabp:=au q23aaab
 have q23aabp:=au q23aab
 have q23abp:=au ca
 have fF:=au c9
 refine sg<|Pl 1<|L0<|b6 i mZ fun fG dT dU=>Pl 1<|nt<|rt<|tr<|bF dT (.int .i64 4)<|?_
 have hs:ae aX 1 c b=(aP.zero,4):=by
   unfold ae aX cV cm
   (try simp only[q,bd,be,q23aaa,q23aaaa,q23aaab,q23aab,ca,c9,bs,if_true,if_false,decide_true,decide_false,eq_self,true_or,or_true,or_false,false_or,if_true,if_false,bZ,bX,cc,bY,reduceIte,fl,fk])
   all_goals rfl
 rw[hs]
 exact bt (ud d dU B)
 refine bq<|sg<|Pl 2<|L0<|dx #[.slice A b.length cp,.int .i64 0,.bool false,.int .i64 0] fun o fH a t g=>Pl 1<|ng<|Pl 2<|L0<|bI mZ fun fI fJ f a4 L=>L0<|b6 a4 (mC c) fun a5 a6 C=>?_
 refine nt<|sq<|bk<|sg<|Pl 3<|nt<|?_
 have X:=ud L C f
 have D:=aI g X
 have I:=aI d D
 refine cb ((c==8)) (fun r=>?_) (fun r=>?_)
 have dV:=al r
 refine sg<|Pl 1<|?_
 have dW:RC w _ A cp b a5 o (ah.mk b false 0):=⟨hsl,I,(Nat.le_trans d.size a),⟨0,(ub X t),Nat.zero_le _,rfl⟩,by omega⟩
 refine L0<|Oc<|m3 (cM dW) fun fK dY y fL=>Pl 1<|?_
 have J:=nb (ak t) lr f
 refine L0<|bS (aT y (Ne.symm J) a6) 8 (mG c 0 0 0 0 0 0 0 ((ah.mk b false 0).wordV) 0 0 0 nS nS nS nS 0 0 0 0 0 nS) fun e0 bf E=>ng<|Pl 1<|L0<|aR bf 8<|L0<|Oc<|m1 (v6 (x:=(ah.mk b false 0).wordV) (w:=e0) (by omega)) fun fM s=>Pl 1<|ng<|Pl 3<|cu 8 [72] 80 (((dZ ((ah.mk b false 0).wordV))&&(((ah.mk b false 0).wordV)!=4))) (fun K cd=>?_) ?_
 refine bl 72 ((dZ ((ah.mk b false 0).wordV))) (fun bi=>?_) (fun bi=>?_)
 refine Pl 1<|?_
 refine L1<|aR (ub s bf) 8<|Pl 2<|cu 3 [76] 79 ((((ah.mk b false 0).wordV)!=4)) (fun K cf=>?_) ?_
 refine bl 76 ((((ah.mk b false 0).wordV)!=4)) (fun a7=>?_) (fun a7=>?_)
 have e1:=au a7
 exact Pl 3<|ce cf true a7
 have e1:=ai a7
 exact Pl 3<|ce cf false a7
 exact Pl 1<|ce cd (((ah.mk b false 0).wordV)!=4) (by rw[bi];rfl)
 exact Pl 8<|ce cd false (by rw[bi];rfl)
 have cg:=aI E s
 have a8:=us y cg
 have ci:=ut I a8 (ac (ni d.size a) (ac (ni (le d.size g.size) f) aq))
 refine L0<|Oc<|m2 (aV (((dZ ((ah.mk b false 0).wordV))&&(((ah.mk b false 0).wordV)!=4))) 8 (RC.upd dY cg (aa J ay) ci)) fun fN e2 j=>?_
 refine fd e2 fun x70 aU a9=>?_
 refine nt<|sq<|sg<|Pl 1<|?_
 have bm:=aT (uz s j) (Ne.symm J) bf
 refine L0<|aR bm 8<|Pl 1<|nt<|?_
 have cj:=ud ci j (le d.size a)
 refine cb ((((ah.mk b false 0).wordV)==0)) (fun T=>?_) (fun T=>?_)
 have e3:=al T
 refine sg<|Pl 1<|L0<|Oc<|m1 (gF a9) fun fO M=>?_
 have fP:=RC.clen a9
 refine Pl 1<|ng<|Pl 2<|L0<|Oe (.int .i64 (Int.tmod ((x70.l.length:Nat) : Int) 2)) (.int .i64 (((x70.l.length:Nat) : Int)%2)) (congrArg (Value.int .i64) (Int.tmod_eq_emod_of_nonneg (by omega)))<|Pl 2<|cu 3 [91] 94 ((((((x70.l.length:Nat) : Int)%2)==0)&&(decide (2≤((x70.l.length:Nat) : Int))))) (fun K ck=>?_) ?_
 refine bl 91 (((((x70.l.length:Nat) : Int)%2)==0)) (fun ab=>?_) (fun ab=>?_)
 have e4:=al ab
 exact Pl 3<|ce ck (decide (2≤((x70.l.length:Nat) : Int))) (by rw[ab];rfl)
 have e4:=ap ab
 exact Pl 3<|ce ck false (by rw[ab];rfl)
 refine Pl 1<|cu 3 [95] 98 (((((((x70.l.length:Nat) : Int)%2)==0)&&(decide (2≤((x70.l.length:Nat) : Int))))&&(decide (((x70.l.length:Nat) : Int)≤250)))) (fun K cl=>?_) ?_
 refine bl 95 ((((((x70.l.length:Nat) : Int)%2)==0)&&(decide (2≤((x70.l.length:Nat) : Int))))) (fun ad=>?_) (fun ad=>?_)
 have e5:=(aS ad).1
 have e6:=(aS ad).2
 have fQ:=al e5
 have fR:=of_decide_eq_true e6
 exact Pl 3<|ce cl (decide (((x70.l.length:Nat) : Int)≤250)) (by rw[ad];rfl)
 exact Pl 3<|ce cl false (by rw[ad];rfl)
 refine L0<|Oc<|m2 (aV (((((((x70.l.length:Nat) : Int)%2)==0)&&(decide (2≤((x70.l.length:Nat) : Int))))&&(decide (((x70.l.length:Nat) : Int)≤250)))) 5 (RC.upd a9 M ay (aE.step (RC.u a9) M))) fun fS e7 U=>?_
 refine fd e7 fun x88 cn e9=>?_
 refine ng<|Pl 2<|L0<|Oe (.int .i64 (IntKind.i64.wrap (Int.tdiv ((x70.l.length:Nat) : Int) 2))) (.int .i64 (((x70.l.length:Nat) : Int)/2)) (congrArg (Value.int .i64) (fe (by omega) (by omega)))<|L0<|Oc<|lz (fp (n:=(((x70.l.length:Nat) : Int)/2)) (by omega) e9) fun co cq fT Q fU fV ea eb=>Pl 1<|?_
 have cr:=uz M (u1 U eb im)
 refine L0<|bS (aT cr (Ne.symm J) bm) 12 (mG c 0 0 0 0 0 0 0 ((ah.mk b false 0).wordV) 0 0 0 (.slice co ((x88.wordsR (((x70.l.length:Nat) : Int)/2)).length) cq) nS nS nS 0 0 0 0 0 nS) fun fW ed aW=>nt<|xt<|tx<|bx<|tn<|sg<|Pl 1<|?_
 have bo:=us cr aW
 have cs:=ut cj bo (ac (ni d.size a) (ac (ni (le d.size g.size) f) aq))
 refine L0<|Oc<|m2 (dX (RC.upd ea aW (aa J ay) cs)) fun fX bp af=>nt<|sq<|sg<|Pl 3<|L0<|e8 (p:=⟨o,3,none⟩) (v:=.int .i64 (((x88.wordsC (((x70.l.length:Nat) : Int)/2)).endC).e)) (RC.fld bp)<|Pl 1<|nt<|?_
 have ct:=ud cs af (le d.size a)
 refine cb (((((x88.wordsC (((x70.l.length:Nat) : Int)/2)).endC).e)!=0)) (fun ag=>?_) (fun ag=>?_)
 have br:=au ag
 refine sq<|Rg 7 (fun w'=>w'.cell? ⟨o,3,none⟩=some (.int .i64 (((x88.wordsC (((x70.l.length:Nat) : Int)/2)).endC).e))) fun fY aY=>?_
 have cv:=RC.upd bp aY ay (aE.step (RC.u bp) aY)
 refine bh (RC.fld cv) fun aj=>Rt 0 aj<|Rt 1 aj<|Rt 2 aj<|Rt 3 aj<|Rl 4 aj (fun _ hs=>hs)<|?_
 have cw:=aI af aY
 refine R0 5 rfl<|b6 (ub (ut D (ut a8 (ui j (u1 bo cw im)) (ac im (ac im aq))) (ac (nr a) (ac (ni g.size f) aq))) i) mZ fun fZ ee bu=>?_
 have cx:=ud ct (uz aY bu) B
 refine bh (RC.fld (RC.upd cv bu (aa (Ne.symm (nb (ak i) lr a)) ay) cx)) fun ef=>Rt 6 ef<|re<|tn<|rt<|tr<|bF ee (.int .i64 (((x88.wordsC (((x70.l.length:Nat) : Int)/2)).endC).e))<|?_
 have g0:=ax Q (us aW (us cw bu)) (fun x hx=>(aa (fun e=>(aA (ak a4) (le (le (le (le (le (le C.size y.size) E.size) s.size) j.size) M.size) U.size) Q) (e▸hx)) (aa (fun e=>(aA (ak t) (le (le (le (le (le (le (le L.size C.size) y.size) E.size) s.size) j.size) M.size) U.size) Q) (e▸hx)) (aa (fun e=>(aA (ak i) (le (le (le (le (le (le (le (le g.size L.size) C.size) y.size) E.size) s.size) j.size) M.size) U.size) Q) (e▸hx)) ay)))) (fun _ _ h=>h)
 have hs:ae aX 1 c b=aF (aP.mk c 0 0 0 0 0 0 0 ((ah.mk b false 0).wordV) 0 0 0 (x88.wordsR (((x70.l.length:Nat) : Int)/2)) [] [] [] 0 0 0 0 0 []) (x88.wordsC (((x70.l.length:Nat) : Int)/2)):=by
   subst cn aU
   unfold ae aX cV cm
   (try simp only[q,r,T,ag,bs,if_true,if_false,decide_true,decide_false,eq_self,true_or,or_true,or_false,false_or,if_true,if_false,bZ,bX,cc,bY,reduceIte,fl,fk])
   all_goals rfl
 rw[hs]
 exact bg br cx
 have br:=ai ag
 refine bq<|sg<|?_
 refine L0<|ch (aT af (Ne.symm J) ed)<|?_
 refine L0<|b6 (ub (ut D (ut a8 (ui j (u1 bo af im)) (ac im (ac im aq))) (ac (nr a) (ac (ni g.size f) aq))) i) (mG c 0 0 0 0 0 0 0 ((ah.mk b false 0).wordV) 0 0 0 (.slice co ((x88.wordsR (((x70.l.length:Nat) : Int)/2)).length) cq) nS nS nS 0 0 0 0 0 nS) fun g1 eg cy=>Pl 1<|nt<|rt<|bF eg (.int .i64 0)<|?_
 have hs:ae aX 1 c b=aF (aP.mk c 0 0 0 0 0 0 0 ((ah.mk b false 0).wordV) 0 0 0 (x88.wordsR (((x70.l.length:Nat) : Int)/2)) [] [] [] 0 0 0 0 0 []) (x88.wordsC (((x70.l.length:Nat) : Int)/2)):=by
   subst cn aU
   unfold ae aX cV cm
   (try simp only[q,r,T,ag,bs,if_true,if_false,decide_true,decide_false,eq_self,true_or,or_true,or_false,false_or,if_true,if_false,bZ,bX,cc,bY,reduceIte,fl,fk])
   all_goals rfl
 rw[hs]
 exact bj br ⟨_,_,_,_,_,rfl,((ax Q (us aW (us af cy)) (fun x hx=>(aa (fun e=>(aA (ak a4) (le (le (le (le (le (le C.size y.size) E.size) s.size) j.size) M.size) U.size) Q) (e▸hx)) (aa (fun e=>(aA (ak t) (le (le (le (le (le (le (le L.size C.size) y.size) E.size) s.size) j.size) M.size) U.size) Q) (e▸hx)) (aa (fun e=>(aA (ak i) (le (le (le (le (le (le (le (le g.size L.size) C.size) y.size) E.size) s.size) j.size) M.size) U.size) Q) (e▸hx)) ay)))) (fun _ _ h=>h))).rd,aK.nil ..,(fun _ _ _=>aK.nil ..),aK.nil ..,aK.nil ..,⟨(b8 (x:=c) (by omega)),(b8 (x:=0) (by omega)),(aB (x:=0) (by omega)),(aB (x:=0) (by omega)),(aB (x:=0) (by omega)),(aB (x:=0) (by omega)),(aB (x:=0) (by omega)),(aB (x:=0) (by omega)),(aB (x:=(ah.mk b false 0).wordV) (by omega)),(aB (x:=0) (by omega)),(aB (x:=0) (by omega)),(aB (x:=0) (by omega)),(b8 (x:=0) (by omega)),(b8 (x:=0) (by omega)),(b8 (x:=0) (by omega)),(b8 (x:=0) (by omega)),(b8 (x:=0) (by omega))⟩⟩ (ud ct cy B)
 have e3:=ap T
 refine bq<|sg<|Pl 1<|L0<|Oc<|m3 (cM a9) fun eh cz R g2=>Pl 1<|ng<|Pl 3<|?_
 have cA:=aT R (Ne.symm J) bm
 refine L0<|aR cA 8<|Pl 1<|L0<|Oc<|m1 (vv (dir:=1) (sub:=(ah.mk b false 0).wordV) (v:=x70.wordV) (w:=eh) (by omega)) fun g3 N=>?_
 refine L0<|Oc<|m2 (aV ((eL 1 ((ah.mk b false 0).wordV) x70.wordV)) 6 (RC.upd cz N ay (aE.step (RC.u cz) N))) fun g4 ei V=>?_
 refine fd ei fun Y cB ej=>?_
 refine nt<|go<|Pl 1<|L0<|dA (m:=1) (e:=24) #[.int .u16 x70.wordV] fun cC g5 ek el cD=>?_
 have S:=ec ek (xs:=[x70.wordV]) (by as_aux_lemma=>kernel_rfl) (az (by omega) aZ) (by(try simp only[List.length_cons,List.length_nil]);omega) el
 refine Pl 1<|?_
 have cE:=uz N (aI V cD)
 refine L0<|bS (aT cE (Ne.symm J) cA) 12 (mG c 0 0 0 0 0 0 0 ((ah.mk b false 0).wordV) 0 0 0 (.slice (some ⟨cC,0,none⟩) 1 1) nS nS nS 0 0 0 0 0 nS) fun g6 em b0=>nl<|bn<|tn<|sg<|Pl 1<|?_
 have bv:=ui R (us cE b0)
 have cF:=ut cj bv (ac (ni d.size a) (ac (ni (le d.size g.size) f) aq))
 refine L0<|Oc<|m2 (dX (RC.upd ej (uz cD b0) (aa J ay) cF)) fun g7 bw am=>nt<|sq<|sg<|Pl 3<|L0<|e8 (p:=⟨o,3,none⟩) (v:=.int .i64 Y.endC.e) (RC.fld bw)<|Pl 1<|nt<|?_
 have cG:=ud cF am (le d.size a)
 refine cb ((Y.endC.e != 0)) (fun an=>?_) (fun an=>?_)
 have bz:=au an
 refine sq<|Rg 7 (fun w'=>w'.cell? ⟨o,3,none⟩=some (.int .i64 Y.endC.e)) fun g8 b1=>?_
 have cH:=RC.upd bw b1 ay (aE.step (RC.u bw) b1)
 refine bh (RC.fld cH) fun ao=>Rt 0 ao<|Rt 1 ao<|Rt 2 ao<|Rt 3 ao<|Rl 4 ao (fun _ hs=>hs)<|?_
 have cI:=aI am b1
 refine R0 5 rfl<|b6 (ub (ut D (ut a8 (ui j (u1 bv cI im)) (ac im (ac im aq))) (ac (nr a) (ac (ni g.size f) aq))) i) mZ fun g9 eo bA=>?_
 have cJ:=ud cG (uz b1 bA) B
 refine bh (RC.fld (RC.upd cH bA (aa (Ne.symm (nb (ak i) lr a)) ay) cJ)) fun ep=>Rt 6 ep<|re<|tn<|rt<|tr<|bF eo (.int .i64 Y.endC.e)<|?_
 have ga:=ax S (us b0 (us cI bA)) (fun x hx=>(aa (fun e=>(aA (ak a4) (le (le (le (le (le (le (le C.size y.size) E.size) s.size) j.size) R.size) N.size) V.size) S) (e▸hx)) (aa (fun e=>(aA (ak t) (le (le (le (le (le (le (le (le L.size C.size) y.size) E.size) s.size) j.size) R.size) N.size) V.size) S) (e▸hx)) (aa (fun e=>(aA (ak i) (le (le (le (le (le (le (le (le (le g.size L.size) C.size) y.size) E.size) s.size) j.size) R.size) N.size) V.size) S) (e▸hx)) ay)))) (fun _ _ h=>h)
 have hs:ae aX 1 c b=aF (aP.mk c 0 0 0 0 0 0 0 ((ah.mk b false 0).wordV) 0 0 0 [x70.wordV] [] [] [] 0 0 0 0 0 []) Y:=by
   subst cB aU
   unfold ae aX cV cm
   (try simp only[q,r,T,an,bs,if_true,if_false,decide_true,decide_false,eq_self,true_or,or_true,or_false,false_or,if_true,if_false,bZ,bX,cc,bY,reduceIte,fl,fk])
   all_goals rfl
 rw[hs]
 exact bg bz cJ
 have bz:=ai an
 refine bq<|sg<|?_
 refine L0<|ch (aT am (Ne.symm J) em)<|?_
 refine L0<|b6 (ub (ut D (ut a8 (ui j (u1 bv am im)) (ac im (ac im aq))) (ac (nr a) (ac (ni g.size f) aq))) i) (mG c 0 0 0 0 0 0 0 ((ah.mk b false 0).wordV) 0 0 0 (.slice (some ⟨cC,0,none⟩) 1 1) nS nS nS 0 0 0 0 0 nS) fun gb eq cK=>Pl 1<|nt<|rt<|bF eq (.int .i64 0)<|?_
 have hs:ae aX 1 c b=aF (aP.mk c 0 0 0 0 0 0 0 ((ah.mk b false 0).wordV) 0 0 0 [x70.wordV] [] [] [] 0 0 0 0 0 []) Y:=by
   subst cB aU
   unfold ae aX cV cm
   (try simp only[q,r,T,an,bs,if_true,if_false,decide_true,decide_false,eq_self,true_or,or_true,or_false,false_or,if_true,if_false,bZ,bX,cc,bY,reduceIte,fl,fk])
   all_goals rfl
 rw[hs]
 exact bj bz ⟨_,_,_,_,_,rfl,((ax S (us b0 (us am cK)) (fun x hx=>(aa (fun e=>(aA (ak a4) (le (le (le (le (le (le (le C.size y.size) E.size) s.size) j.size) R.size) N.size) V.size) S) (e▸hx)) (aa (fun e=>(aA (ak t) (le (le (le (le (le (le (le (le L.size C.size) y.size) E.size) s.size) j.size) R.size) N.size) V.size) S) (e▸hx)) (aa (fun e=>(aA (ak i) (le (le (le (le (le (le (le (le (le g.size L.size) C.size) y.size) E.size) s.size) j.size) R.size) N.size) V.size) S) (e▸hx)) ay)))) (fun _ _ h=>h))).rd,aK.nil ..,(fun _ _ _=>aK.nil ..),aK.nil ..,aK.nil ..,⟨(b8 (x:=c) (by omega)),(b8 (x:=0) (by omega)),(aB (x:=0) (by omega)),(aB (x:=0) (by omega)),(aB (x:=0) (by omega)),(aB (x:=0) (by omega)),(aB (x:=0) (by omega)),(aB (x:=0) (by omega)),(aB (x:=(ah.mk b false 0).wordV) (by omega)),(aB (x:=0) (by omega)),(aB (x:=0) (by omega)),(aB (x:=0) (by omega)),(b8 (x:=0) (by omega)),(b8 (x:=0) (by omega)),(b8 (x:=0) (by omega)),(b8 (x:=0) (by omega)),(b8 (x:=0) (by omega))⟩⟩ (ud cG cK B)
 have dV:=ap r
 refine sg<|Pl 3<|nt<|c0<|sg<|Pl 3<|nt<|cb ((c==7)) (fun F=>?_) (fun F=>?_)
 have er:=al F
 refine go<|Pl 1<|?_
 have es:RC w _ A cp b a5 o (ah.mk b false 0):=⟨hsl,I,(Nat.le_trans d.size a),⟨0,(ub X t),Nat.zero_le _,rfl⟩,by omega⟩
 refine L0<|Oc<|m3 (dI es) fun gc et cL gd=>L0<|uw ((ah.mk b false 0).byteV)<|Pl 1<|?_
 have bB:=nb (ak t) lr f
 refine L0<|bS (aT cL (Ne.symm bB) a6) 4 (mG c 0 0 0 ((ah.mk b false 0).byteV) 0 0 0 0 0 0 0 nS nS nS nS 0 0 0 0 0 nS) fun ge eu cN=>nl<|bn<|tn<|sg<|Pl 1<|?_
 have bC:=us cL cN
 have cO:=ut I bC (ac (ni d.size a) (ac (ni (le d.size g.size) f) aq))
 refine L0<|Oc<|m2 (dX (RC.upd et cN (aa bB ay) cO)) fun gf bD b2=>nt<|sq<|sg<|Pl 3<|L0<|e8 (p:=⟨o,3,none⟩) (v:=.int .i64 ((((ah.mk b false 0).bytesC 1).endC).e)) (RC.fld bD)<|Pl 1<|nt<|?_
 have cP:=ud cO b2 (le d.size a)
 refine cb ((((((ah.mk b false 0).bytesC 1).endC).e)!=0)) (fun ar=>?_) (fun ar=>?_)
 have bE:=au ar
 refine sq<|Rg 7 (fun w'=>w'.cell? ⟨o,3,none⟩=some (.int .i64 ((((ah.mk b false 0).bytesC 1).endC).e))) fun gg b3=>?_
 have cQ:=RC.upd bD b3 ay (aE.step (RC.u bD) b3)
 refine bh (RC.fld cQ) fun av=>Rt 0 av<|Rt 1 av<|Rt 2 av<|Rt 3 av<|Rl 4 av (fun _ hs=>hs)<|?_
 refine R0 5 rfl<|b6 (ub (ut D (u1 bC (aI b2 b3) im) (ac (nr a) (ac (ni g.size f) aq))) i) mZ fun gh ev cR=>?_
 have cS:=ud cP (uz b3 cR) B
 refine bh (RC.fld (RC.upd cQ cR (aa (Ne.symm (nb (ak i) lr a)) ay) cS)) fun ew=>Rt 6 ew<|re<|tn<|rt<|tr<|bF ev (.int .i64 ((((ah.mk b false 0).bytesC 1).endC).e))<|?_
 have hs:ae aX 1 c b=aF (aP.mk c 0 0 0 ((ah.mk b false 0).byteV) 0 0 0 0 0 0 0 [] [] [] [] 0 0 0 0 0 []) ((ah.mk b false 0).bytesC 1):=by
   unfold ae aX cV cm
   (try simp only[q,r,F,ar,bs,if_true,if_false,decide_true,decide_false,eq_self,true_or,or_true,or_false,false_or,if_true,if_false,bZ,bX,cc,bY,reduceIte,fl,fk])
   all_goals rfl
 rw[hs]
 exact bg bE cS
 have bE:=ai ar
 refine bq<|sg<|?_
 refine L0<|ch (aT b2 (Ne.symm bB) eu)<|?_
 refine L0<|b6 (ub (ut D (u1 bC b2 im) (ac (nr a) (ac (ni g.size f) aq))) i) (mG c 0 0 0 ((ah.mk b false 0).byteV) 0 0 0 0 0 0 0 nS nS nS nS 0 0 0 0 0 nS) fun gi ex ey=>Pl 1<|nt<|rt<|bF ex (.int .i64 0)<|?_
 have hs:ae aX 1 c b=aF (aP.mk c 0 0 0 ((ah.mk b false 0).byteV) 0 0 0 0 0 0 0 [] [] [] [] 0 0 0 0 0 []) ((ah.mk b false 0).bytesC 1):=by
   unfold ae aX cV cm
   (try simp only[q,r,F,ar,bs,if_true,if_false,decide_true,decide_false,eq_self,true_or,or_true,or_false,false_or,if_true,if_false,bZ,bX,cc,bY,reduceIte,fl,fk])
   all_goals rfl
 rw[hs]
 exact bj bE ⟨_,_,_,_,_,rfl,aK.nil ..,aK.nil ..,(fun _ _ _=>aK.nil ..),aK.nil ..,aK.nil ..,⟨(b8 (x:=c) (by omega)),(b8 (x:=0) (by omega)),(aB (x:=0) (by omega)),(aB (x:=0) (by omega)),(aB (x:=(ah.mk b false 0).byteV) (by omega)),(aB (x:=0) (by omega)),(aB (x:=0) (by omega)),(aB (x:=0) (by omega)),(aB (x:=0) (by omega)),(aB (x:=0) (by omega)),(aB (x:=0) (by omega)),(aB (x:=0) (by omega)),(b8 (x:=0) (by omega)),(b8 (x:=0) (by omega)),(b8 (x:=0) (by omega)),(b8 (x:=0) (by omega)),(b8 (x:=0) (by omega))⟩⟩ (ud cP ey B)
 have er:=ap F
 refine sg<|Pl 3<|nt<|cb ((c==11)) (fun O=>?_) (fun O=>?_)
 have ez:=al O
 refine sg<|Pl 1<|?_
 have eA:RC w _ A cp b a5 o (ah.mk b false 0):=⟨hsl,I,(Nat.le_trans d.size a),⟨0,(ub X t),Nat.zero_le _,rfl⟩,by omega⟩
 refine L0<|Oc<|m3 (cM eA) fun gj eB cT gk=>Pl 1<|?_
 have aw:=nb (ak t) lr f
 refine L0<|bS (aT cT (Ne.symm aw) a6) 9 (mG c 0 0 0 0 0 0 0 0 ((ah.mk b false 0).wordV) 0 0 nS nS nS nS 0 0 0 0 0 nS) fun gl bG cU=>ng<|Pl 2<|L0<|aR bG 9<|Pl 2<|cu 4 [137] 141 (((((ah.mk b false 0).wordV)==0)||(((ah.mk b false 0).wordV)==65535))) (fun K cW=>?_) ?_
 refine bl 137 ((((ah.mk b false 0).wordV)==0)) (fun aC=>?_) (fun aC=>?_)
 have eC:=al aC
 exact Pl 4<|ce cW true (by rw[aC];rfl)
 have eC:=ap aC
 exact Pl 1<|L1<|aR bG 9<|Pl 2<|ce cW (((ah.mk b false 0).wordV)==65535) (by rw[aC];rfl)
 have bH:=us cT cU
 have cX:=ut I bH (ac (ni d.size a) (ac (ni (le d.size g.size) f) aq))
 refine L0<|Oc<|m2 (aV (((((ah.mk b false 0).wordV)==0)||(((ah.mk b false 0).wordV)==65535))) 6 (RC.upd eB cU (aa aw ay) cX)) fun gm eD eE=>?_
 refine fd eD fun G cY eF=>?_
 refine nt<|go<|Pl 1<|L0<|Oc<|m3 (cM eF) fun gn eG eH gp=>Pl 1<|?_
 have cZ:=u1 eE eH im
 refine L0<|bS (aT cZ (Ne.symm aw) bG) 10 (mG c 0 0 0 0 0 0 0 0 ((ah.mk b false 0).wordV) G.wordV 0 nS nS nS nS 0 0 0 0 0 nS) fun gq eI d0=>nl<|bn<|tn<|sg<|Pl 1<|?_
 have bJ:=us cZ d0
 have d1:=ut cX bJ (ac (ni d.size a) (ac (ni (le d.size g.size) f) aq))
 refine L0<|Oc<|m2 (dX (RC.upd eG d0 (aa aw ay) d1)) fun gr bK b4=>nt<|sq<|sg<|Pl 3<|L0<|e8 (p:=⟨o,3,none⟩) (v:=.int .i64 (((G.wordsC 1).endC).e)) (RC.fld bK)<|Pl 1<|nt<|?_
 have d2:=ud d1 b4 (le d.size a)
 refine cb (((((G.wordsC 1).endC).e)!=0)) (fun aD=>?_) (fun aD=>?_)
 have bL:=au aD
 refine sq<|Rg 7 (fun w'=>w'.cell? ⟨o,3,none⟩=some (.int .i64 (((G.wordsC 1).endC).e))) fun gs b5=>?_
 have d3:=RC.upd bK b5 ay (aE.step (RC.u bK) b5)
 refine bh (RC.fld d3) fun aG=>Rt 0 aG<|Rt 1 aG<|Rt 2 aG<|Rt 3 aG<|Rl 4 aG (fun _ hs=>hs)<|?_
 refine R0 5 rfl<|b6 (ub (ut D (ut bH (u1 bJ (aI b4 b5) im) (ac im (ac im aq))) (ac (nr a) (ac (ni g.size f) aq))) i) mZ fun gt eJ d4=>?_
 have d5:=ud d2 (uz b5 d4) B
 refine bh (RC.fld (RC.upd d3 d4 (aa (Ne.symm (nb (ak i) lr a)) ay) d5)) fun eK=>Rt 6 eK<|re<|tn<|rt<|tr<|bF eJ (.int .i64 (((G.wordsC 1).endC).e))<|?_
 have hs:ae aX 1 c b=aF (aP.mk c 0 0 0 0 0 0 0 0 ((ah.mk b false 0).wordV) G.wordV 0 [] [] [] [] 0 0 0 0 0 []) (G.wordsC 1):=by
   subst cY
   unfold ae aX cV cm
   (try simp only[q,r,F,O,aD,bs,if_true,if_false,decide_true,decide_false,eq_self,true_or,or_true,or_false,false_or,if_true,if_false,bZ,bX,cc,bY,reduceIte,fl,fk])
   all_goals rfl
 rw[hs]
 exact bg bL d5
 have bL:=ai aD
 refine bq<|sg<|?_
 refine L0<|ch (aT b4 (Ne.symm aw) eI)<|?_
 refine L0<|b6 (ub (ut D (ut bH (u1 bJ b4 im) (ac im (ac im aq))) (ac (nr a) (ac (ni g.size f) aq))) i) (mG c 0 0 0 0 0 0 0 0 ((ah.mk b false 0).wordV) G.wordV 0 nS nS nS nS 0 0 0 0 0 nS) fun gu eM eN=>Pl 1<|nt<|rt<|bF eM (.int .i64 0)<|?_
 have hs:ae aX 1 c b=aF (aP.mk c 0 0 0 0 0 0 0 0 ((ah.mk b false 0).wordV) G.wordV 0 [] [] [] [] 0 0 0 0 0 []) (G.wordsC 1):=by
   subst cY
   unfold ae aX cV cm
   (try simp only[q,r,F,O,aD,bs,if_true,if_false,decide_true,decide_false,eq_self,true_or,or_true,or_false,false_or,if_true,if_false,bZ,bX,cc,bY,reduceIte,fl,fk])
   all_goals rfl
 rw[hs]
 exact bj bL ⟨_,_,_,_,_,rfl,aK.nil ..,aK.nil ..,(fun _ _ _=>aK.nil ..),aK.nil ..,aK.nil ..,⟨(b8 (x:=c) (by omega)),(b8 (x:=0) (by omega)),(aB (x:=0) (by omega)),(aB (x:=0) (by omega)),(aB (x:=0) (by omega)),(aB (x:=0) (by omega)),(aB (x:=0) (by omega)),(aB (x:=0) (by omega)),(aB (x:=0) (by omega)),(aB (x:=(ah.mk b false 0).wordV) (by omega)),(aB (x:=G.wordV) (by omega)),(aB (x:=0) (by omega)),(b8 (x:=0) (by omega)),(b8 (x:=0) (by omega)),(b8 (x:=0) (by omega)),(b8 (x:=0) (by omega)),(b8 (x:=0) (by omega))⟩⟩ (ud d2 eN B)
 have ez:=ap O
 refine sg<|Pl 3<|nt<|cb ((c==12)) (fun W=>?_) (fun W=>?_)
 have eO:=al W
 refine sg<|Pl 1<|?_
 have eP:RC w _ A cp b a5 o (ah.mk b false 0):=⟨hsl,I,(Nat.le_trans d.size a),⟨0,(ub X t),Nat.zero_le _,rfl⟩,by omega⟩
 refine L0<|Oc<|m3 (dI eP) fun gv eQ eR gw=>L0<|Oi ((ah.mk b false 0).byteV)<|Pl 1<|ng<|Pl 4<|cu 3 [155] 158 (((decide (6≤((ah.mk b false 0).byteV)))&&(decide (((ah.mk b false 0).byteV)≤70)))) (fun K d6=>?_) ?_
 refine bl 155 ((decide (6≤((ah.mk b false 0).byteV)))) (fun aH=>?_) (fun aH=>?_)
 have eS:=of_decide_eq_true aH
 exact Pl 3<|ce d6 (decide (((ah.mk b false 0).byteV)≤70)) (by rw[aH];rfl)
 have eS:=of_decide_eq_false aH
 exact Pl 3<|ce d6 false (by rw[aH];rfl)
 refine L0<|Oc<|m2 (aV (((decide (6≤((ah.mk b false 0).byteV)))&&(decide (((ah.mk b false 0).byteV)≤70)))) 5 eQ) fun gx eT eU=>?_
 refine fd eT fun z d7 eV=>?_
 refine ng<|Pl 1<|L0<|Oc<|m3 (cM eV) fun gy eW eX gz=>Pl 1<|?_
 have d8:=u1 eR (u1 eU eX im) im
 have P:=nb (ak t) lr f
 refine L0<|bS (aT d8 (Ne.symm P) a6) 9 (mG c 0 0 0 0 0 0 0 0 z.wordV 0 0 nS nS nS nS 0 0 0 0 0 nS) fun gA bM d9=>ng<|Pl 2<|L0<|aR bM 9<|Pl 2<|cu 4 [167] 171 (((z.wordV==0)||(z.wordV==65535))) (fun K da=>?_) ?_
 refine bl 167 ((z.wordV==0)) (fun aJ=>?_) (fun aJ=>?_)
 have eY:=al aJ
 exact Pl 4<|ce da true (by rw[aJ];rfl)
 have eY:=ap aJ
 exact Pl 1<|L1<|aR bM 9<|Pl 2<|ce da (z.wordV==65535) (by rw[aJ];rfl)
 have bN:=us d8 d9
 have db:=ut I bN (ac (ni d.size a) (ac (ni (le d.size g.size) f) aq))
 refine L0<|Oc<|m2 (aV (((z.wordV==0)||(z.wordV==65535))) 6 (RC.upd eW d9 (aa P ay) db)) fun gB eZ f0=>?_
 refine fd eZ fun k dd f1=>?_
 refine ng<|Pl 1<|L0<|Oc<|m3 (cM f1) fun gC f2 f3 gD=>Pl 1<|?_
 have de:=u1 f0 f3 im
 refine L0<|bS (aT de (Ne.symm P) bM) 10 (mG c 0 0 0 0 0 0 0 0 z.wordV k.wordV 0 nS nS nS nS 0 0 0 0 0 nS) fun gE f4 df=>ng<|Pl 1<|?_
 have bO:=us de df
 have dg:=ut db bO (ac (ni d.size a) (ac (ni (le d.size g.size) f) aq))
 refine L0<|Oc<|m3 (cM (RC.upd f2 df (aa P ay) dg)) fun gG f5 dh gH=>Pl 1<|?_
 refine L0<|bS (aT dh (Ne.symm P) f4) 11 (mG c 0 0 0 0 0 0 0 0 z.wordV k.wordV ((k.wordsC 1).wordV) nS nS nS nS 0 0 0 0 0 nS) fun gI f7 di=>nt<|go<|Pl 2<|L0<|Oi (((ah.mk b false 0).byteV)-6)<|?_
 have bP:=us dh di
 have dj:=ut dg bP (ac (ni d.size a) (ac (ni (le d.size g.size) f) aq))
 have dk:=RC.upd f5 di (aa P ay) dj
 refine L0<|Oc<|nk (f6 (n:=(((ah.mk b false 0).byteV)-6)) (by omega) dk) fun dl dm gJ f8 f9 dn=>?_
 have gK:=Nat.le_trans (ah.bytesR_le ((k.wordsC 1).wordsC 1) (((ah.mk b false 0).byteV)-6)) (RC.clen dk)
 refine fd f9 fun Z dp fa=>?_
 refine Pl 1<|?_
 refine L0<|bS (aT dn (Ne.symm P) f7) 14 (mG c 0 0 0 0 0 0 0 0 z.wordV k.wordV ((k.wordsC 1).wordV) nS nS (.slice dl ((((k.wordsC 1).wordsC 1).bytesR (((ah.mk b false 0).byteV)-6)).length) dm) nS 0 0 0 0 0 nS) fun gL fb dq=>nl<|bn<|tn<|sg<|Pl 1<|?_
 have bQ:=us dn dq
 have dr:=ut dj bQ (ac (ni d.size a) (ac (ni (le d.size g.size) f) aq))
 refine L0<|Oc<|m2 (dX (RC.upd fa dq (aa P ay) dr)) fun gM bR b9=>nt<|sq<|sg<|Pl 3<|L0<|e8 (p:=⟨o,3,none⟩) (v:=.int .i64 Z.endC.e) (RC.fld bR)<|Pl 1<|nt<|?_
 have ds:=ud dr b9 (le d.size a)
 refine cb ((Z.endC.e != 0)) (fun aL=>?_) (fun aL=>?_)
 have bT:=au aL
 refine sq<|Rg 7 (fun w'=>w'.cell? ⟨o,3,none⟩=some (.int .i64 Z.endC.e)) fun gN ba=>?_
 have dt:=RC.upd bR ba ay (aE.step (RC.u bR) ba)
 refine bh (RC.fld dt) fun aM=>Rt 0 aM<|Rt 1 aM<|Rt 2 aM<|Rt 3 aM<|Rl 4 aM (fun _ hs=>hs)<|?_
 refine R0 5 rfl<|b6 (ub (ut D (ut bN (ut bO (ut bP (u1 bQ (aI b9 ba) im) (ac im (ac im aq))) (ac im (ac im aq))) (ac im (ac im aq))) (ac (nr a) (ac (ni g.size f) aq))) i) mZ fun gO fc du=>?_
 have dv:=ud ds (uz ba du) B
 refine bh (RC.fld (RC.upd dt du (aa (Ne.symm (nb (ak i) lr a)) ay) dv)) fun ff=>Rt 6 ff<|re<|tn<|rt<|tr<|bF fc (.int .i64 Z.endC.e)<|?_
 have hs:ae aX 1 c b=aF (aP.mk c 0 0 0 0 0 0 0 0 z.wordV k.wordV ((k.wordsC 1).wordV) [] [] (((k.wordsC 1).wordsC 1).bytesR (((ah.mk b false 0).byteV)-6)) [] 0 0 0 0 0 []) Z:=by
   subst dp dd d7
   unfold ae aX cV cm
   (try simp only[q,r,F,O,W,aL,bs,if_true,if_false,decide_true,decide_false,eq_self,true_or,or_true,or_false,false_or,if_true,if_false,bZ,bX,cc,bY,reduceIte,fl,fk])
   all_goals rfl
 rw[hs]
 exact bg bT dv
 have bT:=ai aL
 refine bq<|sg<|?_
 refine L0<|ch (aT b9 (Ne.symm P) fb)<|?_
 refine L0<|b6 (ub (ut D (ut bN (ut bO (ut bP (u1 bQ b9 im) (ac im (ac im aq))) (ac im (ac im aq))) (ac im (ac im aq))) (ac (nr a) (ac (ni g.size f) aq))) i) (mG c 0 0 0 0 0 0 0 0 z.wordV k.wordV ((k.wordsC 1).wordV) nS nS (.slice dl ((((k.wordsC 1).wordsC 1).bytesR (((ah.mk b false 0).byteV)-6)).length) dm) nS 0 0 0 0 0 nS) fun gP fg fh=>Pl 1<|nt<|rt<|bF fg (.int .i64 0)<|?_
 have hs:ae aX 1 c b=aF (aP.mk c 0 0 0 0 0 0 0 0 z.wordV k.wordV ((k.wordsC 1).wordV) [] [] (((k.wordsC 1).wordsC 1).bytesR (((ah.mk b false 0).byteV)-6)) [] 0 0 0 0 0 []) Z:=by
   subst dp dd d7
   unfold ae aX cV cm
   (try simp only[q,r,F,O,W,aL,bs,if_true,if_false,decide_true,decide_false,eq_self,true_or,or_true,or_false,false_or,if_true,if_false,bZ,bX,cc,bY,reduceIte,fl,fk])
   all_goals rfl
 rw[hs]
 exact bj bT ⟨_,_,_,_,_,rfl,aK.nil ..,aK.nil ..,f8,aK.nil ..,aK.nil ..,⟨(b8 (x:=c) (by omega)),(b8 (x:=0) (by omega)),(aB (x:=0) (by omega)),(aB (x:=0) (by omega)),(aB (x:=0) (by omega)),(aB (x:=0) (by omega)),(aB (x:=0) (by omega)),(aB (x:=0) (by omega)),(aB (x:=0) (by omega)),(aB (x:=z.wordV) (by omega)),(aB (x:=k.wordV) (by omega)),(aB (x:=(k.wordsC 1).wordV) (by omega)),(b8 (x:=0) (by omega)),(b8 (x:=0) (by omega)),(b8 (x:=0) (by omega)),(b8 (x:=0) (by omega)),(b8 (x:=0) (by omega))⟩⟩ (ud ds fh B)
 have eO:=ap W
 refine sg<|Pl 1<|?_
 have fi:RC w _ A cp b a5 o (ah.mk b false 0):=⟨hsl,I,(Nat.le_trans d.size a),⟨0,(ub X t),Nat.zero_le _,rfl⟩,by omega⟩
 refine L0<|Oc<|m3 (dI fi) fun gQ fj fm gR=>L0<|Oi ((ah.mk b false 0).byteV)<|Pl 1<|ng<|Pl 4<|cu 3 [52] 55 (((decide (1≤((ah.mk b false 0).byteV)))&&(decide (((ah.mk b false 0).byteV)≤251)))) (fun K dw=>?_) ?_
 refine bl 52 ((decide (1≤((ah.mk b false 0).byteV)))) (fun aN=>?_) (fun aN=>?_)
 have fn:=of_decide_eq_true aN
 exact Pl 3<|ce dw (decide (((ah.mk b false 0).byteV)≤251)) (by rw[aN];rfl)
 have fn:=of_decide_eq_false aN
 exact Pl 3<|ce dw false (by rw[aN];rfl)
 refine L0<|Oc<|m2 (aV (((decide (1≤((ah.mk b false 0).byteV)))&&(decide (((ah.mk b false 0).byteV)≤251)))) 5 fj) fun gS fo fq=>?_
 refine fd fo fun H dy dz=>?_
 refine nt<|go<|Pl 2<|L0<|Oc<|nk (f6 (n:=(ah.mk b false 0).byteV) (by omega) dz) fun dB dC gT fr fs ft=>?_
 have gU:=Nat.le_trans (ah.bytesR_le H ((ah.mk b false 0).byteV)) (RC.clen dz)
 refine Pl 1<|?_
 have dD:=u1 fm (u1 fq ft im) im
 have bU:=nb (ak t) lr f
 refine L0<|bS (aT dD (Ne.symm bU) a6) 14 (mG c 0 0 0 0 0 0 0 0 0 0 0 nS nS (.slice dB ((H.bytesR ((ah.mk b false 0).byteV)).length) dC) nS 0 0 0 0 0 nS) fun gV fu dE=>nl<|bn<|tn<|sg<|Pl 1<|?_
 have bV:=us dD dE
 have dF:=ut I bV (ac (ni d.size a) (ac (ni (le d.size g.size) f) aq))
 refine L0<|Oc<|m2 (dX (RC.upd fs dE (aa bU ay) dF)) fun gW bW bb=>nt<|sq<|sg<|Pl 3<|L0<|e8 (p:=⟨o,3,none⟩) (v:=.int .i64 (((H.bytesC ((ah.mk b false 0).byteV)).endC).e)) (RC.fld bW)<|Pl 1<|nt<|?_
 have dG:=ud dF bb (le d.size a)
 refine cb (((((H.bytesC ((ah.mk b false 0).byteV)).endC).e)!=0)) (fun aO=>?_) (fun aO=>?_)
 have c1:=au aO
 refine sq<|Rg 7 (fun w'=>w'.cell? ⟨o,3,none⟩=some (.int .i64 (((H.bytesC ((ah.mk b false 0).byteV)).endC).e))) fun gX bc=>?_
 have dH:=RC.upd bW bc ay (aE.step (RC.u bW) bc)
 refine bh (RC.fld dH) fun aQ=>Rt 0 aQ<|Rt 1 aQ<|Rt 2 aQ<|Rt 3 aQ<|Rl 4 aQ (fun _ hs=>hs)<|?_
 refine R0 5 rfl<|b6 (ub (ut D (u1 bV (aI bb bc) im) (ac (nr a) (ac (ni g.size f) aq))) i) mZ fun gY fv dJ=>?_
 have dK:=ud dG (uz bc dJ) B
 refine bh (RC.fld (RC.upd dH dJ (aa (Ne.symm (nb (ak i) lr a)) ay) dK)) fun fw=>Rt 6 fw<|re<|tn<|rt<|tr<|bF fv (.int .i64 (((H.bytesC ((ah.mk b false 0).byteV)).endC).e))<|?_
 have hs:ae aX 1 c b=aF (aP.mk c 0 0 0 0 0 0 0 0 0 0 0 [] [] (H.bytesR ((ah.mk b false 0).byteV)) [] 0 0 0 0 0 []) (H.bytesC ((ah.mk b false 0).byteV)):=by
   subst dy
   unfold ae aX cV cm
   (try simp only[q,r,F,O,W,aO,bs,if_true,if_false,decide_true,decide_false,eq_self,true_or,or_true,or_false,false_or,if_true,if_false,bZ,bX,cc,bY,reduceIte,fl,fk])
   all_goals rfl
 rw[hs]
 exact bg c1 dK
 have c1:=ai aO
 refine bq<|sg<|?_
 refine L0<|ch (aT bb (Ne.symm bU) fu)<|?_
 refine L0<|b6 (ub (ut D (u1 bV bb im) (ac (nr a) (ac (ni g.size f) aq))) i) (mG c 0 0 0 0 0 0 0 0 0 0 0 nS nS (.slice dB ((H.bytesR ((ah.mk b false 0).byteV)).length) dC) nS 0 0 0 0 0 nS) fun gZ fx fy=>Pl 1<|nt<|rt<|bF fx (.int .i64 0)<|?_
 have hs:ae aX 1 c b=aF (aP.mk c 0 0 0 0 0 0 0 0 0 0 0 [] [] (H.bytesR ((ah.mk b false 0).byteV)) [] 0 0 0 0 0 []) (H.bytesC ((ah.mk b false 0).byteV)):=by
   subst dy
   unfold ae aX cV cm
   (try simp only[q,r,F,O,W,aO,bs,if_true,if_false,decide_true,decide_false,eq_self,true_or,or_true,or_false,false_or,if_true,if_false,bZ,bX,cc,bY,reduceIte,fl,fk])
   all_goals rfl
 rw[hs]
 exact bj c1 ⟨_,_,_,_,_,rfl,aK.nil ..,aK.nil ..,fr,aK.nil ..,aK.nil ..,⟨(b8 (x:=c) (by omega)),(b8 (x:=0) (by omega)),(aB (x:=0) (by omega)),(aB (x:=0) (by omega)),(aB (x:=0) (by omega)),(aB (x:=0) (by omega)),(aB (x:=0) (by omega)),(aB (x:=0) (by omega)),(aB (x:=0) (by omega)),(aB (x:=0) (by omega)),(aB (x:=0) (by omega)),(aB (x:=0) (by omega)),(b8 (x:=0) (by omega)),(b8 (x:=0) (by omega)),(b8 (x:=0) (by omega)),(b8 (x:=0) (by omega)),(b8 (x:=0) (by omega))⟩⟩ (ud dG fy B)
theorem ke{m:Md}{A:Option Addr}{cp:Nat}{b:List Int}{w:World}{dir c:Int}(hcode:B8 c)(hsl:b7 m w (.slice A b.length cp) b)(hb:b.length≤1048576)(hd:¬ (dir=0∨dir=1)) :
    Calls Tryz.prog 95 #[.int .i64 dir,.int .u8 c,.slice A b.length cp] w (dc (.slice A b.length cp) b (ae aX dir c b) w):=by
 obtain⟨hcode1,hcode2⟩:=hcode
 have hln:(b.length:Int)≤1048576:=by omega
 have e0:(dir != 0)=true:=by simp;omega
 have e1:(dir != 1)=true:=by simp;omega
 refine en 197 Tryz.func95 rfl<|sg<|L0<|bI mZ fun g h a d e=>Pl 1<|nt<|sq<|sg<|Pl 3<|sy 17 e0<|Pl 3<|nl<|?_
 refine tn<|ct e1<|sg<|Pl 1<|L0<|b6 d mZ fun i dy f=>Pl 1<|nt<|rt<|tr<|bF dy (.int .i64 1)<|?_
 have hs:ae aX dir c b=(aP.zero,1):=by
   unfold ae aX cV cm
   (try simp only[e0,e1,bs,if_true,if_false,decide_true,decide_false,eq_self,true_or,or_true,or_false,false_or,if_true,if_false,bZ,bX,cc,bY,reduceIte,hd,fl,fk])
   all_goals rfl
 rw[hs]
 exact bt (ud e f a)
open Go.RowKit
theorem dO{C:ah}{ok:Bool}{x:Int}(h:C.e≠0) : C.need ok x=C:=by
  unfold ah.need
  rw[if_neg fun k=>h k.1]
theorem ez{C:ah}{n:Int}(h:C.fails n=true) : (C.bytesC n).e≠0:=by
  unfold ah.bytesC
  rw[if_pos h]
  unfold ah.need
  split
  · exact(show(2:Int)≠0 from by decide)
  · rename_i k
    intro e
    exact k ⟨e,rfl⟩
theorem lT{C:ah}(h:(C.wordsR 1).length≠1) : (C.wordsC 1).e≠0:=by
  unfold ah.wordsR at h
  unfold ah.wordsC
  split
  · exact ez (by unfold ah.fails;simp)
  · rename_i hb
    rw[if_neg hb] at h
    by_cases hf:C.fails (2*1)=true
    · exact ez hf
    · exfalso
      apply h
      unfold ah.bytesR
      rw[if_neg hf]
      unfold ah.fails at hf
      simp only[Bool.or_eq_true,decide_eq_true_eq,not_or] at hf
      rcases e:C.l with _|⟨a,_|⟨b,t⟩⟩
      · rw[e] at hf;simp at hf
      · rw[e] at hf;simp at hf
      · show(cH [a,b]).length=1
        unfold cH
        rw[if_pos (by simp)]
        simp[cZ]
theorem ns{C:ah}(h:(C.wordsR 1).length=1) : [C.wordV]=C.wordsR 1:=by
  unfold ah.wordV
  rcases e:C.wordsR 1 with _|⟨a,_|⟨b,t⟩⟩
  · rw[e] at h;simp at h
  · rfl
  · rw[e] at h;simp at h
theorem ph{M M':aP}{C:ah}(h:C.e≠0) : aF M C=aF M' C:=by
  unfold aF
  have e:C.endC.e≠0:=by unfold ah.endC;rw[dO h];exact h
  rw[if_neg e,if_neg e]
theorem qg(dir:Int)(C:ah) : et dir C=eN dir C:=by
  unfold et eN
  rw[Bool.or_comm]
theorem pJ(dir c:Int)(C:ah) : aF (cV dir c C).2 (cV dir c C).1=aF (dW dir c C).2 (dW dir c C).1:=by
  unfold cV dW
  rw[qg]
  by_cases h0:C.wordV=0
  · rw[h0,if_pos (show((0:Int)==0)=true from rfl),if_neg (show ¬ ((0:Int)!=0)=true from by decide)]
  · rw[if_neg (by simpa using h0),if_pos (by simpa using h0)]
    by_cases h1:((eN dir C).wordsR 1).length=1
    · rw[ns h1,show((((eN dir C).wordsR 1).length:Int)==1)=true from by rw[h1];rfl,Bool.true_and]
      rfl
    · have k:=lT h1
      dsimp only
      rw[dO k,dO k]
      exact ph k
theorem jZ{f f':Int→Int→ah→Option (ah × aP)}{dir c:Int}{b:List Int}(h:∀ C,(dir=0∨dir=1)→(f dir c C=none∧f' dir c C=none)∨∃ r r',f dir c C=some r∧f' dir c C=some r'∧aF r.2 r.1=aF r'.2 r'.1) : ae f dir c b=ae f' dir c b:=by
  unfold ae
  split
  · rename_i hd
    rcases h ⟨b,false,0⟩ hd with⟨h1,h2⟩|⟨r,r',h1,h2,h3⟩
    · rw[h1,h2]
    · rw[h1,h2];exact h3
  · rfl
theorem lK(dir c:Int)(b:List Int) : ae aX dir c b=ae aM dir c b:=by
  refine jZ fun C hd=>?_
  unfold aX aM
  by_cases h8:c=8
  · subst h8
    exact .inr ⟨_,_,rfl,rfl,pJ dir 8 C⟩
  · by_cases h:c=7∨c=11∨c=12∨c=17
    · refine .inr ?_
      rw[if_neg (show ¬ (((((c != 7)&&(c != 8))&&(c != 11))&&(c != 12))&&(c != 17))=true from by rcases h with rfl | rfl | rfl | rfl<;>decide),if_neg (show ¬ (c==8)=true from by simpa using h8),if_neg (show ¬ (c==8)=true from by simpa using h8),if_pos (show(c==7 || c==11 || c==12 || c==17)=true from by rcases h with rfl | rfl | rfl | rfl<;>decide)]
      rcases hd with rfl|rfl
      · exact⟨_,_,rfl,rfl,rfl⟩
      · refine⟨_,_,rfl,rfl,?_⟩
        rcases h with rfl|rfl|rfl|rfl<;>rfl
    · refine .inl ?_
      rw[if_pos (show(((((c != 7)&&(c != 8))&&(c != 11))&&(c != 12))&&(c != 17))=true from by simp;omega),if_neg (show ¬ (c==8)=true from by simpa using h8),if_neg (show ¬ (c==7 || c==11 || c==12 || c==17)=true from by simp;omega)]
      exact⟨rfl,rfl⟩
end Go.Proofs.YtogbnemojakcpaaGreat
namespace Go.Proofs.YtogbnemojakcpaaGreat
def i5 (C:ah) : Prop:=∀ x,x∈C.l→0≤x∧x<256
theorem rX{C:ah}{ok:Bool}{x:Int}(hx:x≠0)(h:(C.need ok x).e=0) : C.e=0∧ok=true:=by
  unfold ah.need at h
  split at h
  · exact absurd h hx
  · rename_i hh
    refine⟨h,?_⟩
    cases ok
    · exact absurd ⟨h,rfl⟩ hh
    · rfl
theorem lX{C:ah}{n:Int}(h:(C.bytesC n).e=0) : C.e=0∧C.l=C.bytesR n++(C.bytesC n).l∧((C.bytesR n).length:Int)=n:=by
  unfold ah.bytesC at h ⊢
  unfold ah.bytesR
  split at h
  · exfalso
    unfold ah.need at h
    split at h
    · cases h
    · rename_i hh
      exact hh ⟨h,rfl⟩
  · rename_i hf
    rw[if_neg hf,if_neg hf]
    refine⟨h,(List.take_append_drop _ _).symm,?_⟩
    unfold ah.fails at hf
    simp only[Bool.or_eq_true,decide_eq_true_eq,not_or] at hf
    rw[List.length_take]
    omega
theorem jI:∀ (l:List Int),l.length%2=0→(∀ x,x∈l→0≤x∧x<256)→bf (cZ l)=l
  | [],_,_=>rfl
  | [_],h,_=>by simp at h
  | a :: b :: r,h,hr=>by
    have ha:=hr a (by simp)
    have hb:=hr b (by simp)
    simp only[cZ,bf]
    rw[jI r (by simp at h;omega) (fun x hx=>hr x (by simp[hx]))]
    congr 1
    · omega
    · congr 1
      omega
theorem tK{C:ah}{n:Int}(hr:i5 C)(h:(C.wordsC n).e=0) : C.e=0∧C.l=bf (C.wordsR n)++(C.wordsC n).l∧((C.wordsR n).length:Int)=n:=by
  unfold ah.wordsC at h ⊢
  unfold ah.wordsR
  split at h
  · obtain⟨_,_,h3⟩:=lX h
    omega
  · rename_i hb
    rw[if_neg hb,if_neg hb]
    obtain⟨h1,h2,h3⟩:=lX h
    have h4:(C.bytesR (2*n)).length%2=0:=by omega
    have h5:∀ x,x∈C.bytesR (2*n)→0≤x∧x<256:=fun x hx=>hr x (by rw[h2];exact List.mem_append_left _ hx)
    unfold cH
    rw[if_pos h4]
    refine⟨h1,by rw[jI _ h4 h5];exact h2,?_⟩
    rw[eS]
    omega
def o8 (C:ah)(l:List Int)(C':ah) : Prop:=i5 C→i5 C'∧(C'.e=0→C.e=0∧C.l=l++C'.l)
theorem o8.trans{A B C:ah}{l m:List Int}(h:o8 A l B)(k:o8 B m C) : o8 A (l++m) C:=fun hr=>by
  obtain⟨h1,h2⟩:=h hr
  obtain⟨k1,k2⟩:=k h1
  refine⟨k1,fun he=>?_⟩
  obtain⟨k3,k4⟩:=k2 he
  obtain⟨h3,h4⟩:=h2 k3
  exact⟨h3,by rw[h4,k4,List.append_assoc]⟩
theorem o8.refl(C:ah) : o8 C [] C:=fun hr=>⟨hr,fun he=>⟨he,rfl⟩⟩
theorem o8.need{A C:ah}{l:List Int}{ok:Bool}{x:Int}(h:o8 A l C)(hx:x≠0:=by decide) : o8 A l (C.need ok x):=fun hr=>by
  obtain⟨h1,h2⟩:=h hr
  refine⟨fun y hy=>h1 y (by rwa [ja] at hy),fun he=>?_⟩
  rw[ja]
  exact h2 (rX hx he).1
theorem o8.bytes{A C:ah}{l:List Int}(h:o8 A l C)(n:Int) : o8 A (l++C.bytesR n) (C.bytesC n):=h.trans fun hr=>⟨gR hr n,fun he=>⟨(lX he).1,(lX he).2.1⟩⟩
theorem o8.words{A C:ah}{l:List Int}(h:o8 A l C)(n:Int) : o8 A (l++bf (C.wordsR n)) (C.wordsC n):=h.trans fun hr=>⟨cI hr n,fun he=>⟨(tK hr he).1,(tK hr he).2.1⟩⟩
theorem gS{C:ah}(hr:i5 C) : 0≤C.byteV∧C.byteV<256:=by
  unfold ah.byteV
  rw[List.getD_eq_getElem?_getD]
  cases h:(C.bytesR 1)[0]? with
  | none=>simp
  | some x =>
    have hm:x∈C.bytesR 1:=List.mem_of_getElem? h
    have:x∈C.l:=by
      unfold ah.bytesR at hm
      split at hm
      · cases hm
      · exact List.mem_of_mem_take hm
    exact hr x this
theorem sL:∀ n:Nat,n<256→(((if ((n:Int)/2 ^ 0%2==1) then 1 else 0)+(if ((n:Int)/2 ^ 1%2==1) then 2 else 0)+(if ((n:Int)/2 ^ 2%2==1) then 4 else 0)+(if ((n:Int)/2 ^ 3%2==1) then 8 else 0)+(if ((n:Int)/2 ^ 4%2==1) then 16 else 0)+(if ((n:Int)/2 ^ 5%2==1) then 32 else 0)+(if ((n:Int)/2 ^ 6%2==1) then 64 else 0)+(if ((n:Int)/2 ^ 7%2==1) then 128 else 0) : Nat) : Int)=n:=by decide +kernel
theorem kg{x:Int}(hx:0≤x∧x<256)(f:Nat→Bool)(hf:∀ i,i<8→f i=(x/2 ^ i%2==1)) :
    (((if f 0 then 1 else 0)+(if f 1 then 2 else 0)+(if f 2 then 4 else 0)+(if f 3 then 8 else 0)+(if f 4 then 16 else 0)+(if f 5 then 32 else 0)+(if f 6 then 64 else 0)+(if f 7 then 128 else 0) : Nat) : Int)=x:=by
  rw[hf 0 (by decide),hf 1 (by decide),hf 2 (by decide),hf 3 (by decide),hf 4 (by decide),hf 5 (by decide),hf 6 (by decide),hf 7 (by decide)]
  obtain⟨n,rfl⟩:=Int.eq_ofNat_of_zero_le hx.1
  exact sL n (by omega)
theorem mb{b:List Int}{n:Int}{l:List Bool}(hr:∀ x,x∈b→0≤x∧x<256)(h:cg b n=some l) : cE l=b:=by
  unfold cg at h
  split at h
  · rename_i hc
    split at h
    · rename_i hall
      injection h with h
      subst h
      have hlen:((List.range n.toNat).map (cv b)).length=n.toNat:=by simp
      have hm:((List.range n.toNat).map (cv b)).length=n:=by rw[hlen];omega
      unfold cE
      rw[hm,← hc.2]
      apply List.ext_getElem
      · simp
      intro j h1 h2
      simp only[List.getElem_map,List.getElem_range]
      have hj:j<b.length:=h2
      have hget:∀ i,i<8*b.length→((List.range n.toNat).map (cv b)).getD i false=cv b i:=fun i hi=>by
        rw[List.getD_eq_getElem?_getD,List.getElem?_map]
        by_cases hin:i<n.toNat
        · rw[List.getElem?_range hin];rfl
        · rw[List.getElem?_eq_none (by simpa using hin)]
          rw[List.all_eq_true] at hall
          have:=hall i (by simpa using hi)
          simp only[Bool.or_eq_true,decide_eq_true_eq,Bool.not_eq_true'] at this
          rcases this with h3|h3
          · omega
          · simp[h3]
      have hx:∀ k,k<8→cv b (8*j+k)=(b[j]/2 ^ k%2==1):=fun k hk=>by
        unfold cv
        rw[show(8*j+k)/8=j from by omega,show(8*j+k)%8=k from by omega,List.getD_eq_getElem?_getD,List.getElem?_eq_getElem hj]
        rfl
      unfold bR
      rw[show(8*j:Nat)=8*j+0 from rfl]
      simp only[hget _ (show 8*j+0<8*b.length by omega),hget _ (show 8*j+0+1<8*b.length by omega),hget _ (show 8*j+0+2<8*b.length by omega),hget _ (show 8*j+0+3<8*b.length by omega),hget _ (show 8*j+0+4<8*b.length by omega),hget _ (show 8*j+0+5<8*b.length by omega),hget _ (show 8*j+0+6<8*b.length by omega),hget _ (show 8*j+0+7<8*b.length by omega)]
      exact kg (hr _ (List.getElem_mem hj)) (fun k=>cv b (8*j+k)) hx
    · cases h
  · cases h
end Go.Proofs.YtogbnemojakcpaaGreat
namespace Go.Proofs.YtogbnemojakcpaaGreat
end Go.Proofs.YtogbnemojakcpaaGreat
namespace Go.Proofs.YtogbnemojakcpaaGreat
end Go.Proofs.YtogbnemojakcpaaGreat
namespace Go.Proofs.YtogbnemojakcpaaGreat
def Sh (C C':ah) : Prop:=C'.l.length≤C.l.length
theorem Sh.refl(C:ah) : Sh C C:=Nat.le_refl _
theorem Sh.bytes{A C:ah}(h:Sh A C){n:Int}:Sh A (C.bytesC n):=Nat.le_trans (gN C n) h
theorem Sh.words{A C:ah}(h:Sh A C){n:Int}:Sh A (C.wordsC n):=Nat.le_trans (eq C n) h
theorem Sh.need{A C:ah}(h:Sh A C){b:Bool}{e:Int}:Sh A (C.need b e):=by unfold Sh;rw[eh];exact h
open Go.RowKit
theorem lI{n:Int}:dr n=if n<1 then 0 else n/8+(if 0<n%8 then 1 else 0):=by
  unfold dr
  split
  · rfl
  · split<;>omega
theorem jB(l:List Bool)(j:Nat) : bR (l.take (8*j)) j=0:=by
  have h:=kF l (8*j)
  rw[show 8*j/8=j from by omega,show 8*j%8=0 from by omega] at h
  omega
theorem iA{l:List Bool}{j t:Nat}(ht:t<8) : bR (l.take (8*j+t+1)) j=bR (l.take (8*j+t)) j+if l.getD (8*j+t) false=true then 2 ^ t else 0:=by
  rw[gj,show(8*j+t)/8=j from by omega,show(8*j+t)%8=t from by omega]
  simp
theorem qh{l:List Bool}{j t:Nat}(h:t=8∨l.length≤8*j+t) : bR (l.take (8*j+t)) j=bR l j:=by
  rcases h with rfl|h
  · unfold bR
    simp only[gz]
    simp
  · rw[List.take_of_length_le h]
theorem rI{l:List Bool}{j:Nat}(h1:l.length≤8*j)(h2:8*j<l.length+8) : (List.range j).map (fun i=>(bR l i:Int))=cE l:=by
  unfold cE
  rw[show(dr l.length).toNat=j from by unfold dr;split<;>omega]
theorem pK(l:List Bool) : ((cE l).length:Int)=dr l.length:=by
  unfold cE
  rw[List.length_map,List.length_range]
  unfold dr
  split<;>omega
theorem wa:∀ x0 x1 x2 x3 x4 x5 x6 x7:Bool,∀ t:Fin 8,(((((if x0=true then 1 else 0)+(if x1=true then 2 else 0)+(if x2=true then 4 else 0)+(if x3=true then 8 else 0)+(if x4=true then 16 else 0)+(if x5=true then 32 else 0)+(if x6=true then 64 else 0)+(if x7=true then 128 else 0) : Nat) : Int)/2 ^ t.val%2==1)=[x0,x1,x2,x3,x4,x5,x6,x7].getD t.val false):=by decide +kernel
theorem tY{l:List Bool}{j t:Nat}(ht:t<8) : ((bR l j:Int)/2 ^ t%2==1)=l.getD (8*j+t) false:=by
  have h:=wa (l.getD (8*j) false) (l.getD (8*j+1) false) (l.getD (8*j+2) false) (l.getD (8*j+3) false) (l.getD (8*j+4) false) (l.getD (8*j+5) false) (l.getD (8*j+6) false) (l.getD (8*j+7) false) ⟨t,ht⟩
  refine h.trans ?_
  rcases t with _|_|_|_|_|_|_|_|t
  case succ.succ.succ.succ.succ.succ.succ.succ=>omega
  all_goals rfl
theorem n0(l:List Bool) : cg (cE l) (l.length:Int)=some ((List.range l.length).map (cv (cE l))):=by
  have hl:=pK l
  unfold cg
  rw[if_pos ⟨by omega,hl⟩,if_pos,show((l.length:Int)).toNat=l.length from by omega]
  rw[List.all_eq_true]
  intro i hi
  have hi:i<8*(cE l).length:=by simpa using hi
  simp only[Bool.or_eq_true,decide_eq_true_eq,Bool.not_eq_true']
  by_cases h:(i:Int)<l.length
  · exact .inl h
  · refine .inr ?_
    have hj:i/8<(cE l).length:=by omega
    unfold cv
    have e:(cE l).getD (i/8) 0=(bR l (i/8) : Int):=by
      have hj2:i/8<(dr (l.length:Int)).toNat:=by omega
      unfold cE
      rw[List.getD_eq_getElem?_getD,List.getElem?_map,List.getElem?_range hj2]
      rfl
    rw[e,tY (Nat.mod_lt _ (by decide)),show 8*(i/8)+i%8=i from by omega,List.getD_eq_getElem?_getD,List.getElem?_eq_none (by omega)]
    rfl
theorem mI{b:List Int}{n:Int}(hr:∀ x,x∈b→0≤x∧x<256)(h0:0≤n) : cg b n=if cE ((List.range n.toNat).map (cv b))=b then some ((List.range n.toNat).map (cv b)) else none:=by
  by_cases h:cE ((List.range n.toNat).map (cv b))=b
  · rw[if_pos h]
    have k:=n0 ((List.range n.toNat).map (cv b))
    rw[h,List.length_map,List.length_range,show((n.toNat:Nat) : Int)=n from by omega] at k
    exact k
  · rw[if_neg h]
    cases e:cg b n with
    | none=>rfl
    | some l =>
      exfalso
      have k:=mb hr e
      unfold cg at e
      split at e
      · split at e
        · injection e with e;rw[e] at h;exact h k
        · cases e
      · cases e
open Go.RowKit
theorem v5{n:Int}{w:World}(hn : -1048576≤n∧n≤1048576) : Calls Tryz.prog 155 #[.int .i64 n] w (cT (.int .i64 (dr n)) w):=by
 refine en 14 Tryz.func155 rfl<|sg<|Pl 1<|nt<|sq<|sg<|Pl 2<|nt<|cb ((decide (n<1))) (fun a=>?_) (fun a=>?_)
 have c:=of_decide_eq_true a
 refine sg<|Pl 1<|nt<|rt<|tr<|rr (.int .i64 0)<|?_
 have hs:dr n=0:=by rw[lI];split<;>(try split)<;>omega
 rw[hs]
 exact⟨rfl,(aE.refl [] _)⟩
 have c:=of_decide_eq_false a
 refine bq<|sg<|Pl 1<|L0<|Oe (.int .i64 (IntKind.i64.wrap (Int.tdiv n 8))) (.int .i64 (n/8)) (congrArg (Value.int .i64) (fe (by omega) (by omega)))<|Pl 1<|nt<|sq<|sg<|Pl 1<|L0<|Oe (.int .i64 (Int.tmod n 8)) (.int .i64 (n%8)) (congrArg (Value.int .i64) (Int.tmod_eq_emod_of_nonneg (by omega)))<|?_
 refine Pl 1<|nt<|cb ((decide (0<(n%8)))) (fun b=>?_) (fun b=>?_)
 have d:=of_decide_eq_true b
 refine go<|Pl 1<|L0<|Oi ((n/8)+1)<|Pl 1<|ng<|Pl 2<|nt<|rt<|rr (.int .i64 ((n/8)+1))<|?_
 have hs:dr n=((n/8)+1):=by rw[lI];split<;>(try split)<;>omega
 rw[hs]
 exact⟨rfl,(aE.refl [] _)⟩
 have d:=of_decide_eq_false b
 refine bq<|sg<|Pl 2<|nt<|rt<|rr (.int .i64 (n/8))<|?_
 have hs:dr n=(n/8):=by rw[lI];split<;>(try split)<;>omega
 rw[hs]
 exact⟨rfl,(aE.refl [] _)⟩
theorem oQ(l:List Bool)(j t:Nat)(ht:t≤8) : bR (l.take (8*j+t)) j<2 ^ t:=by
  induction t with
  | zero=>rw[Nat.add_zero,jB];decide
  | succ t ih =>
    have h:=ih (by omega)
    rw[← Nat.add_assoc,iA (by omega),Nat.pow_succ]
    split<;>omega
theorem qZ{t:Nat}(ht:t≤8) : 2 ^ t≤256:=by
  rcases t with _|_|_|_|_|_|_|_|_|t
  case succ.succ.succ.succ.succ.succ.succ.succ.succ=>omega
  all_goals decide
theorem pS{l:List Bool}{j:Nat}(h1:¬ 8*j<l.length)(h2:8*j<l.length+8) : (List.range j).map (fun i=>(bR l i:Int))=cE l:=rI (by omega) h2
theorem qO{l:List Bool}{j t:Nat}{c:Int}(hc:c=(bR (l.take (8*j+t)) j:Int))(ht:t≤8)(h:t=8∨l.length≤8*j+t) : c%256=(bR l j:Int):=by
  have h1:=oQ l j t ht
  have h2:=qZ ht
  rw[qh h] at hc h1
  omega
theorem tP{m:Md}{A:Option Addr}{cp:Nat}{l:List Bool}{w:World}(h:gf m w (.slice A l.length cp) l)(hn:l.length≤1048576) : Calls Tryz.prog 216 #[.slice A l.length cp] w (qA l w):=by
 refine en 42 Tryz.func216 rfl<|sg<|Pl 1<|ng<|Pl 1<|nt<|sq<|sg<|?_
 refine Pl 1<|nt<|bk<|?_
 refine iu (fun x=>[(0,.slice A l.length cp),(2,.slice none 0 0),(3,.slice x.2.2.1 x.2.1.length x.2.2.2),(4,.int .i64 ((8*x.1:Nat) : Int))]) (fun(x:Nat × List Int × Option Addr × Nat) w'=>aE [] w w'∧fo w.heap.size w' (.slice x.2.2.1 x.2.1.length x.2.2.2) x.2.1∧(8*x.1<l.length+8)∧(x.2.1=(List.range x.1).map (fun i=>(bR l i:Int)))) (fun x=>l.length+8-8*x.1) (0,[],none,0) ⟨aE.refl _ _,(be.nil w.heap.size _ _ sY _),(by(try dsimp only);omega),rfl⟩ ?_
 rintro⟨j,L,B,cq⟩ r ⟨f,z,C,D⟩
 refine iv [(0,.slice A l.length cp),(2,.slice none 0 0),(3,.slice B L.length cq),(4,.int .i64 ((8*j:Nat) : Int))] ?_
 have g:fo w.heap.size r (.slice B L.length cq) L:=z
 have Z:8*j<l.length+8:=C
 have k:L=(List.range j).map (fun i=>(bR l i:Int)):=D
 have hLn:L.length=j:=by rw[k,List.length_map,List.length_range]
 refine sq<|sg<|Pl 4<|nt<|cb ((decide (((8*j:Nat) : Int)<((l.length:Nat) : Int)))) (fun n=>?_) (fun n=>?_)
 have E:=of_decide_eq_true n
 refine bq<|sq<|bk<|sg<|Pl 1<|ng<|Pl 1<|nt<|?_
 refine sq<|sg<|Pl 2<|nt<|bk<|?_
 refine iu (fun x=>[(0,.slice A l.length cp),(2,.slice none 0 0),(3,.slice B L.length cq),(4,.int .i64 ((8*j:Nat) : Int)),(5,.int .i64 x.2.1),(6,.int .i64 x.2.2),(7,.int .i64 ((8*j+x.1:Nat) : Int)),(8,.int .i64 ((8*j:Nat) : Int)),(9,.slice A l.length cp),(10,.int .i64 ((l.length:Nat) : Int)),(11,.bool (decide (((8*j:Nat) : Int)<((l.length:Nat) : Int)))),(14,.int .i64 ((8*j:Nat) : Int))]) (fun(x:Nat × Int × Int) w'=>aE [] r w'∧(x.1≤8)∧(x.2.1=(bR (l.take (8*j+x.1)) j:Int))∧(x.2.2=((2 ^ x.1:Nat) : Int))) (fun x=>8-x.1) (0,0,1) ⟨aE.refl _ _,(by(try dsimp only);omega),(by(try dsimp only);rw[Nat.add_zero,jB];rfl),rfl⟩ ?_
 rintro⟨t,c,u⟩ a0 ⟨a,F,G,H⟩
 refine iv [(0,.slice A l.length cp),(2,.slice none 0 0),(3,.slice B L.length cq),(4,.int .i64 ((8*j:Nat) : Int)),(5,.int .i64 c),(6,.int .i64 u),(7,.int .i64 ((8*j+t:Nat) : Int)),(8,.int .i64 ((8*j:Nat) : Int)),(9,.slice A l.length cp),(10,.int .i64 ((l.length:Nat) : Int)),(11,.bool (decide (((8*j:Nat) : Int)<((l.length:Nat) : Int)))),(14,.int .i64 ((8*j:Nat) : Int))] ?_
 have a1:t≤8:=F
 have I:c=(bR (l.take (8*j+t)) j:Int):=G
 have a2:u=((2 ^ t:Nat) : Int):=H
 have hpl:=oQ l j t (by omega)
 have hpp:=qZ (t:=t) (by omega)
 refine sq<|sg<|Pl 5<|cu 5 [19] 24 (((decide (((8*j+t:Nat) : Int)<((l.length:Nat) : Int)))&&(decide (((8*j+t:Nat) : Int)<(((8*j:Nat) : Int)+8))))) (fun K s=>?_) ?_
 refine bl 19 ((decide (((8*j+t:Nat) : Int)<((l.length:Nat) : Int)))) (fun b=>?_) (fun b=>?_)
 have J:=of_decide_eq_true b
 exact Pl 2<|L1<|Oi (((8*j:Nat) : Int)+8)<|Pl 2<|ce s (decide (((8*j+t:Nat) : Int)<(((8*j:Nat) : Int)+8))) (by rw[b];rfl)
 have J:=of_decide_eq_false b
 exact Pl 5<|ce s false (by rw[b];rfl)
 refine nt<|?_
 have y:=aI f a
 refine cb (((decide (((8*j+t:Nat) : Int)<((l.length:Nat) : Int)))&&(decide (((8*j+t:Nat) : Int)<(((8*j:Nat) : Int)+8))))) (fun d=>?_) (fun d=>?_)
 have M:=(aS d).1
 have N:=(aS d).2
 have a3:=of_decide_eq_true M
 have a4:=of_decide_eq_true N
 refine bq<|sq<|bk<|sq<|sg<|Pl 2<|?_
 refine vU (gf.at_ (gf.old h y) (8*j+t) (by omega)) fun O P Q R=>L0<|jO l.length (8*j+t) Q (by omega)<|L0<|e8 (p:=⟨O,P+(8*j+t),none⟩) (v:=.bool (l.getD (8*j+t) false)) R<|nt<|cb ((l.getD (8*j+t) false)) (fun o=>?_) (fun o=>?_)
 refine go<|Pl 2<|L0<|Oi (c+u)<|Pl 1<|nt<|go<|Pl 1<|L0<|Oi (2*u)<|Pl 1<|nl<|bn<|tn<|go<|?_
 exact Pl 1<|L0<|Oi (((8*j+t:Nat) : Int)+1)<|Pl 1<|nl<|fU ((t+1),(c+u),(2*u)) ⟨a,(by(try dsimp only);omega),(by(try dsimp only);rw[← Nat.add_assoc,iA (by omega),if_pos o];omega),(by(try dsimp only);rw[Nat.pow_succ];omega)⟩ (by omega)
 refine bq<|go<|Pl 1<|L0<|Oi (2*u)<|Pl 1<|nl<|bn<|tn<|go<|Pl 1<|L0<|Oi (((8*j+t:Nat) : Int)+1)<|Pl 1<|nl<|?_
 exact fU ((t+1),c,(2*u)) ⟨a,(by(try dsimp only);omega),(by(try dsimp only);rw[← Nat.add_assoc,iA (by omega),if_neg (by rw[o];decide)];omega),(by(try dsimp only);rw[Nat.pow_succ];omega)⟩ (by omega)
 refine xt<|tx<|tx<|bx<|tn<|go<|Pl 3<|L0<|dA (m:=1) (e:=5) #[.int .u8 (c%256)] fun a5 a6 S T q=>?_
 have U:=dT S (xs:=[(c%256)]) (by as_aux_lemma=>kernel_rfl) (az (by omega) aZ) (by(try simp only[List.length_cons,List.length_nil]);omega) T
 refine L0<|cO bv (xs:=L) (ys:=([(c%256)])) (.int .u8 0) 1 (ax g (aI a q) (fun x hx=>ay) (fun _ _ h=>h)) (U).rd (by(try simp only[List.length_append,List.length_cons,List.length_nil,aC]);omega) (le (le f.size a.size) q.size) fun V W a7 X Y=>Pl 1<|nl<|bn<|tn<|go<|Pl 1<|L0<|Oi (((8*j:Nat) : Int)+8)<|Pl 1<|nl<|?_
 exact fU ((j+1),(L++[(c%256)]),V,W) ⟨(ut y (ut (aE.mono (S':=(ob B++[])) q aq) Y (av il aq)) (av (aU g lr) aq)),X,(by(try dsimp only);omega),(by(try dsimp only);rw[k,List.range_succ,List.map_append];show _++[_]=_++[_];rw[qO I (by omega) (by have hq:=d;simp only[Bool.and_eq_false_iff,decide_eq_false_iff_not] at hq;omega)])⟩ (by omega)
 have E:=of_decide_eq_false n
 refine xt<|tx<|tx<|bx<|tn<|sg<|Pl 2<|nt<|rt<|rr (.slice B L.length cq)<|?_
 have hs:L=cE l:=by rw[k];exact pS (by omega) (by omega)
 exact⟨_,rfl,by rw[← hs];exact g,f⟩
theorem uS{m:Md}{v:Value}{l:List Bool}{w:World}(h:gf m w v l)(hn:l.length≤1048576) : Calls Tryz.prog 216 #[v] w (qA l w):=by
  obtain⟨A,c,rfl,_,_⟩:=h.shape
  exact tP h hn
theorem qx{P:Program}{w:World}{ev:Operand→Value}{o:Oper}{x y:Operand}{t t':TypeId}{a b:ByteArray}{v:Bool}(ho:o.op = .binOp .neq t x y t')(hx:ev x = .string a)(hy:ev y = .string b)(hv:(a.toList==b.toList)=v) : (execOp ev o).run P w = .ok (.value (.bool !v)) w:=by
  have hg:eqGuard .neq t x y (.string a) (.string b)=pure ():=rfl
  unfold execOp
  simp only[ho,hx,hy,hg,binOp_string_neq,Sem.run_bind,Sem.run_pure,Result.andThen,hv]
theorem vJ{w0 w:World}{g:Nat}{cs:Array Value}{xs:List Bool}(hg:w0.heap.size≤g)(hcs:cs=(xs.map Value.bool).toArray)(hl:xs.length≤4194304)(hb:w.heap[g]? = some (.cells cs 4 (0,0))) :
    tv w0.heap.size w (.slice (some ⟨g,0,none⟩) xs.length xs.length) xs:=tU (enc:=Value.bool) hg hcs (fun x h=>rfl) hl hb
theorem pv{x c:Int}{k:Nat}(h:c=x/2 ^ k) : c/2=x/2 ^ (k+1):=by
  rw[h,Int.ediv_ediv_of_nonneg (Int.le_of_lt (Int.pow_pos (by decide))),Int.pow_succ]
theorem rT{x c:Int}(hx:0≤x∧x<256){k:Nat}(h:c=x/2 ^ k) : 0≤c∧c<256:=by
  have h1:(1:Int)≤2 ^ k:=Int.pow_pos (by decide)
  subst h
  exact⟨Int.ediv_nonneg hx.1 (by omega),Int.lt_of_le_of_lt (Int.ediv_le_self _ hx.1) hx.2⟩
theorem pZ{l:List Int}{i:Nat}(h:i<l.length) : l.getD i 0∈l:=by
  rw[List.getD_eq_getElem?_getD,List.getElem?_eq_getElem h]
  exact List.getElem_mem h
theorem qz{m:Md}{A:Option Addr}{cp:Nat}{b:List Int}{n:Int}{w:World}(h:b7 m w (.slice A b.length cp) b)(hl:b.length≤1048576)(hn : -1048576≤n∧n≤1048576) : Calls Tryz.prog 156 #[.slice A b.length cp,.int .i64 n] w (fg b n w):=by
 have hb:=b7.range h
 refine en 51 Tryz.func156 rfl<|sg<|Pl 2<|nt<|sq<|sg<|Pl 3<|cu 6 [12] 18 (((decide (n<0))||(decide ((8*((b.length:Nat) : Int))<n)))) (fun K H=>?_) ?_
 refine bl 12 ((decide (n<0))) (fun d=>?_) (fun d=>?_)
 have R:=of_decide_eq_true d
 exact Pl 6<|ce H true (by rw[d];rfl)
 have R:=of_decide_eq_false d
 exact Pl 3<|L1<|Oi (8*((b.length:Nat) : Int))<|Pl 2<|ce H (decide ((8*((b.length:Nat) : Int))<n)) (by rw[d];rfl)
 refine nt<|cb (((decide (n<0))||(decide ((8*((b.length:Nat) : Int))<n)))) (fun g=>?_) (fun g=>?_)
 refine sg<|Pl 2<|nt<|rt<|tr<|rr (.tuple #[.slice none 0 0,.bool false])<|?_
 have hq:=g
 have hs:cg b n=none:=by unfold cg;rw[if_neg];rintro⟨h1,h2⟩;simp only[Bool.or_eq_true,decide_eq_true_eq] at hq;rw[lI] at h2;split at h2<;>(try split at h2)<;>omega
 exact eA hs (aE.refl [] _)
 have S:=(aJ g).1
 have T:=(aJ g).2
 have ae:=of_decide_eq_false S
 have af:=of_decide_eq_false T
 refine bq<|sg<|Pl 1<|nt<|sq<|sg<|Pl 1<|nt<|bk<|?_
 refine iu (fun x=>[(0,.slice A b.length cp),(1,.int .i64 n),(4,.slice none 0 0),(5,.bool false),(6,.slice x.2.2.1 x.2.1.length x.2.2.2),(7,.int .i64 ((x.1:Nat) : Int))]) (fun(x:Nat × List Bool × Option Addr × Nat) w'=>aE [] w w'∧tv w.heap.size w' (.slice x.2.2.1 x.2.1.length x.2.2.2) x.2.1∧(((x.1:Nat) : Int)≤n)∧(x.2.1=(List.range x.1).map (cv b))) (fun x=>n.toNat-x.1) (0,[],none,0) ⟨aE.refl _ _,(be.nil w.heap.size _ _ mv _),(by(try dsimp only);omega),rfl⟩ ?_
 rintro⟨i,L,B,cq⟩ I ⟨j,U,V,W⟩
 refine iv [(0,.slice A b.length cp),(1,.int .i64 n),(4,.slice none 0 0),(5,.bool false),(6,.slice B L.length cq),(7,.int .i64 ((i:Nat) : Int))] ?_
 have r:tv w.heap.size I (.slice B L.length cq) L:=U
 have ag:((i:Nat) : Int)≤n:=V
 have o:L=(List.range i).map (cv b):=W
 have hLn:L.length=i:=by rw[o,List.length_map,List.length_range]
 have hi8:(((i:Nat) : Int)/8).toNat=i/8:=by omega
 refine sq<|sg<|Pl 3<|nt<|cb ((decide (((i:Nat) : Int)<n))) (fun s=>?_) (fun s=>?_)
 have X:=of_decide_eq_true s
 refine bq<|sq<|bk<|sg<|Pl 2<|L0<|Oe (.int .i64 (IntKind.i64.wrap (Int.tdiv ((i:Nat) : Int) 8))) (.int .i64 (((i:Nat) : Int)/8)) (congrArg (Value.int .i64) (fe (by omega) (by omega)))<|?_
 refine fA (b7.at_ (b7.old h j) (((((i:Nat) : Int)/8)).toNat) (by omega)) fun t u Y Z ah=>L0<|sB b.length (((((i:Nat) : Int)/8)).toNat) (((i:Nat) : Int)/8) (by omega) Y (by omega)<|L0<|e8 (p:=⟨t,u+(((((i:Nat) : Int)/8)).toNat),none⟩) (v:=.int .u8 (b.getD (((((i:Nat) : Int)/8)).toNat) 0)) Z<|L0<|Oi (b.getD (((((i:Nat) : Int)/8)).toNat) 0)<|Pl 1<|nt<|sq<|sg<|Pl 1<|nt<|bk<|?_
 refine iu (fun x=>[(0,.slice A b.length cp),(1,.int .i64 n),(4,.slice none 0 0),(5,.bool false),(6,.slice B L.length cq),(7,.int .i64 ((i:Nat) : Int)),(8,.int .i64 x.2),(9,.int .i64 ((x.1:Nat) : Int)),(19,.int .i64 ((i:Nat) : Int)),(20,.int .i64 n),(21,.bool (decide (((i:Nat) : Int)<n))),(24,.slice A b.length cp),(25,.int .i64 ((i:Nat) : Int)),(26,.int .i64 (((i:Nat) : Int)/8)),(27,.pointer (some (⟨t,u+(((((i:Nat) : Int)/8)).toNat),none⟩))),(28,.int .u8 (b.getD (((((i:Nat) : Int)/8)).toNat) 0)),(29,.int .i64 (b.getD (((((i:Nat) : Int)/8)).toNat) 0))]) (fun(x:Nat × Int) w'=>aE [] I w'∧(x.1≤i%8)∧(x.2=b.getD (i/8) 0/2 ^ x.1)) (fun x=>8-x.1) (0,(b.getD (((((i:Nat) : Int)/8)).toNat) 0)) ⟨aE.refl _ _,(by(try dsimp only);omega),(by(try dsimp only);rw[hi8,Int.pow_zero,Int.ediv_one])⟩ ?_
 rintro⟨k,c⟩ ai ⟨q,a0,a1⟩
 refine iv [(0,.slice A b.length cp),(1,.int .i64 n),(4,.slice none 0 0),(5,.bool false),(6,.slice B L.length cq),(7,.int .i64 ((i:Nat) : Int)),(8,.int .i64 c),(9,.int .i64 ((k:Nat) : Int)),(19,.int .i64 ((i:Nat) : Int)),(20,.int .i64 n),(21,.bool (decide (((i:Nat) : Int)<n))),(24,.slice A b.length cp),(25,.int .i64 ((i:Nat) : Int)),(26,.int .i64 (((i:Nat) : Int)/8)),(27,.pointer (some (⟨t,u+(((((i:Nat) : Int)/8)).toNat),none⟩))),(28,.int .u8 (b.getD (((((i:Nat) : Int)/8)).toNat) 0)),(29,.int .i64 (b.getD (((((i:Nat) : Int)/8)).toNat) 0))] ?_
 have aj:k≤i%8:=a0
 have y:c=b.getD (i/8) 0/2 ^ k:=a1
 have hcr:=rT (hb _ (pZ (l:=b) (i:=i/8) (by omega))) y
 refine sq<|sg<|Pl 2<|L0<|Oe (.int .i64 (Int.tmod ((i:Nat) : Int) 8)) (.int .i64 (((i:Nat) : Int)%8)) (congrArg (Value.int .i64) (Int.tmod_eq_emod_of_nonneg (by omega)))<|Pl 1<|nt<|?_
 refine cb ((decide (((k:Nat) : Int)<(((i:Nat) : Int)%8)))) (fun z=>?_) (fun z=>?_)
 have a2:=of_decide_eq_true z
 refine bq<|sq<|bk<|go<|Pl 1<|L0<|Oe (.int .i64 (IntKind.i64.wrap (Int.tdiv c 2))) (.int .i64 (c/2)) (congrArg (Value.int .i64) (fe (by omega) (by omega)))<|Pl 1<|nl<|bn<|tn<|go<|Pl 1<|L0<|Oi (((k:Nat) : Int)+1)<|?_
 exact Pl 1<|nl<|fU ((k+1),(c/2)) ⟨q,(by(try dsimp only);omega),pv y⟩ (by omega)
 have a2:=of_decide_eq_false z
 refine xt<|tx<|tx<|bx<|tn<|go<|Pl 2<|L0<|Oe (.int .i64 (Int.tmod c 2)) (.int .i64 (c%2)) (congrArg (Value.int .i64) (Int.tmod_eq_emod_of_nonneg (by omega)))<|Pl 1<|L0<|dA (m:=1) (e:=4) #[.bool ((c%2)==1)] fun ak al a3 a4 C=>?_
 have a5:=vJ a3 (xs:=[((c%2)==1)]) (by as_aux_lemma=>kernel_rfl)  (by(try simp only[List.length_cons,List.length_nil]);omega) a4
 refine L0<|cO rF (xs:=L) (ys:=([((c%2)==1)])) (.bool false) 1 (ax r (aI q C) (fun x hx=>ay) (fun _ _ h=>h)) (a5).rd (by(try simp only[List.length_append,List.length_cons,List.length_nil,aC]);omega) (le (le j.size q.size) C.size) fun a6 a7 am a8 a9=>Pl 1<|nl<|bn<|tn<|go<|Pl 1<|L0<|Oi (((i:Nat) : Int)+1)<|Pl 1<|nl<|?_
 exact fU ((i+1),(L++[((c%2)==1)]),a6,a7) ⟨(ut (aI j q) (ut (aE.mono (S':=(ob B++[])) C aq) a9 (av il aq)) (av (aU r lr) aq)),a8,(by(try dsimp only);omega),(by(try dsimp only);rw[o,List.range_succ,List.map_append];show _++[_]=_++[cv b i];unfold cv;rw[y,show k=i%8 from by omega])⟩ (by omega)
 have X:=of_decide_eq_false s
 refine xt<|tx<|tx<|bx<|tn<|sq<|sq<|Rg 6 (fun w'=>b7 false w' (.slice A b.length cp) b) fun an J=>?_
 have M:=aI j J
 have D:=b7.old h M
 refine bh (aK.any D (fun _ _ h=>h)) fun E=>Rt 0 E<|Rt 3 E<|Rr 4 E (.string (strOfNums b)) (fun _ hs=>cP (A:=A) (n:=b.length) (c:=cp) rfl (by kernel_rfl) Tryz.underlying22 Tryz.underlying5 Tryz.underlying9 hs)<|?_
 have N:=ax r J (fun x hx=>ay) (fun _ _ h=>h)
 refine R0 1 rfl<|Oc<|ea (uS (N).rd (by omega)) fun aa ab ao O ap ar F=>?_
 have P:=b7.old D F
 refine bh (aK.any P (fun _ _ h=>h)) fun au=>R0 2 rfl<|ie (.string (strOfNums (cE L))) (cP (A:=aa) (n:=(cE L).length) (c:=ab) rfl (by kernel_rfl) Tryz.underlying22 Tryz.underlying5 Tryz.underlying9 (O).rd)<|bh (aK.any P (fun _ _ h=>h)) fun ac=>Rr 5 ac (.bool (!(decide ((cE L)=b)))) (fun _ _=>qx (a:=(strOfNums (cE L))) (b:=(strOfNums b)) rfl (by kernel_rfl) (by kernel_rfl) (gO (O).rd D))<|re<|tn<|?_
 have Q:=aI M F
 refine cb ((!(decide ((cE L)=b)))) (fun f=>?_) (fun f=>?_)
 have G:(decide ((cE L)=b))=false:=by simpa using f
 have ad:=of_decide_eq_false G
 refine sg<|Pl 2<|nt<|rt<|tr<|rr (.tuple #[.slice none 0 0,.bool false])<|?_
 have hL:L=(List.range n.toNat).map (cv b):=by rw[o,show i=n.toNat from by omega]
 have hu:=mI (n:=n) hb (by omega)
 rw[if_neg (by rw[← hL];simpa using f)] at hu
 exact eA hu Q
 have G:(decide ((cE L)=b))=true:=by simpa using f
 have ad:=of_decide_eq_true G
 refine bq<|sg<|Pl 3<|nt<|rt<|rr (.tuple #[.slice B L.length cq,.bool true])<|?_
 have hL:L=(List.range n.toNat).map (cv b):=by rw[o,show i=n.toNat from by omega]
 have hu:=mI (n:=n) hb (by omega)
 rw[if_pos (by rw[← hL];simpa using f),← hL] at hu
 exact⟨_,by rw[hu];rfl,by rw[hu];exact(ax N F (fun x hx=>ay) (fun _ _ h=>h)),Q⟩
theorem sx{m:Md}{v:Value}{b:List Int}{n:Int}{w:World}(h:b7 m w v b)(hl:b.length≤1048576)(hn : -1048576≤n∧n≤1048576) : Calls Tryz.prog 156 #[v,.int .i64 n] w (fg b n w):=by
  obtain⟨A,c,rfl,_,_⟩:=h.shape
  exact qz h hl hn
open Go.RowKit
def sm (w0:World)(m:Md)(A:Option Addr)(cp:Nat)(full:List Int)(g gm:Nat)(C':ah)(cs:Array Value)(w:World)(e:Ending)(w':World) : Prop:=e = .returned (.tuple #[])∧RC w0 m A cp full w' g C'∧w'.heap[gm]? = some (.cells cs 30 (0,0))∧aE [g,gm] w w'
theorem ll{w0:World}{m:Md}{A:Option Addr}{cp:Nat}{full:List Int}{w:World}{g gm:Nat}{c:Int}{C:ah}{most:Int}(hcode:B8 c)(hC:RC w0 m A cp full w g C)(hm:w.heap[gm]? = some (.cells (mC c) 30 (0,0)))(hgm:w0.heap.size≤gm)(hne:g≠gm) :
    Calls Tryz.prog 150 #[.pointer (some ⟨g,0,none⟩),.pointer (some ⟨gm,0,none⟩),.int .i64 most] w (sm w0 m A cp full g gm (bA C most) (mG c 0 C.wordV (C.wordsC 1).wordV 0 0 0 0 0 0 0 0 nS nS nS nS 0 0 0 0 0 nS) w):=by
 obtain⟨hcode1,hcode2⟩:=hcode
 have hrng:=bQ (RC.rng hC)
 refine en 39 Tryz.func150 rfl<|sg<|Pl 2<|L0<|Oc<|m3 (cM hC) fun G t e H=>Pl 2<|?_
 refine L0<|bS (aT e (Ne.symm hne) hm) 2 (mG c 0 C.wordV 0 0 0 0 0 0 0 0 0 nS nS nS nS 0 0 0 0 0 nS) fun I dy f=>ng<|Pl 2<|?_
 have h:=us e f
 refine L0<|Oc<|m3 (cM (RC.upd t f (aa hne ay) (hC.u.trans' h (fun x hx=>.inr (by simp at hx;rcases hx with rfl | rfl;exact hC.new;exact hgm))))) fun J v i L=>Pl 2<|?_
 refine L0<|bS (aT i (Ne.symm hne) dy) 3 (mG c 0 C.wordV ((C.wordsC 1).wordV) 0 0 0 0 0 0 0 0 nS nS nS nS 0 0 0 0 0 nS) fun M j k=>ng<|Pl 3<|L0<|aR j 3<|L0<|Oi ((C.wordsC 1).wordV)<|Pl 1<|ng<|Pl 4<|cu 4 [25] 29 (((decide (0<((C.wordsC 1).wordV)))&&(decide (((C.wordsC 1).wordV)≤most)))) (fun K l=>?_) ?_
 refine bl 25 ((decide (0<((C.wordsC 1).wordV)))) (fun b=>?_) (fun b=>?_)
 have y:=of_decide_eq_true b
 exact Pl 4<|ce l (decide (((C.wordsC 1).wordV)≤most)) (by rw[b];rfl)
 have y:=of_decide_eq_false b
 exact Pl 4<|ce l false (by rw[b];rfl)
 have o:=ut h (us i k) (ac im (ac im aq))
 refine L0<|Oc<|m2 (aV (((decide (0<((C.wordsC 1).wordV)))&&(decide (((C.wordsC 1).wordV)≤most)))) 5 (RC.upd v k (aa hne ay) (hC.u.trans' o (fun x hx=>.inr (by simp at hx;rcases hx with rfl | rfl;exact hC.new;exact hgm))))) fun z B p=>?_
 refine fd B fun x36 D q=>?_
 refine nt<|go<|Pl 4<|?_
 have r:=aT p (Ne.symm hne) j
 refine L0<|aR r 2<|Pl 1<|L0<|Oc<|m1 (oT (a:=C.wordV) (n:=(C.wordsC 1).wordV) (w:=z) (by omega) (by omega)) fun N d=>?_
 refine L0<|Oc<|m2 (aV ((dh C.wordV ((C.wordsC 1).wordV))) 7 (RC.upd q d ay (aE.step (RC.u q) d))) fun O E F=>nl<|rm (.tuple #[])<|?_
 subst D
 have hs:bA C most=((((C.wordsC 1).wordsC 1).need ((decide (0<((C.wordsC 1).wordV)))&&(decide (((C.wordsC 1).wordV)≤most))) 5).need (dh C.wordV ((C.wordsC 1).wordV)) 7):=by
   unfold bA ii
   (try simp only[bs,if_true,if_false,decide_true,decide_false,dj,reduceIte])
   all_goals rfl
 rw[hs]
 have s:=uz d F
 exact⟨rfl,E,(aT s (Ne.symm hne) r),(u1 o (u1 p s im) im)⟩
theorem jr{m:Md}{A:Option Addr}{cp:Nat}{b:List Int}{w:World}{c:Int}(hcode:B8 c)(hsl:b7 m w (.slice A b.length cp) b)(hb:b.length≤1048576) :
    Calls Tryz.prog 93 #[.int .i64 0,.int .u8 c,.slice A b.length cp] w (dc (.slice A b.length cp) b (ae aD 0 c b) w):=by
 obtain⟨hcode1,hcode2⟩:=hcode
 have hln:(b.length:Int)≤1048576:=by omega
 refine en 113 Tryz.func93 rfl<|sg<|L0<|bI mZ fun aW d2 r i f=>Pl 1<|nt<|sq<|sg<|Pl 6<|nt<|c0<|?_
 refine bq<|sg<|Pl 2<|L0<|dx #[.slice A b.length cp,.int .i64 0,.bool false,.int .i64 0] fun j d3 a l g=>Pl 1<|ng<|Pl 2<|L0<|bI mZ fun ab d4 d ad N=>L0<|b6 ad (mC c) fun a2 a3 E=>?_
 refine nt<|sq<|sg<|Pl 1<|nt<|bk<|sq<|sg<|Pl 2<|nl<|?_
 refine tn<|?_
 have O:=ud N E d
 have o:=aI g O
 have s:=aI f o
 refine cb ((c==1)) (fun k=>?_) (fun k=>?_)
 have c4:=al k
 refine bq<|ct k<|sq<|sg<|Pl 2<|nt<|c1<|sg<|Pl 1<|?_
 have af:RC w _ A cp b a2 j (ah.mk b false 0):=⟨hsl,s,(Nat.le_trans f.size a),⟨0,(ub O l),Nat.zero_le _,rfl⟩,by omega⟩
 have aX:=nb (ak l) lr d
 refine L0<|Oc<|m3 (ll (most:=2000) (b8 (by omega)) af a3 (Nat.le_trans (le f.size g.size) d) aX) fun d5 c5 c6 c7=>?_
 have d6:=bQ (RC.rng af)
 have d7:=bQ (c:=(ah.mk b false 0).wordsC 1) (cI (RC.rng af) 1)
 refine nt<|xt<|tx<|bx<|tn<|sg<|Pl 1<|L0<|Oc<|m2 (dX c5) fun d8 aj aY=>nt<|sq<|sq<|?_
 refine go<|Pl 3<|L0<|e8 (p:=⟨j,3,none⟩) (v:=.int .i64 (((bA (ah.mk b false 0) 2000).endC).e)) (RC.fld aj)<|Pl 1<|nt<|?_
 have am:=u1 c7 aY im
 have aZ:=ut s am (ac (ni f.size a) (ac (ni (le f.size g.size) d) aq))
 refine cb (((((bA (ah.mk b false 0) 2000).endC).e)!=0)) (fun P=>?_) (fun P=>?_)
 have an:=au P
 refine sq<|Rg 7 (fun w'=>w'.cell? ⟨j,3,none⟩=some (.int .i64 (((bA (ah.mk b false 0) 2000).endC).e))) fun d9 a4=>?_
 have b0:=RC.upd aj a4 ay (aE.step (RC.u aj) a4)
 refine bh (RC.fld b0) fun Q=>Rt 0 Q<|Rt 1 Q<|Rt 2 Q<|Rt 3 Q<|Rl 4 Q (fun _ hs=>hs)<|?_
 refine R0 5 rfl<|b6 (ub (ut o (aI am a4) (ac (nr a) (ac (ni g.size d) aq))) i) mZ fun da c8 b1=>?_
 have b2:=ud aZ (uz a4 b1) r
 refine bh (RC.fld (RC.upd b0 b1 (aa (Ne.symm (nb (ak i) lr a)) ay) b2)) fun c9=>Rt 6 c9<|re<|tn<|rt<|tr<|bF c8 (.int .i64 (((bA (ah.mk b false 0) 2000).endC).e))<|?_
 have hs:ae aD 0 c b=aF (aP.mk c 0 ((ah.mk b false 0).wordV) (((ah.mk b false 0).wordsC 1).wordV) 0 0 0 0 0 0 0 0 [] [] [] [] 0 0 0 0 0 []) (bA (ah.mk b false 0) 2000):=by
   unfold ae aD cD co ci ek jP eW jL j7 jd db dM
   (try simp only[k,P,bs,if_true,if_false,decide_true,decide_false,eq_self,true_or,or_true,or_false,false_or,if_true,if_false,bZ,bX,cc,bY,reduceIte,dj])
   all_goals rfl
 rw[hs]
 exact bg an b2
 have an:=ai P
 refine bq<|sg<|?_
 refine L0<|ch (aT aY (Ne.symm aX) c6)<|?_
 refine L0<|b6 (ub (ut o am (ac (nr a) (ac (ni g.size d) aq))) i) (mG c 0 ((ah.mk b false 0).wordV) (((ah.mk b false 0).wordsC 1).wordV) 0 0 0 0 0 0 0 0 nS nS nS nS 0 0 0 0 0 nS) fun dd ca cd=>Pl 1<|nt<|rt<|bF ca (.int .i64 0)<|?_
 have hs:ae aD 0 c b=aF (aP.mk c 0 ((ah.mk b false 0).wordV) (((ah.mk b false 0).wordsC 1).wordV) 0 0 0 0 0 0 0 0 [] [] [] [] 0 0 0 0 0 []) (bA (ah.mk b false 0) 2000):=by
   unfold ae aD cD co ci ek jP eW jL j7 jd db dM
   (try simp only[k,P,bs,if_true,if_false,decide_true,decide_false,eq_self,true_or,or_true,or_false,false_or,if_true,if_false,bZ,bX,cc,bY,reduceIte,dj])
   all_goals rfl
 rw[hs]
 exact bj an ⟨_,_,_,_,_,rfl,aK.nil ..,aK.nil ..,(fun _ _ _=>aK.nil ..),aK.nil ..,aK.nil ..,⟨(b8 (x:=c) (by omega)),(b8 (x:=0) (by omega)),(aB (x:=(ah.mk b false 0).wordV) (by omega)),(aB (x:=((ah.mk b false 0).wordsC 1).wordV) (by omega)),(aB (x:=0) (by omega)),(aB (x:=0) (by omega)),(aB (x:=0) (by omega)),(aB (x:=0) (by omega)),(aB (x:=0) (by omega)),(aB (x:=0) (by omega)),(aB (x:=0) (by omega)),(aB (x:=0) (by omega)),(b8 (x:=0) (by omega)),(b8 (x:=0) (by omega)),(b8 (x:=0) (by omega)),(b8 (x:=0) (by omega)),(b8 (x:=0) (by omega))⟩⟩ (ud aZ cd r)
 have c4:=ap k
 refine go<|Pl 2<|nt<|cb ((c==2)) (fun q=>?_) (fun q=>?_)
 have cf:=al q
 refine sq<|sg<|Pl 2<|nt<|c1<|sg<|Pl 1<|?_
 have ao:RC w _ A cp b a2 j (ah.mk b false 0):=⟨hsl,s,(Nat.le_trans f.size a),⟨0,(ub O l),Nat.zero_le _,rfl⟩,by omega⟩
 have b3:=nb (ak l) lr d
 refine L0<|Oc<|m3 (ll (most:=2000) (b8 (by omega)) ao a3 (Nat.le_trans (le f.size g.size) d) b3) fun de cj ck cl=>?_
 have df:=bQ (RC.rng ao)
 have dg:=bQ (c:=(ah.mk b false 0).wordsC 1) (cI (RC.rng ao) 1)
 refine nt<|xt<|tx<|bx<|tn<|sg<|Pl 1<|L0<|Oc<|m2 (dX cj) fun dh ar b4=>nt<|sq<|sq<|?_
 refine go<|Pl 3<|L0<|e8 (p:=⟨j,3,none⟩) (v:=.int .i64 (((bA (ah.mk b false 0) 2000).endC).e)) (RC.fld ar)<|Pl 1<|nt<|?_
 have av:=u1 cl b4 im
 have b5:=ut s av (ac (ni f.size a) (ac (ni (le f.size g.size) d) aq))
 refine cb (((((bA (ah.mk b false 0) 2000).endC).e)!=0)) (fun R=>?_) (fun R=>?_)
 have aw:=au R
 refine sq<|Rg 7 (fun w'=>w'.cell? ⟨j,3,none⟩=some (.int .i64 (((bA (ah.mk b false 0) 2000).endC).e))) fun di a5=>?_
 have b9:=RC.upd ar a5 ay (aE.step (RC.u ar) a5)
 refine bh (RC.fld b9) fun S=>Rt 0 S<|Rt 1 S<|Rt 2 S<|Rt 3 S<|Rl 4 S (fun _ hs=>hs)<|?_
 refine R0 5 rfl<|b6 (ub (ut o (aI av a5) (ac (nr a) (ac (ni g.size d) aq))) i) mZ fun dk cm ba=>?_
 have bb:=ud b5 (uz a5 ba) r
 refine bh (RC.fld (RC.upd b9 ba (aa (Ne.symm (nb (ak i) lr a)) ay) bb)) fun cn=>Rt 6 cn<|re<|tn<|rt<|tr<|bF cm (.int .i64 (((bA (ah.mk b false 0) 2000).endC).e))<|?_
 have hs:ae aD 0 c b=aF (aP.mk c 0 ((ah.mk b false 0).wordV) (((ah.mk b false 0).wordsC 1).wordV) 0 0 0 0 0 0 0 0 [] [] [] [] 0 0 0 0 0 []) (bA (ah.mk b false 0) 2000):=by
   unfold ae aD cD co ci ek jP eW jL j7 jd db dM
   (try simp only[k,q,R,bs,if_true,if_false,decide_true,decide_false,eq_self,true_or,or_true,or_false,false_or,if_true,if_false,bZ,bX,cc,bY,reduceIte,dj])
   all_goals rfl
 rw[hs]
 exact bg aw bb
 have aw:=ai R
 refine bq<|sg<|?_
 refine L0<|ch (aT b4 (Ne.symm b3) ck)<|?_
 refine L0<|b6 (ub (ut o av (ac (nr a) (ac (ni g.size d) aq))) i) (mG c 0 ((ah.mk b false 0).wordV) (((ah.mk b false 0).wordsC 1).wordV) 0 0 0 0 0 0 0 0 nS nS nS nS 0 0 0 0 0 nS) fun dl cq cr=>Pl 1<|nt<|rt<|bF cq (.int .i64 0)<|?_
 have hs:ae aD 0 c b=aF (aP.mk c 0 ((ah.mk b false 0).wordV) (((ah.mk b false 0).wordsC 1).wordV) 0 0 0 0 0 0 0 0 [] [] [] [] 0 0 0 0 0 []) (bA (ah.mk b false 0) 2000):=by
   unfold ae aD cD co ci ek jP eW jL j7 jd db dM
   (try simp only[k,q,R,bs,if_true,if_false,decide_true,decide_false,eq_self,true_or,or_true,or_false,false_or,if_true,if_false,bZ,bX,cc,bY,reduceIte,dj])
   all_goals rfl
 rw[hs]
 exact bj aw ⟨_,_,_,_,_,rfl,aK.nil ..,aK.nil ..,(fun _ _ _=>aK.nil ..),aK.nil ..,aK.nil ..,⟨(b8 (x:=c) (by omega)),(b8 (x:=0) (by omega)),(aB (x:=(ah.mk b false 0).wordV) (by omega)),(aB (x:=((ah.mk b false 0).wordsC 1).wordV) (by omega)),(aB (x:=0) (by omega)),(aB (x:=0) (by omega)),(aB (x:=0) (by omega)),(aB (x:=0) (by omega)),(aB (x:=0) (by omega)),(aB (x:=0) (by omega)),(aB (x:=0) (by omega)),(aB (x:=0) (by omega)),(b8 (x:=0) (by omega)),(b8 (x:=0) (by omega)),(b8 (x:=0) (by omega)),(b8 (x:=0) (by omega)),(b8 (x:=0) (by omega))⟩⟩ (ud b5 cr r)
 have cf:=ap q
 refine sg<|Pl 2<|nt<|cb ((c==5)) (fun z=>?_) (fun z=>?_)
 have cs:=al z
 refine sg<|Pl 1<|?_
 have cv:RC w _ A cp b a2 j (ah.mk b false 0):=⟨hsl,s,(Nat.le_trans f.size a),⟨0,(ub O l),Nat.zero_le _,rfl⟩,by omega⟩
 refine L0<|Oc<|m3 (cM cv) fun dm cw bc dn=>Pl 1<|?_
 have T:=nb (ak l) lr d
 refine L0<|bS (aT bc (Ne.symm T) a3) 2 (mG c 0 ((ah.mk b false 0).wordV) 0 0 0 0 0 0 0 0 0 nS nS nS nS 0 0 0 0 0 nS) fun dp cx bd=>ng<|Pl 1<|?_
 have az:=us bc bd
 have be:=ut s az (ac (ni f.size a) (ac (ni (le f.size g.size) d) aq))
 refine L0<|Oc<|m3 (cM (RC.upd cw bd (aa T ay) be)) fun dq cy bf ds=>Pl 1<|?_
 refine L0<|bS (aT bf (Ne.symm T) cx) 4 (mG c 0 ((ah.mk b false 0).wordV) 0 (((ah.mk b false 0).wordsC 1).wordV) 0 0 0 0 0 0 0 nS nS nS nS 0 0 0 0 0 nS) fun dt aC bi=>nt<|go<|Pl 2<|L0<|aR aC 4<|Pl 2<|cu 4 [62] 66 ((((((ah.mk b false 0).wordsC 1).wordV)==0)||((((ah.mk b false 0).wordsC 1).wordV)==65280))) (fun K bm=>?_) ?_
 refine bl 62 (((((ah.mk b false 0).wordsC 1).wordV)==0)) (fun U=>?_) (fun U=>?_)
 have cz:=al U
 exact Pl 4<|ce bm true (by rw[U];rfl)
 have cz:=ap U
 exact Pl 1<|L1<|aR aC 4<|Pl 2<|ce bm ((((ah.mk b false 0).wordsC 1).wordV)==65280) (by rw[U];rfl)
 have aG:=us bf bi
 have bo:=ut be aG (ac (ni f.size a) (ac (ni (le f.size g.size) d) aq))
 refine L0<|Oc<|m2 (aV ((((((ah.mk b false 0).wordsC 1).wordV)==0)||((((ah.mk b false 0).wordsC 1).wordV)==65280))) 6 (RC.upd cy bi (aa T ay) bo)) fun du cA cB=>?_
 refine fd cA fun J bp cC=>?_
 refine nl<|bn<|tn<|sg<|Pl 1<|L0<|Oc<|m2 (dX cC) fun dv aH cE=>nt<|sq<|sg<|Pl 3<|L0<|e8 (p:=⟨j,3,none⟩) (v:=.int .i64 J.endC.e) (RC.fld aH)<|?_
 refine Pl 1<|nt<|?_
 have a6:=u1 cB cE im
 have bu:=ud bo a6 (le f.size a)
 refine cb ((J.endC.e != 0)) (fun V=>?_) (fun V=>?_)
 have aJ:=au V
 refine sq<|Rg 7 (fun w'=>w'.cell? ⟨j,3,none⟩=some (.int .i64 J.endC.e)) fun dw a7=>?_
 have bv:=RC.upd aH a7 ay (aE.step (RC.u aH) a7)
 refine bh (RC.fld bv) fun W=>Rt 0 W<|Rt 1 W<|Rt 2 W<|Rt 3 W<|Rl 4 W (fun _ hs=>hs)<|?_
 refine R0 5 rfl<|b6 (ub (ut o (ut az (u1 aG (aI a6 a7) im) (ac im (ac im aq))) (ac (nr a) (ac (ni g.size d) aq))) i) mZ fun dy cF bw=>?_
 have bz:=ud bu (uz a7 bw) r
 refine bh (RC.fld (RC.upd bv bw (aa (Ne.symm (nb (ak i) lr a)) ay) bz)) fun cG=>Rt 6 cG<|re<|tn<|rt<|tr<|bF cF (.int .i64 J.endC.e)<|?_
 have hs:ae aD 0 c b=aF (aP.mk c 0 ((ah.mk b false 0).wordV) 0 (((ah.mk b false 0).wordsC 1).wordV) 0 0 0 0 0 0 0 [] [] [] [] 0 0 0 0 0 []) J:=by
   subst bp
   unfold ae aD cD co ci ek jP eW jL j7 jd db dM
   (try simp only[k,q,z,V,bs,if_true,if_false,decide_true,decide_false,eq_self,true_or,or_true,or_false,false_or,if_true,if_false,bZ,bX,cc,bY,reduceIte,dj])
   all_goals rfl
 rw[hs]
 exact bg aJ bz
 have aJ:=ai V
 refine bq<|sg<|?_
 refine L0<|ch (aT a6 (Ne.symm T) aC)<|?_
 refine L0<|b6 (ub (ut o (ut az (u1 aG a6 im) (ac im (ac im aq))) (ac (nr a) (ac (ni g.size d) aq))) i) (mG c 0 ((ah.mk b false 0).wordV) 0 (((ah.mk b false 0).wordsC 1).wordV) 0 0 0 0 0 0 0 nS nS nS nS 0 0 0 0 0 nS) fun dz cH cK=>Pl 1<|nt<|rt<|bF cH (.int .i64 0)<|?_
 have hs:ae aD 0 c b=aF (aP.mk c 0 ((ah.mk b false 0).wordV) 0 (((ah.mk b false 0).wordsC 1).wordV) 0 0 0 0 0 0 0 [] [] [] [] 0 0 0 0 0 []) J:=by
   subst bp
   unfold ae aD cD co ci ek jP eW jL j7 jd db dM
   (try simp only[k,q,z,V,bs,if_true,if_false,decide_true,decide_false,eq_self,true_or,or_true,or_false,false_or,if_true,if_false,bZ,bX,cc,bY,reduceIte,dj])
   all_goals rfl
 rw[hs]
 exact bj aJ ⟨_,_,_,_,_,rfl,aK.nil ..,aK.nil ..,(fun _ _ _=>aK.nil ..),aK.nil ..,aK.nil ..,⟨(b8 (x:=c) (by omega)),(b8 (x:=0) (by omega)),(aB (x:=(ah.mk b false 0).wordV) (by omega)),(aB (x:=0) (by omega)),(aB (x:=((ah.mk b false 0).wordsC 1).wordV) (by omega)),(aB (x:=0) (by omega)),(aB (x:=0) (by omega)),(aB (x:=0) (by omega)),(aB (x:=0) (by omega)),(aB (x:=0) (by omega)),(aB (x:=0) (by omega)),(aB (x:=0) (by omega)),(b8 (x:=0) (by omega)),(b8 (x:=0) (by omega)),(b8 (x:=0) (by omega)),(b8 (x:=0) (by omega)),(b8 (x:=0) (by omega))⟩⟩ (ud bu cK r)
 have cs:=ap z
 refine sg<|Pl 2<|nt<|cb ((c==15)) (fun L=>?_) (fun L=>?_)
 have cL:=al L
 refine sg<|Pl 1<|?_
 have aL:RC w _ A cp b a2 j (ah.mk b false 0):=⟨hsl,s,(Nat.le_trans f.size a),⟨0,(ub O l),Nat.zero_le _,rfl⟩,by omega⟩
 have F:=nb (ak l) lr d
 refine L0<|Oc<|m3 (ll (most:=1968) (b8 (by omega)) aL a3 (Nat.le_trans (le f.size g.size) d) F) fun dA cN cO G=>?_
 have dB:=bQ (RC.rng aL)
 have dC:=bQ (c:=(ah.mk b false 0).wordsC 1) (cI (RC.rng aL) 1)
 refine nt<|sq<|sg<|Pl 2<|nt<|c0<|bq<|sg<|Pl 1<|L0<|Oc<|m3 (dI cN) fun cP bB B dD=>?_
 refine L0<|Oi ((bA (ah.mk b false 0) 1968).byteV)<|Pl 1<|ng<|Pl 3<|?_
 have bC:=aT B (Ne.symm F) cO
 refine L0<|aR bC 3<|L0<|Oi (((ah.mk b false 0).wordsC 1).wordV)<|L0<|Oc<|m1 (v5 (n:=((ah.mk b false 0).wordsC 1).wordV) (w:=cP) (by omega)) fun dE t=>Pl 1<|?_
 refine L0<|Oc<|m2 (aV ((((bA (ah.mk b false 0) 1968).byteV)==(dr (((ah.mk b false 0).wordsC 1).wordV)))) 5 (RC.upd bB t ay (aE.step (RC.u bB) t))) fun dF cQ H=>?_
 refine fd cQ fun I bD bE=>?_
 refine nt<|sq<|Rg 12 (fun w'=>w'.cell? ⟨ab,3,none⟩=some (.int .u16 (((ah.mk b false 0).wordsC 1).wordV))) fun dG y=>?_
 have bG:=uz t (aI H y)
 have bH:=aT bG (Ne.symm F) bC
 refine bh (ag bH rfl) fun X=>Rt 0 X<|Rt 1 X<|Rt 3 X<|Rl 4 X (fun _ hs=>hs)<|Rr 5 X (.int .i64 (((ah.mk b false 0).wordsC 1).wordV)) (fun _ _=>cJ (.int .i64 (IntKind.i64.wrap (((ah.mk b false 0).wordsC 1).wordV))) (by kernel_rfl) (congrArg (Value.int .i64) (i64_in (by omega))))<|?_
 have bJ:=RC.upd bE y ay (aE.step (RC.u bE) y)
 refine R0 2 rfl<|Oc<|nk (f6 (n:=(bA (ah.mk b false 0) 1968).byteV) (by omega) bJ) fun cR cS dH cT aM C=>?_
 have dJ:=Nat.le_trans (ah.bytesR_le I ((bA (ah.mk b false 0) 1968).byteV)) (RC.clen bJ)
 have bK:=aT C (Ne.symm F) bH
 refine bh (ag bK rfl) fun dK=>R0 6 rfl<|Oc (args:=#[.slice cR ((I.bytesR ((bA (ah.mk b false 0) 1968).byteV)).length) cS,.int .i64 (((ah.mk b false 0).wordsC 1).wordV)])<|ea (sx (n:=((ah.mk b false 0).wordsC 1).wordV) (cT _ _ (RC.rd aM)) (by omega) (by omega)) fun bL bM dL D dN dO a8=>?_
 have bN:=ub a8 bK
 refine bh (ag bN rfl) fun Y=>Rt 7 Y<|Rt 8 Y<|Rt 9 Y<|Rt 10 Y<|Rt 11 Y<|re<|tn<|sg<|Pl 2<|?_
 refine L0<|Oc<|m2 (aV ((cg (I.bytesR ((bA (ah.mk b false 0) 1968).byteV)) (((ah.mk b false 0).wordsC 1).wordV)).isSome) 6 (RC.upd aM a8 ay (aE.step (RC.u aM) a8))) fun dP cU bO=>?_
 refine fd cU fun M bP cV=>?_
 refine nt<|go<|Pl 2<|?_
 refine L0<|bS (aT bO (Ne.symm F) bN) 13 (mG c 0 ((ah.mk b false 0).wordV) (((ah.mk b false 0).wordsC 1).wordV) 0 0 0 0 0 0 0 0 nS (.slice bL (((cg (I.bytesR ((bA (ah.mk b false 0) 1968).byteV)) (((ah.mk b false 0).wordsC 1).wordV)).getD []).length) bM) nS nS 0 0 0 0 0 nS) fun dQ cW bR=>nl<|bn<|tn<|sg<|Pl 1<|?_
 have aN:=us bO bR
 have aO:=ut G (ui B (ui bG (ui C (uz a8 aN)))) (ac im (ac im aq))
 have bT:=ut s aO (ac (ni f.size a) (ac (ni (le f.size g.size) d) aq))
 refine L0<|Oc<|m2 (dX (RC.upd cV bR (aa F ay) bT)) fun dR aQ Z=>nt<|sq<|sg<|Pl 3<|L0<|e8 (p:=⟨j,3,none⟩) (v:=.int .i64 M.endC.e) (RC.fld aQ)<|Pl 1<|nt<|?_
 have bU:=ud bT Z (le f.size a)
 refine cb ((M.endC.e != 0)) (fun a0=>?_) (fun a0=>?_)
 have aS:=au a0
 refine sq<|Rg 7 (fun w'=>w'.cell? ⟨j,3,none⟩=some (.int .i64 M.endC.e)) fun dS a9=>?_
 have bV:=RC.upd aQ a9 ay (aE.step (RC.u aQ) a9)
 refine bh (RC.fld bV) fun a1=>Rt 0 a1<|Rt 1 a1<|Rt 2 a1<|Rt 3 a1<|Rl 4 a1 (fun _ hs=>hs)<|?_
 have bW:=aI Z a9
 refine R0 5 rfl<|b6 (ub (ut o (u1 aO bW im) (ac (nr a) (ac (ni g.size d) aq))) i) mZ fun dT cX aU=>?_
 have c2:=ud bU (uz a9 aU) r
 refine bh (RC.fld (RC.upd bV aU (aa (Ne.symm (nb (ak i) lr a)) ay) c2)) fun cY=>Rt 6 cY<|re<|tn<|rt<|tr<|bF cX (.int .i64 M.endC.e)<|?_
 have dU:=ax D (ut (aE.mono (S':=[j,ab,aW]) aN (ac im (ac im aq))) (us bW aU) (ac im (ac im aq))) (fun x hx=>(aa (fun e=>(aA (ak l) (le (le (le (le (le (le (le N.size E.size) G.size) B.size) t.size) H.size) y.size) C.size) D) (e▸hx)) (aa (fun e=>(aA (ak ad) (le (le (le (le (le (le E.size G.size) B.size) t.size) H.size) y.size) C.size) D) (e▸hx)) (aa (fun e=>(aA (ak i) (le (le (le (le (le (le (le (le g.size N.size) E.size) G.size) B.size) t.size) H.size) y.size) C.size) D) (e▸hx)) ay)))) (fun _ _ h=>h)
 have hs:ae aD 0 c b=aF (aP.mk c 0 ((ah.mk b false 0).wordV) (((ah.mk b false 0).wordsC 1).wordV) 0 0 0 0 0 0 0 0 [] ((cg (I.bytesR ((bA (ah.mk b false 0) 1968).byteV)) (((ah.mk b false 0).wordsC 1).wordV)).getD []) [] [] 0 0 0 0 0 []) M:=by
   subst bP bD
   unfold ae aD cD co ci ek jP eW jL j7 jd db dM
   (try simp only[k,q,z,L,a0,bs,if_true,if_false,decide_true,decide_false,eq_self,true_or,or_true,or_false,false_or,if_true,if_false,bZ,bX,cc,bY,reduceIte,dj])
   all_goals rfl
 rw[hs]
 exact bg aS c2
 have aS:=ai a0
 refine bq<|sg<|?_
 refine L0<|ch (aT Z (Ne.symm F) cW)<|?_
 refine L0<|b6 (ub (ut o (u1 aO Z im) (ac (nr a) (ac (ni g.size d) aq))) i) (mG c 0 ((ah.mk b false 0).wordV) (((ah.mk b false 0).wordsC 1).wordV) 0 0 0 0 0 0 0 0 nS (.slice bL (((cg (I.bytesR ((bA (ah.mk b false 0) 1968).byteV)) (((ah.mk b false 0).wordsC 1).wordV)).getD []).length) bM) nS nS 0 0 0 0 0 nS) fun dV cZ c3=>Pl 1<|nt<|rt<|bF cZ (.int .i64 0)<|?_
 have hs:ae aD 0 c b=aF (aP.mk c 0 ((ah.mk b false 0).wordV) (((ah.mk b false 0).wordsC 1).wordV) 0 0 0 0 0 0 0 0 [] ((cg (I.bytesR ((bA (ah.mk b false 0) 1968).byteV)) (((ah.mk b false 0).wordsC 1).wordV)).getD []) [] [] 0 0 0 0 0 []) M:=by
   subst bP bD
   unfold ae aD cD co ci ek jP eW jL j7 jd db dM
   (try simp only[k,q,z,L,a0,bs,if_true,if_false,decide_true,decide_false,eq_self,true_or,or_true,or_false,false_or,if_true,if_false,bZ,bX,cc,bY,reduceIte,dj])
   all_goals rfl
 rw[hs]
 exact bj aS ⟨_,_,_,_,_,rfl,aK.nil ..,((ax D (ut (aE.mono (S':=[j,ab,aW]) aN (ac im (ac im aq))) (us Z c3) (ac im (ac im aq))) (fun x hx=>(aa (fun e=>(aA (ak l) (le (le (le (le (le (le (le N.size E.size) G.size) B.size) t.size) H.size) y.size) C.size) D) (e▸hx)) (aa (fun e=>(aA (ak ad) (le (le (le (le (le (le E.size G.size) B.size) t.size) H.size) y.size) C.size) D) (e▸hx)) (aa (fun e=>(aA (ak i) (le (le (le (le (le (le (le (le g.size N.size) E.size) G.size) B.size) t.size) H.size) y.size) C.size) D) (e▸hx)) ay)))) (fun _ _ h=>h))).rd,(fun _ _ _=>aK.nil ..),aK.nil ..,aK.nil ..,⟨(b8 (x:=c) (by omega)),(b8 (x:=0) (by omega)),(aB (x:=(ah.mk b false 0).wordV) (by omega)),(aB (x:=((ah.mk b false 0).wordsC 1).wordV) (by omega)),(aB (x:=0) (by omega)),(aB (x:=0) (by omega)),(aB (x:=0) (by omega)),(aB (x:=0) (by omega)),(aB (x:=0) (by omega)),(aB (x:=0) (by omega)),(aB (x:=0) (by omega)),(aB (x:=0) (by omega)),(b8 (x:=0) (by omega)),(b8 (x:=0) (by omega)),(b8 (x:=0) (by omega)),(b8 (x:=0) (by omega)),(b8 (x:=0) (by omega))⟩⟩ (ud bU c3 r)
 have cL:=ap L
 refine sg<|Pl 1<|?_
 refine L0<|b6 (ub o i) mZ fun dW d0 d1=>Pl 1<|nt<|rt<|br<|tr<|bF d0 (.int .i64 4)<|?_
 have hs:ae aD 0 c b=(aP.zero,4):=by
   unfold ae aD cD co ci ek jP eW jL j7 jd db dM
   (try simp only[k,q,z,L,bs,if_true,if_false,decide_true,decide_false,eq_self,true_or,or_true,or_false,false_or,if_true,if_false,bZ,bX,cc,bY,reduceIte,dj])
   all_goals rfl
 rw[hs]
 exact bt (ud s d1 r)
theorem j9{m:Md}{A:Option Addr}{cp:Nat}{b:List Int}{w:World}{c:Int}(hcode:B8 c)(hsl:b7 m w (.slice A b.length cp) b)(hb:b.length≤1048576) :
    Calls Tryz.prog 93 #[.int .i64 1,.int .u8 c,.slice A b.length cp] w (dc (.slice A b.length cp) b (ae aD 1 c b) w):=by
 obtain⟨hcode1,hcode2⟩:=hcode
 have hln:(b.length:Int)≤1048576:=by omega
 refine en 113 Tryz.func93 rfl<|sg<|L0<|bI mZ fun cO cP q h d=>Pl 1<|nt<|sq<|sg<|Pl 6<|nt<|c0<|?_
 refine bq<|sg<|Pl 2<|L0<|dx #[.slice A b.length cp,.int .i64 0,.bool false,.int .i64 0] fun j cQ a s g=>Pl 1<|ng<|Pl 2<|L0<|bI mZ fun cR cS f bv bw=>L0<|b6 bv (mC c) fun P Q bz=>?_
 refine nt<|sq<|sg<|Pl 1<|nt<|bk<|sq<|sg<|Pl 2<|nl<|?_
 refine tn<|?_
 have B:=ud bw bz f
 have l:=aI g B
 have r:=aI d l
 refine cb ((c==1)) (fun i=>?_) (fun i=>?_)
 have bB:=al i
 refine bq<|ct i<|sq<|sg<|Pl 2<|nt<|c0<|bq<|sg<|?_
 refine Pl 1<|?_
 have bC:RC w _ A cp b P j (ah.mk b false 0):=⟨hsl,r,(Nat.le_trans d.size a),⟨0,(ub B s),Nat.zero_le _,rfl⟩,by omega⟩
 refine L0<|Oc<|m3 (dI bC) fun cT bD bE cU=>L0<|Oi ((ah.mk b false 0).byteV)<|Pl 1<|ng<|Pl 4<|cu 3 [41] 44 (((decide (0<((ah.mk b false 0).byteV)))&&(decide (((ah.mk b false 0).byteV)≤250)))) (fun K am=>?_) ?_
 refine bl 41 ((decide (0<((ah.mk b false 0).byteV)))) (fun C=>?_) (fun C=>?_)
 have bG:=of_decide_eq_true C
 exact Pl 3<|ce am (decide (((ah.mk b false 0).byteV)≤250)) (by rw[C];rfl)
 have bG:=of_decide_eq_false C
 exact Pl 3<|ce am false (by rw[C];rfl)
 refine L0<|Oc<|m2 (aV (((decide (0<((ah.mk b false 0).byteV)))&&(decide (((ah.mk b false 0).byteV)≤250)))) 5 bD) fun cV bH bJ=>?_
 refine fd bH fun x43 an ao=>?_
 refine nt<|go<|Pl 2<|L0<|Oc<|nk (f6 (n:=(ah.mk b false 0).byteV) (by omega) ao) fun ar av cW bK bL bM=>?_
 have cX:=Nat.le_trans (ah.bytesR_le x43 ((ah.mk b false 0).byteV)) (RC.clen ao)
 refine Pl 1<|?_
 have aw:=u1 bE (u1 bJ bM im) im
 have Y:=nb (ak s) lr f
 refine L0<|bS (aT aw (Ne.symm Y) Q) 14 (mG c 0 0 0 0 0 0 0 0 0 0 0 nS nS (.slice ar ((x43.bytesR ((ah.mk b false 0).byteV)).length) av) nS 0 0 0 0 0 nS) fun cY bN ax=>nl<|bn<|tn<|sg<|Pl 1<|?_
 have Z:=us aw ax
 have az:=ut r Z (ac (ni d.size a) (ac (ni (le d.size g.size) f) aq))
 refine L0<|Oc<|m2 (dX (RC.upd bL ax (aa Y ay) az)) fun cZ a0 R=>nt<|sq<|sg<|Pl 3<|L0<|e8 (p:=⟨j,3,none⟩) (v:=.int .i64 (((x43.bytesC ((ah.mk b false 0).byteV)).endC).e)) (RC.fld a0)<|Pl 1<|nt<|?_
 have aA:=ud az R (le d.size a)
 refine cb (((((x43.bytesC ((ah.mk b false 0).byteV)).endC).e)!=0)) (fun D=>?_) (fun D=>?_)
 have a1:=au D
 refine sq<|Rg 7 (fun w'=>w'.cell? ⟨j,3,none⟩=some (.int .i64 (((x43.bytesC ((ah.mk b false 0).byteV)).endC).e))) fun d0 S=>?_
 have aC:=RC.upd a0 S ay (aE.step (RC.u a0) S)
 refine bh (RC.fld aC) fun E=>Rt 0 E<|Rt 1 E<|Rt 2 E<|Rt 3 E<|Rl 4 E (fun _ hs=>hs)<|?_
 refine R0 5 rfl<|b6 (ub (ut l (u1 Z (aI R S) im) (ac (nr a) (ac (ni g.size f) aq))) h) mZ fun d1 bO aG=>?_
 have aH:=ud aA (uz S aG) q
 refine bh (RC.fld (RC.upd aC aG (aa (Ne.symm (nb (ak h) lr a)) ay) aH)) fun bP=>Rt 6 bP<|re<|tn<|rt<|tr<|bF bO (.int .i64 (((x43.bytesC ((ah.mk b false 0).byteV)).endC).e))<|?_
 have hs:ae aD 1 c b=aF (aP.mk c 0 0 0 0 0 0 0 0 0 0 0 [] [] (x43.bytesR ((ah.mk b false 0).byteV)) [] 0 0 0 0 0 []) (x43.bytesC ((ah.mk b false 0).byteV)):=by
   subst an
   unfold ae aD cD co ci ek jP eW jL j7 jd db dM
   (try simp only[i,D,bs,if_true,if_false,decide_true,decide_false,eq_self,true_or,or_true,or_false,false_or,if_true,if_false,bZ,bX,cc,bY,reduceIte,dj])
   all_goals rfl
 rw[hs]
 exact bg a1 aH
 have a1:=ai D
 refine bq<|sg<|?_
 refine L0<|ch (aT R (Ne.symm Y) bN)<|?_
 refine L0<|b6 (ub (ut l (u1 Z R im) (ac (nr a) (ac (ni g.size f) aq))) h) (mG c 0 0 0 0 0 0 0 0 0 0 0 nS nS (.slice ar ((x43.bytesR ((ah.mk b false 0).byteV)).length) av) nS 0 0 0 0 0 nS) fun d2 bR bT=>Pl 1<|nt<|rt<|bF bR (.int .i64 0)<|?_
 have hs:ae aD 1 c b=aF (aP.mk c 0 0 0 0 0 0 0 0 0 0 0 [] [] (x43.bytesR ((ah.mk b false 0).byteV)) [] 0 0 0 0 0 []) (x43.bytesC ((ah.mk b false 0).byteV)):=by
   subst an
   unfold ae aD cD co ci ek jP eW jL j7 jd db dM
   (try simp only[i,D,bs,if_true,if_false,decide_true,decide_false,eq_self,true_or,or_true,or_false,false_or,if_true,if_false,bZ,bX,cc,bY,reduceIte,dj])
   all_goals rfl
 rw[hs]
 exact bj a1 ⟨_,_,_,_,_,rfl,aK.nil ..,aK.nil ..,bK,aK.nil ..,aK.nil ..,⟨(b8 (x:=c) (by omega)),(b8 (x:=0) (by omega)),(aB (x:=0) (by omega)),(aB (x:=0) (by omega)),(aB (x:=0) (by omega)),(aB (x:=0) (by omega)),(aB (x:=0) (by omega)),(aB (x:=0) (by omega)),(aB (x:=0) (by omega)),(aB (x:=0) (by omega)),(aB (x:=0) (by omega)),(aB (x:=0) (by omega)),(b8 (x:=0) (by omega)),(b8 (x:=0) (by omega)),(b8 (x:=0) (by omega)),(b8 (x:=0) (by omega)),(b8 (x:=0) (by omega))⟩⟩ (ud aA bT q)
 have bB:=ap i
 refine go<|Pl 2<|nt<|cb ((c==2)) (fun o=>?_) (fun o=>?_)
 have bU:=al o
 refine sq<|sg<|Pl 2<|nt<|c0<|bq<|sg<|Pl 1<|?_
 have bV:RC w _ A cp b P j (ah.mk b false 0):=⟨hsl,r,(Nat.le_trans d.size a),⟨0,(ub B s),Nat.zero_le _,rfl⟩,by omega⟩
 refine L0<|Oc<|m3 (dI bV) fun d3 bW c2 d4=>L0<|Oi ((ah.mk b false 0).byteV)<|Pl 1<|ng<|Pl 4<|cu 3 [41] 44 (((decide (0<((ah.mk b false 0).byteV)))&&(decide (((ah.mk b false 0).byteV)≤250)))) (fun K aJ=>?_) ?_
 refine bl 41 ((decide (0<((ah.mk b false 0).byteV)))) (fun F=>?_) (fun F=>?_)
 have c3:=of_decide_eq_true F
 exact Pl 3<|ce aJ (decide (((ah.mk b false 0).byteV)≤250)) (by rw[F];rfl)
 have c3:=of_decide_eq_false F
 exact Pl 3<|ce aJ false (by rw[F];rfl)
 refine L0<|Oc<|m2 (aV (((decide (0<((ah.mk b false 0).byteV)))&&(decide (((ah.mk b false 0).byteV)≤250)))) 5 bW) fun d5 c4 c5=>?_
 refine fd c4 fun k aL aM=>?_
 refine nt<|go<|Pl 2<|L0<|Oc<|nk (f6 (n:=(ah.mk b false 0).byteV) (by omega) aM) fun aN aO d6 c6 c7 c8=>?_
 have d7:=Nat.le_trans (ah.bytesR_le k ((ah.mk b false 0).byteV)) (RC.clen aM)
 refine Pl 1<|?_
 have aQ:=u1 c2 (u1 c5 c8 im) im
 have a2:=nb (ak s) lr f
 refine L0<|bS (aT aQ (Ne.symm a2) Q) 14 (mG c 0 0 0 0 0 0 0 0 0 0 0 nS nS (.slice aN ((k.bytesR ((ah.mk b false 0).byteV)).length) aO) nS 0 0 0 0 0 nS) fun d8 c9 aS=>nl<|bn<|tn<|sg<|Pl 1<|?_
 have a3:=us aQ aS
 have aU:=ut r a3 (ac (ni d.size a) (ac (ni (le d.size g.size) f) aq))
 refine L0<|Oc<|m2 (dX (RC.upd c7 aS (aa a2 ay) aU)) fun d9 a4 T=>nt<|sq<|sg<|Pl 3<|L0<|e8 (p:=⟨j,3,none⟩) (v:=.int .i64 (((k.bytesC ((ah.mk b false 0).byteV)).endC).e)) (RC.fld a4)<|Pl 1<|nt<|?_
 have aW:=ud aU T (le d.size a)
 refine cb (((((k.bytesC ((ah.mk b false 0).byteV)).endC).e)!=0)) (fun G=>?_) (fun G=>?_)
 have a5:=au G
 refine sq<|Rg 7 (fun w'=>w'.cell? ⟨j,3,none⟩=some (.int .i64 (((k.bytesC ((ah.mk b false 0).byteV)).endC).e))) fun da U=>?_
 have aX:=RC.upd a4 U ay (aE.step (RC.u a4) U)
 refine bh (RC.fld aX) fun H=>Rt 0 H<|Rt 1 H<|Rt 2 H<|Rt 3 H<|Rl 4 H (fun _ hs=>hs)<|?_
 refine R0 5 rfl<|b6 (ub (ut l (u1 a3 (aI T U) im) (ac (nr a) (ac (ni g.size f) aq))) h) mZ fun dd ca aY=>?_
 have aZ:=ud aW (uz U aY) q
 refine bh (RC.fld (RC.upd aX aY (aa (Ne.symm (nb (ak h) lr a)) ay) aZ)) fun cd=>Rt 6 cd<|re<|tn<|rt<|tr<|bF ca (.int .i64 (((k.bytesC ((ah.mk b false 0).byteV)).endC).e))<|?_
 have hs:ae aD 1 c b=aF (aP.mk c 0 0 0 0 0 0 0 0 0 0 0 [] [] (k.bytesR ((ah.mk b false 0).byteV)) [] 0 0 0 0 0 []) (k.bytesC ((ah.mk b false 0).byteV)):=by
   subst aL
   unfold ae aD cD co ci ek jP eW jL j7 jd db dM
   (try simp only[i,o,G,bs,if_true,if_false,decide_true,decide_false,eq_self,true_or,or_true,or_false,false_or,if_true,if_false,bZ,bX,cc,bY,reduceIte,dj])
   all_goals rfl
 rw[hs]
 exact bg a5 aZ
 have a5:=ai G
 refine bq<|sg<|?_
 refine L0<|ch (aT T (Ne.symm a2) c9)<|?_
 refine L0<|b6 (ub (ut l (u1 a3 T im) (ac (nr a) (ac (ni g.size f) aq))) h) (mG c 0 0 0 0 0 0 0 0 0 0 0 nS nS (.slice aN ((k.bytesR ((ah.mk b false 0).byteV)).length) aO) nS 0 0 0 0 0 nS) fun de cf cg=>Pl 1<|nt<|rt<|bF cf (.int .i64 0)<|?_
 have hs:ae aD 1 c b=aF (aP.mk c 0 0 0 0 0 0 0 0 0 0 0 [] [] (k.bytesR ((ah.mk b false 0).byteV)) [] 0 0 0 0 0 []) (k.bytesC ((ah.mk b false 0).byteV)):=by
   subst aL
   unfold ae aD cD co ci ek jP eW jL j7 jd db dM
   (try simp only[i,o,G,bs,if_true,if_false,decide_true,decide_false,eq_self,true_or,or_true,or_false,false_or,if_true,if_false,bZ,bX,cc,bY,reduceIte,dj])
   all_goals rfl
 rw[hs]
 exact bj a5 ⟨_,_,_,_,_,rfl,aK.nil ..,aK.nil ..,c6,aK.nil ..,aK.nil ..,⟨(b8 (x:=c) (by omega)),(b8 (x:=0) (by omega)),(aB (x:=0) (by omega)),(aB (x:=0) (by omega)),(aB (x:=0) (by omega)),(aB (x:=0) (by omega)),(aB (x:=0) (by omega)),(aB (x:=0) (by omega)),(aB (x:=0) (by omega)),(aB (x:=0) (by omega)),(aB (x:=0) (by omega)),(aB (x:=0) (by omega)),(b8 (x:=0) (by omega)),(b8 (x:=0) (by omega)),(b8 (x:=0) (by omega)),(b8 (x:=0) (by omega)),(b8 (x:=0) (by omega))⟩⟩ (ud aW cg q)
 have bU:=ap o
 refine sg<|Pl 2<|nt<|cb ((c==5)) (fun t=>?_) (fun t=>?_)
 have cj:=al t
 refine sg<|Pl 1<|?_
 have ck:RC w _ A cp b P j (ah.mk b false 0):=⟨hsl,r,(Nat.le_trans d.size a),⟨0,(ub B s),Nat.zero_le _,rfl⟩,by omega⟩
 refine L0<|Oc<|m3 (cM ck) fun df cl b0 dg=>Pl 1<|?_
 have I:=nb (ak s) lr f
 refine L0<|bS (aT b0 (Ne.symm I) Q) 2 (mG c 0 ((ah.mk b false 0).wordV) 0 0 0 0 0 0 0 0 0 nS nS nS nS 0 0 0 0 0 nS) fun dh cm b1=>ng<|Pl 1<|?_
 have a6:=us b0 b1
 have b2:=ut r a6 (ac (ni d.size a) (ac (ni (le d.size g.size) f) aq))
 refine L0<|Oc<|m3 (cM (RC.upd cl b1 (aa I ay) b2)) fun di cn b3 dk=>Pl 1<|?_
 refine L0<|bS (aT b3 (Ne.symm I) cm) 4 (mG c 0 ((ah.mk b false 0).wordV) 0 (((ah.mk b false 0).wordsC 1).wordV) 0 0 0 0 0 0 0 nS nS nS nS 0 0 0 0 0 nS) fun dl a7 b4=>nt<|go<|Pl 2<|L0<|aR a7 4<|Pl 2<|cu 4 [62] 66 ((((((ah.mk b false 0).wordsC 1).wordV)==0)||((((ah.mk b false 0).wordsC 1).wordV)==65280))) (fun K b5=>?_) ?_
 refine bl 62 (((((ah.mk b false 0).wordsC 1).wordV)==0)) (fun J=>?_) (fun J=>?_)
 have cq:=al J
 exact Pl 4<|ce b5 true (by rw[J];rfl)
 have cq:=ap J
 exact Pl 1<|L1<|aR a7 4<|Pl 2<|ce b5 ((((ah.mk b false 0).wordsC 1).wordV)==65280) (by rw[J];rfl)
 have a8:=us b3 b4
 have b9:=ut b2 a8 (ac (ni d.size a) (ac (ni (le d.size g.size) f) aq))
 refine L0<|Oc<|m2 (aV ((((((ah.mk b false 0).wordsC 1).wordV)==0)||((((ah.mk b false 0).wordsC 1).wordV)==65280))) 6 (RC.upd cn b4 (aa I ay) b9)) fun dm cr cs=>?_
 refine fd cr fun y ba cv=>?_
 refine nl<|bn<|tn<|sg<|Pl 1<|L0<|Oc<|m2 (dX cv) fun dn a9 cw=>nt<|sq<|sg<|Pl 3<|L0<|e8 (p:=⟨j,3,none⟩) (v:=.int .i64 y.endC.e) (RC.fld a9)<|?_
 refine Pl 1<|nt<|?_
 have V:=u1 cs cw im
 have bb:=ud b9 V (le d.size a)
 refine cb ((y.endC.e != 0)) (fun L=>?_) (fun L=>?_)
 have ab:=au L
 refine sq<|Rg 7 (fun w'=>w'.cell? ⟨j,3,none⟩=some (.int .i64 y.endC.e)) fun dp W=>?_
 have bc:=RC.upd a9 W ay (aE.step (RC.u a9) W)
 refine bh (RC.fld bc) fun M=>Rt 0 M<|Rt 1 M<|Rt 2 M<|Rt 3 M<|Rl 4 M (fun _ hs=>hs)<|?_
 refine R0 5 rfl<|b6 (ub (ut l (ut a6 (u1 a8 (aI V W) im) (ac im (ac im aq))) (ac (nr a) (ac (ni g.size f) aq))) h) mZ fun dq cx bd=>?_
 have be:=ud bb (uz W bd) q
 refine bh (RC.fld (RC.upd bc bd (aa (Ne.symm (nb (ak h) lr a)) ay) be)) fun cy=>Rt 6 cy<|re<|tn<|rt<|tr<|bF cx (.int .i64 y.endC.e)<|?_
 have hs:ae aD 1 c b=aF (aP.mk c 0 ((ah.mk b false 0).wordV) 0 (((ah.mk b false 0).wordsC 1).wordV) 0 0 0 0 0 0 0 [] [] [] [] 0 0 0 0 0 []) y:=by
   subst ba
   unfold ae aD cD co ci ek jP eW jL j7 jd db dM
   (try simp only[i,o,t,L,bs,if_true,if_false,decide_true,decide_false,eq_self,true_or,or_true,or_false,false_or,if_true,if_false,bZ,bX,cc,bY,reduceIte,dj])
   all_goals rfl
 rw[hs]
 exact bg ab be
 have ab:=ai L
 refine bq<|sg<|?_
 refine L0<|ch (aT V (Ne.symm I) a7)<|?_
 refine L0<|b6 (ub (ut l (ut a6 (u1 a8 V im) (ac im (ac im aq))) (ac (nr a) (ac (ni g.size f) aq))) h) (mG c 0 ((ah.mk b false 0).wordV) 0 (((ah.mk b false 0).wordsC 1).wordV) 0 0 0 0 0 0 0 nS nS nS nS 0 0 0 0 0 nS) fun dr cz cA=>Pl 1<|nt<|rt<|bF cz (.int .i64 0)<|?_
 have hs:ae aD 1 c b=aF (aP.mk c 0 ((ah.mk b false 0).wordV) 0 (((ah.mk b false 0).wordsC 1).wordV) 0 0 0 0 0 0 0 [] [] [] [] 0 0 0 0 0 []) y:=by
   subst ba
   unfold ae aD cD co ci ek jP eW jL j7 jd db dM
   (try simp only[i,o,t,L,bs,if_true,if_false,decide_true,decide_false,eq_self,true_or,or_true,or_false,false_or,if_true,if_false,bZ,bX,cc,bY,reduceIte,dj])
   all_goals rfl
 rw[hs]
 exact bj ab ⟨_,_,_,_,_,rfl,aK.nil ..,aK.nil ..,(fun _ _ _=>aK.nil ..),aK.nil ..,aK.nil ..,⟨(b8 (x:=c) (by omega)),(b8 (x:=0) (by omega)),(aB (x:=(ah.mk b false 0).wordV) (by omega)),(aB (x:=0) (by omega)),(aB (x:=((ah.mk b false 0).wordsC 1).wordV) (by omega)),(aB (x:=0) (by omega)),(aB (x:=0) (by omega)),(aB (x:=0) (by omega)),(aB (x:=0) (by omega)),(aB (x:=0) (by omega)),(aB (x:=0) (by omega)),(aB (x:=0) (by omega)),(b8 (x:=0) (by omega)),(b8 (x:=0) (by omega)),(b8 (x:=0) (by omega)),(b8 (x:=0) (by omega)),(b8 (x:=0) (by omega))⟩⟩ (ud bb cA q)
 have cj:=ap t
 refine sg<|Pl 2<|nt<|cb ((c==15)) (fun z=>?_) (fun z=>?_)
 have cB:=al z
 refine sg<|Pl 1<|?_
 have ad:RC w _ A cp b P j (ah.mk b false 0):=⟨hsl,r,(Nat.le_trans d.size a),⟨0,(ub B s),Nat.zero_le _,rfl⟩,by omega⟩
 have bf:=nb (ak s) lr f
 refine L0<|Oc<|m3 (ll (most:=1968) (b8 (by omega)) ad Q (Nat.le_trans (le d.size g.size) f) bf) fun ds cC cE cF=>?_
 have dt:=bQ (RC.rng ad)
 have du:=bQ (c:=(ah.mk b false 0).wordsC 1) (cI (RC.rng ad) 1)
 refine nt<|sq<|sg<|Pl 2<|nt<|c1<|xt<|tx<|bx<|tn<|sq<|?_
 refine go<|Pl 1<|L0<|Oc<|m2 (dX cC) fun dv af bi=>nt<|sq<|sg<|Pl 3<|L0<|e8 (p:=⟨j,3,none⟩) (v:=.int .i64 (((bA (ah.mk b false 0) 1968).endC).e)) (RC.fld af)<|Pl 1<|nt<|?_
 have ag:=u1 cF bi im
 have bm:=ut r ag (ac (ni d.size a) (ac (ni (le d.size g.size) f) aq))
 refine cb (((((bA (ah.mk b false 0) 1968).endC).e)!=0)) (fun N=>?_) (fun N=>?_)
 have aj:=au N
 refine sq<|Rg 7 (fun w'=>w'.cell? ⟨j,3,none⟩=some (.int .i64 (((bA (ah.mk b false 0) 1968).endC).e))) fun dw X=>?_
 have bo:=RC.upd af X ay (aE.step (RC.u af) X)
 refine bh (RC.fld bo) fun O=>Rt 0 O<|Rt 1 O<|Rt 2 O<|Rt 3 O<|Rl 4 O (fun _ hs=>hs)<|?_
 refine R0 5 rfl<|b6 (ub (ut l (aI ag X) (ac (nr a) (ac (ni g.size f) aq))) h) mZ fun dy cG bp=>?_
 have bu:=ud bm (uz X bp) q
 refine bh (RC.fld (RC.upd bo bp (aa (Ne.symm (nb (ak h) lr a)) ay) bu)) fun cH=>Rt 6 cH<|re<|tn<|rt<|tr<|bF cG (.int .i64 (((bA (ah.mk b false 0) 1968).endC).e))<|?_
 have hs:ae aD 1 c b=aF (aP.mk c 0 ((ah.mk b false 0).wordV) (((ah.mk b false 0).wordsC 1).wordV) 0 0 0 0 0 0 0 0 [] [] [] [] 0 0 0 0 0 []) (bA (ah.mk b false 0) 1968):=by
   unfold ae aD cD co ci ek jP eW jL j7 jd db dM
   (try simp only[i,o,t,z,N,bs,if_true,if_false,decide_true,decide_false,eq_self,true_or,or_true,or_false,false_or,if_true,if_false,bZ,bX,cc,bY,reduceIte,dj])
   all_goals rfl
 rw[hs]
 exact bg aj bu
 have aj:=ai N
 refine bq<|sg<|?_
 refine L0<|ch (aT bi (Ne.symm bf) cE)<|?_
 refine L0<|b6 (ub (ut l ag (ac (nr a) (ac (ni g.size f) aq))) h) (mG c 0 ((ah.mk b false 0).wordV) (((ah.mk b false 0).wordsC 1).wordV) 0 0 0 0 0 0 0 0 nS nS nS nS 0 0 0 0 0 nS) fun dz cJ cK=>Pl 1<|nt<|rt<|bF cJ (.int .i64 0)<|?_
 have hs:ae aD 1 c b=aF (aP.mk c 0 ((ah.mk b false 0).wordV) (((ah.mk b false 0).wordsC 1).wordV) 0 0 0 0 0 0 0 0 [] [] [] [] 0 0 0 0 0 []) (bA (ah.mk b false 0) 1968):=by
   unfold ae aD cD co ci ek jP eW jL j7 jd db dM
   (try simp only[i,o,t,z,N,bs,if_true,if_false,decide_true,decide_false,eq_self,true_or,or_true,or_false,false_or,if_true,if_false,bZ,bX,cc,bY,reduceIte,dj])
   all_goals rfl
 rw[hs]
 exact bj aj ⟨_,_,_,_,_,rfl,aK.nil ..,aK.nil ..,(fun _ _ _=>aK.nil ..),aK.nil ..,aK.nil ..,⟨(b8 (x:=c) (by omega)),(b8 (x:=0) (by omega)),(aB (x:=(ah.mk b false 0).wordV) (by omega)),(aB (x:=((ah.mk b false 0).wordsC 1).wordV) (by omega)),(aB (x:=0) (by omega)),(aB (x:=0) (by omega)),(aB (x:=0) (by omega)),(aB (x:=0) (by omega)),(aB (x:=0) (by omega)),(aB (x:=0) (by omega)),(aB (x:=0) (by omega)),(aB (x:=0) (by omega)),(b8 (x:=0) (by omega)),(b8 (x:=0) (by omega)),(b8 (x:=0) (by omega)),(b8 (x:=0) (by omega)),(b8 (x:=0) (by omega))⟩⟩ (ud bm cK q)
 have cB:=ap z
 refine sg<|Pl 1<|?_
 refine L0<|b6 (ub l h) mZ fun dA cL cN=>Pl 1<|nt<|rt<|br<|tr<|bF cL (.int .i64 4)<|?_
 have hs:ae aD 1 c b=(aP.zero,4):=by
   unfold ae aD cD co ci ek jP eW jL j7 jd db dM
   (try simp only[i,o,t,z,bs,if_true,if_false,decide_true,decide_false,eq_self,true_or,or_true,or_false,false_or,if_true,if_false,bZ,bX,cc,bY,reduceIte,dj])
   all_goals rfl
 rw[hs]
 exact bt (ud r cN q)
theorem jx{m:Md}{A:Option Addr}{cp:Nat}{b:List Int}{w:World}{dir c:Int}(hcode:B8 c)(hsl:b7 m w (.slice A b.length cp) b)(hb:b.length≤1048576)(hd:¬ (dir=0∨dir=1)) :
    Calls Tryz.prog 93 #[.int .i64 dir,.int .u8 c,.slice A b.length cp] w (dc (.slice A b.length cp) b (ae aD dir c b) w):=by
 obtain⟨hcode1,hcode2⟩:=hcode
 have hln:(b.length:Int)≤1048576:=by omega
 have e0:(dir != 0)=true:=by simp;omega
 have e1:(dir != 1)=true:=by simp;omega
 refine en 113 Tryz.func93 rfl<|sg<|L0<|bI mZ fun g h a d e=>Pl 1<|nt<|sq<|sg<|Pl 3<|sy 16 e0<|Pl 3<|nl<|?_
 refine tn<|ct e1<|sg<|Pl 1<|L0<|b6 d mZ fun i dy f=>Pl 1<|nt<|rt<|tr<|bF dy (.int .i64 1)<|?_
 have hs:ae aD dir c b=(aP.zero,1):=by
   unfold ae aD cD co ci ek jP eW jL j7 jd db dM
   (try simp only[e0,e1,bs,if_true,if_false,decide_true,decide_false,eq_self,true_or,or_true,or_false,false_or,if_true,if_false,bZ,bX,cc,bY,reduceIte,hd,dj])
   all_goals rfl
 rw[hs]
 exact bt (ud e f a)
open Go.RowKit
theorem gl{C:ah}(h:i5 C){b:Bool}{x:Int}:i5 (C.need b x):=fun y hy=>h y (by rwa [ja] at hy)
theorem gC{C:ah}(h:i5 C){n:Int}:i5 (C.bytesC n):=gR h n
theorem kM{C:ah}(h:i5 C){n:Int}:i5 (C.wordsC n):=cI h n
theorem sj(C:ah)(x:Int) : (C.bytesC 1).need (!(C.bytesC 1).sh) x=C.bytesC 1:=by
  by_cases hf:C.fails 1=true
  · exact dO (ez hf)
  · have h:(C.bytesC 1).sh=false:=by
      unfold ah.bytesC
      rw[if_neg hf]
      unfold ah.fails at hf
      simp only[Bool.or_eq_true,decide_eq_true_eq,not_or] at hf
      show C.sh=false
      simpa using hf.1.1
    rw[h]
    unfold ah.need
    rw[if_neg (by rintro⟨_,h⟩;cases h)]
theorem qG{v:Int}(h:0≤v) : decide (0<v)=(v != 0):=by
  rw[Bool.eq_iff_iff]
  simp only[decide_eq_true_eq,bne_iff_ne,ne_eq]
  omega
def vE (C:ah) : ah:=((C.bytesC 1).need (!(C.bytesC 1).sh) 5).need (C.byteV==6) 9
def vC (C:ah) : ah:=((vE C).wordsC 1).need (decide (0<(vE C).wordV)) 6
def vD (C:ah) : ah:=((vC C).wordsC 1).need (decide ((vC C).wordV≤9999)) 7
def rz (C:ah) : ah:=((vD C).wordsC 1).need (decide (0<(vD C).wordV)) 5
theorem qC(C:ah) : vE C=gX C:=by unfold vE gX;rw[sj]
theorem oK{C:ah}(h:i5 C) : i5 (gX C):=gl (gC h)
theorem rP{C:ah}(h:i5 C) : vC C=gY C:=by unfold vC gY;rw[qC,qG (bQ (oK h)).1]
theorem tg{C:ah}(h:i5 C) : i5 (gY C):=gl (kM (oK h))
theorem rl{C:ah}(h:i5 C) : vD C=lU C:=by unfold vD lU;rw[rP h]
theorem th{C:ah}(h:i5 C) : i5 (lU C):=gl (kM (tg h))
theorem pY{C:ah}(h:i5 C) : rz C=dv C:=by unfold rz dv;rw[rl h,qG (bQ (th h)).1]
theorem tT{C:ah}(h:C.e≠0) : C.endC=C:=by unfold ah.endC;exact dO h
theorem u2{b:List Int}(h:b.length≠0) : (ah.mk b false 0).byteV=b.getD 0 0∧(ah.mk b false 0).bytesC 1=⟨b.drop 1,false,0⟩:=by
  have hf:¬ (ah.mk b false 0).fails 1=true:=by
    unfold ah.fails
    simp only[Bool.or_eq_true,decide_eq_true_eq,not_or]
    exact⟨⟨by decide,by decide⟩,by omega⟩
  constructor
  · unfold ah.byteV ah.bytesR
    rw[if_neg hf]
    rcases b with _|⟨x,t⟩
    · exact absurd rfl h
    · rfl
  · unfold ah.bytesC
    rw[if_neg hf]
    rfl
def cQ (b:List Int)(n:Int) : List Int:=(b.take (n+1).toNat).drop 1
def dn (one:Int→ah→Int × ah × di)(c:Int)(b:List Int) : aP × Int :=
  if (aN one (cQ b (b.getD 0 0)).length 0 ⟨cQ b (b.getD 0 0),false,0⟩ []).1.e != 0 then (aP.zero,bo (aN one (cQ b (b.getD 0 0)).length 0 ⟨cQ b (b.getD 0 0),false,0⟩ []).1.e)
  else if decide (b.getD 0 0+1<(b.length:Int)) then (aP.zero,3)
  else ({ aP.zero with code:=c,recs:=(aN one (cQ b (b.getD 0 0)).length 0 ⟨cQ b (b.getD 0 0),false,0⟩ []).2 },0)
def bH (one:Int→ah→Int × ah × di)(may:Int→Bool)(c:Int)(b:List Int) : aP × Int :=
  if (b.length:Int)==0 then (aP.zero,2)
  else if !(may (b.getD 0 0)) then (aP.zero,5)
  else if decide ((b.length:Int)<b.getD 0 0+1) then (aP.zero,2)
  else dn one c b
theorem j0{M:aP}{C:ah}(h:C.e≠0) : aF M C=(aP.zero,C.e):=by
  unfold aF
  rw[tT h,if_neg h]
theorem io{one:Int→ah→Int × ah × di}{may:Int→Bool}{c:Int}{b:List Int}(hr:∀ x,x∈b→0≤x∧x<256) : aF (dL one may c ⟨b,false,0⟩).2 (dL one may c ⟨b,false,0⟩).1=bH one may c b:=by
  unfold bH
  by_cases h0:b.length=0
  · rw[if_pos (by rw[beq_iff_eq];omega)]
    obtain rfl:=List.eq_nil_of_length_eq_zero h0
    have e1:(jK may ⟨[],false,0⟩).e=2:=by
      unfold jK
      rw[dO (ez (by decide))]
      rfl
    have e2:((jK may ⟨[],false,0⟩).bytesC (ah.mk [] false 0).byteV).e=2:=by
      have hs:(jK may ⟨[],false,0⟩).sh=true:=by
        unfold jK
        rw[dO (ez (by decide))]
        rfl
      unfold ah.bytesC
      rw[if_pos (by unfold ah.fails;rw[hs];rfl),dO (by show(jK may ⟨[],false,0⟩).e≠0;rw[e1];decide)]
      exact e1
    unfold dL
    dsimp only
    rw[dO (by rw[e2];decide),j0 (by rw[e2];decide),e2]
  rw[if_neg (by rw[beq_iff_eq];omega)]
  obtain⟨e1,e2⟩:=u2 h0
  have hn:0≤b.getD 0 0∧b.getD 0 0<256:=by
    rcases b with _|⟨x,t⟩
    · exact absurd rfl h0
    · exact hr x (by simp)
  by_cases hm:may (b.getD 0 0)=true
  · rw[if_neg (by rw[hm];decide)]
    have e3:jK may ⟨b,false,0⟩=⟨b.drop 1,false,0⟩:=by
      unfold jK
      rw[e1,e2,hm]
      rfl
    by_cases hs:(b.length:Int)<b.getD 0 0+1
    · rw[if_pos (by simpa using hs)]
      have hf:(ah.mk (b.drop 1) false 0).fails (b.getD 0 0)=true:=by
        unfold ah.fails
        simp only[Bool.or_eq_true,decide_eq_true_eq,List.length_drop]
        exact .inr (by omega)
      have e4:(jK may ⟨b,false,0⟩).bytesC (ah.mk b false 0).byteV=⟨[],true,2⟩:=by
        rw[e1,e3]
        unfold ah.bytesC
        rw[if_pos hf]
        rfl
      unfold dL
      dsimp only
      rw[e4,dO (by decide),j0 (by decide)]
    · rw[if_neg (by simpa using hs)]
      have hf:¬ (ah.mk (b.drop 1) false 0).fails (b.getD 0 0)=true:=by
        unfold ah.fails
        simp only[Bool.or_eq_true,decide_eq_true_eq,List.length_drop,not_or]
        exact⟨⟨by decide,by omega⟩,by omega⟩
      have e4:(jK may ⟨b,false,0⟩).bytesC (ah.mk b false 0).byteV=⟨(b.drop 1).drop (b.getD 0 0).toNat,false,0⟩:=by
        rw[e1,e3]
        unfold ah.bytesC
        rw[if_neg hf]
      have e5:sd may ⟨b,false,0⟩=⟨cQ b (b.getD 0 0),false,0⟩:=by
        unfold sd cQ
        rw[e1,e3]
        unfold ah.bytesR
        rw[if_neg hf,show(b.getD 0 0+1).toNat=1+(b.getD 0 0).toNat from by omega,List.drop_take]
        rw[show 1+(b.getD 0 0).toNat-1=(b.getD 0 0).toNat from by omega]
      unfold dL dn sc
      dsimp only
      rw[e4,e5]
      by_cases hz:(aN one (cQ b (b.getD 0 0)).length 0 ⟨cQ b (b.getD 0 0),false,0⟩ []).1.e=0
      · rw[hz,if_neg (by decide)]
        have e6:(ah.mk ((b.drop 1).drop (b.getD 0 0).toNat) false 0).need ((0:Int)==0) (bo 0)=⟨(b.drop 1).drop (b.getD 0 0).toNat,false,0⟩:=rfl
        rw[e6]
        by_cases hl:b.getD 0 0+1<(b.length:Int)
        · rw[if_pos (by simpa using hl)]
          have e7:(ah.mk ((b.drop 1).drop (b.getD 0 0).toNat) false 0).endC=⟨(b.drop 1).drop (b.getD 0 0).toNat,false,3⟩:=by
            unfold ah.endC ah.need
            rw[if_pos ⟨rfl,by rw[beq_eq_false_iff_ne];simp only[List.length_drop];omega⟩]
          unfold aF
          rw[e7,if_neg (show ¬ (3:Int)=0 from by decide)]
        · rw[if_neg (by simpa using hl)]
          have e7:(ah.mk ((b.drop 1).drop (b.getD 0 0).toNat) false 0).endC=⟨(b.drop 1).drop (b.getD 0 0).toNat,false,0⟩:=by
            unfold ah.endC ah.need
            rw[if_neg (by rintro⟨_,h⟩;rw[beq_eq_false_iff_ne] at h;simp only[List.length_drop] at h;omega)]
          unfold aF
          rw[e7,if_pos rfl]
      · rw[if_pos (by simpa using hz)]
        have hw:bo (aN one (cQ b (b.getD 0 0)).length 0 ⟨cQ b (b.getD 0 0),false,0⟩ []).1.e≠0:=by
          unfold bo
          split
          · decide
          · exact hz
        have e6:(ah.mk ((b.drop 1).drop (b.getD 0 0).toNat) false 0).need ((aN one (cQ b (b.getD 0 0)).length 0 ⟨cQ b (b.getD 0 0),false,0⟩ []).1.e==0) (bo (aN one (cQ b (b.getD 0 0)).length 0 ⟨cQ b (b.getD 0 0),false,0⟩ []).1.e)=⟨(b.drop 1).drop (b.getD 0 0).toNat,false,bo (aN one (cQ b (b.getD 0 0)).length 0 ⟨cQ b (b.getD 0 0),false,0⟩ []).1.e⟩:=by
          unfold ah.need
          rw[if_pos ⟨rfl,by simpa using hz⟩]
        rw[e6,j0 hw]
  · have hm:may (b.getD 0 0)=false:=by simpa using hm
    rw[if_pos (by rw[hm];rfl)]
    have e3:jK may ⟨b,false,0⟩=⟨b.drop 1,false,5⟩:=by
      unfold jK
      rw[e1,e2,hm]
      rfl
    have e4:((jK may ⟨b,false,0⟩).bytesC (ah.mk b false 0).byteV).e=5:=by
      rw[e3]
      unfold ah.bytesC
      split
      · rfl
      · rfl
    unfold dL
    dsimp only
    rw[dO (by rw[e4];decide),j0 (by rw[e4];decide),e4]
theorem ot{b:List Int}(hr:∀ x,x∈b→0≤x∧x<256) : ae aY 0 20 b=bH cN ed 20 b:=io hr
theorem nM{b:List Int}(hr:∀ x,x∈b→0≤x∧x<256) : ae aY 1 20 b=bH bG eb 20 b:=io hr
theorem s6{dir:Int}{b:List Int}(hd:dir=0∨dir=1)(hr:∀ x,x∈b→0≤x∧x<256) : ae aY dir 21 b=bH cK ee 21 b:=by
  unfold ae
  rw[if_pos hd]
  exact io hr
theorem sI:∀ n:Nat,n<256→(decide (1≤(n:Int)%128)&&decide ((n:Int)%128≤3))=bW (n:Int):=by decide +kernel
theorem v9{x:Int}(h:0≤x∧x<256) : (decide (1≤x%128)&&decide (x%128≤3))=bW x:=by
  obtain⟨n,rfl⟩:=Int.eq_ofNat_of_zero_le h.1
  exact sI n (by omega)
theorem tN{x:Int}:(decide (0<x)&&decide (x<5))=(decide (1≤x)&&decide (x≤4)):=by
  rw[Bool.eq_iff_iff]
  simp only[Bool.and_eq_true,decide_eq_true_eq]
  omega
def dV (C:ah) : ah:=((dq C).bytesC 1).need (decide (0<(dq C).byteV)&&decide ((dq C).byteV<5)) 6
theorem sb(C:ah) : dV C=fy C:=by unfold dV fy;rw[tN]
def eo (C:ah) : ah:=(C.bytesC 1).need (decide (1≤C.byteV%128)&&decide (C.byteV%128≤3)) 6
def eM (C:ah) : ah:=((eo C).bytesC 1).need ((eo C).byteV==0 || (eo C).byteV==255) 6
def eO (C:ah) : ah:=((eM C).bytesC 1).need ((eM C).byteV==0 || (eo C).byteV==255) 6
def fF (kd:Int)(C:ah) : ah:=((eO C).bytesC 1).need ((eO C).byteV==1 || kd != 4) 5
def da (kd:Int)(C:ah) : ah × List Obj:=ej (eO C).byteV.toNat (fF kd C) []
theorem j6{C:ah}(h:i5 C) : eo C=jT C:=by unfold eo jT;rw[v9 (gS h)]
theorem mJ{C:ah}(h:i5 C) : eM C=jQ C:=by unfold eM jQ;rw[j6 h]
theorem rb{C:ah}(h:i5 C) : eO C=qq C:=by
  unfold eO qq
  rw[mJ h,j6 h]
  by_cases e:((jQ C).bytesC 1).e=0
  · have h1:=(lX e).1
    unfold jQ at h1
    have h2:=(rX (by decide) h1).2
    congr 1
    rw[Bool.eq_iff_iff]
    simp only[Bool.or_eq_true,beq_iff_eq,bne_iff_ne,ne_eq] at h2 ⊢
    omega
  · rw[dO e,dO e]
theorem mE{kd:Int}{C:ah}(h:i5 C) : da kd C=el kd C:=by
  unfold da el fF vj
  rw[rb h,Bool.or_comm]
def bM (dir c:Int)(C:ah) : Option (ah × aP) :=
  if c != 43 then none
  else if C.byteV==13 then some ((ef C).bytesC ((dq C).l.length:Int),{ aP.zero with code:=43,mei:=C.byteV,data:=(ef C).bytesR ((dq C).l.length:Int) })
  else if dir==0 then some ((dV C).bytesC 1,{ aP.zero with code:=43,mei:=C.byteV,kind:=(dq C).byteV,next:=(dV C).byteV })
  else some ((da (dq C).byteV (dV C)).1,{ aP.zero with code:=43,mei:=C.byteV,kind:=(dq C).byteV,level:=(dV C).byteV,more:=(eo (dV C)).byteV,next:=(eM (dV C)).byteV,objects:=(da (dq C).byteV (dV C)).2 })
theorem ms{dir c:Int}{b:List Int}(hr:∀ x,x∈b→0≤x∧x<256) : ae bM dir c b=ae bE dir c b:=by
  unfold ae
  split
  · rename_i hd
    unfold bM bE
    by_cases hc:c=43
    · subst hc
      have hD:i5 (dV ⟨b,false,0⟩):=gl (gC (gl (gC (C:=⟨b,false,0⟩) hr)))
      have hl:(ef ⟨b,false,0⟩).l.length=(dq ⟨b,false,0⟩).l.length:=by unfold ef;rw[ja]
      rw[if_neg (show ¬ (((43:Int)!=43)=true) from by decide),if_neg (show ¬ (((43:Int)!=43)=true) from by decide),j6 hD,mJ hD,mE hD,sb,hl]
      rcases hd with rfl|rfl
      · rw[if_pos (show((0:Int)==0)=true from rfl),if_neg (show ¬ ((0:Int)==1)=true from by decide)]
      · rw[if_neg (show ¬ ((1:Int)==0)=true from by decide),if_pos (show((1:Int)==1)=true from rfl)]
    · rw[if_pos (by simpa using hc),if_pos (by simpa using hc)]
  · rfl
end Go.Proofs.YtogbnemojakcpaaGreat
