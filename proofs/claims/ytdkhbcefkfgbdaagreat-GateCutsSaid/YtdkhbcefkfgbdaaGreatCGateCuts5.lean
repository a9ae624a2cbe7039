/- Contracts of functions, part CGateCuts5. -/
import Derived.Test.YtdkhbcefkfgbdaaGreatCGateCuts1
import Derived.Test.YtdkhbcefkfgbdaaGreatCGateCuts2
import Derived.Test.YtdkhbcefkfgbdaaGreatCGateCuts3
import Derived.Test.YtdkhbcefkfgbdaaGreatCGateCuts4
import Derived.Lib.AppendZeros
import Derived.Lib.AppendZerosOnto
import Derived.Laws.AppendOwn
import Derived.Deep.Slices
import Derived.ChangeArms
import Derived.WideShapes
import Derived.SizedLaws
set_option linter.unusedVariables false
set_option linter.unusedSimpArgs false
set_option maxRecDepth 100000
set_option maxHeartbeats 4000000
namespace Go.Proofs.YtdkhbcefkfgbdaaGreat
open Go.RowKit
def lN (k dir:Int)(b:List Int) : bu × Int:=bif k==0 then eQ dir b else bif k==1 then e9 dir b else bif k==2 then cy dir b else (bu.zero,1)
def jN (k dir u t:Int)(M:b6) : Option (List Int):=bif k==0 then gU dir u t M else bif k==1 then gV dir u t M else bif k==2 then eE dir u t M else none
def zC (k:Int) : Int:=bif k==0 then 256 else bif k==1 then 513 else bif k==2 then 260 else 0
theorem k4{C:Prop}(k:Int)(h0:k=0→C)(h1:k=1→C)(h2:k=2→C)(h3:(k==0)=false→(k==1)=false→(k==2)=false→C) : C:=by
  cases e0:k==0
  · cases e1:k==1
    · cases e2:k==2
      · exact h3 e0 e1 e2
      · exact h2 (by simpa using e2)
    · exact h1 (by simpa using e1)
  · exact h0 (by simpa using e0)
theorem ke(x:Int) : x%3=0∨x%3=1∨x%3=2:=by omega
variable {b:List Int}{dir k:Int}
theorem wH(h0:(k==0)=false)(h1:(k==1)=false)(h2:(k==2)=false) : lN k dir b=(bu.zero,1):=by unfold lN;rw[h0,h1,h2];rfl
variable {M:b6}{t u:Int}
theorem si(h0:(k==0)=false)(h1:(k==1)=false)(h2:(k==2)=false) : jN k dir u t M=none:=by unfold jN;rw[h0,h1,h2];rfl
theorem Bj(h0:(k==0)=false)(h1:(k==1)=false)(h2:(k==2)=false) : zC k=0:=by unfold zC;rw[h0,h1,h2];rfl
def iT (base:Nat)(w:World)(v:Value)(xs:List Int) : Prop:=aR true w v xs∧∃ A n c,v = .slice A n c∧∀ x,x∈ob A→base≤x
variable {base:Nat}{v:Value}{w:World}{xs:List Int}
theorem iT.wk{base':Nat}    (h:iT base w v xs)(k:base'≤base) : iT base' w v xs:=by
  obtain⟨h1,A,n,c,h2,h3⟩:=h
  exact⟨h1,A,n,c,h2,fun x hx=>Nat.le_trans k (h3 x hx)⟩
def WR (res:Option (List Int))(base:Nat)(w:World)(v:Value)(n:Int) : Prop:=match res with
  | some l=>n=0∧iT base w v l
  | none=>n=1∧v = .slice none 0 0
theorem WR.wk{res:Option (List Int)}{base':Nat}   {n:Int}(h:WR res base w v n)(k:base'≤base) : WR res base' w v n:=by
  cases res with
  | none=>exact h
  | some l=>exact⟨h.1,h.2.wk k⟩
def vp (res:Option (List Int))(w:World)(e:Ending)(w':World) : Prop:=∃ v n,e = .returned (.tuple #[v,.int .i64 n])∧WR res w.heap.size w' v n∧ap [] w w'
theorem iT.of(h:cn base w v xs) : iT base w v xs:=by
  obtain⟨A,c,rfl,_,_⟩:=h.rd.shape
  exact⟨h.rd,A,_,c,rfl,fD h⟩
theorem iT.ofF(h:iY base w v xs) : iT base w v xs:=by
  obtain⟨b,c,rfl⟩:=h.shape
  exact⟨h.rd,_,_,c,rfl,fun x hx=>by simp[ob] at hx;subst hx;exact h.ge⟩
theorem sQ:Calls Tryz.prog 59 #[vI 0] w (bH (.iface 133 (.agg #[])) w):=by
 exact en 18 Tryz.func59 rfl<|ay 1<|sq<|ay 1<|bk<|sq<|go<|al 2<|c1<|ay 3<|rt<|br<|tr<|rr (.iface 133 (.agg #[]))<|⟨rfl,(ap.refl [] _)⟩
theorem tc:Calls Tryz.prog 59 #[vI 1] w (bH (.iface 134 (.agg #[])) w):=by
 exact en 18 Tryz.func59 rfl<|ay 1<|sq<|ay 1<|bk<|sq<|go<|al 2<|c0<|ay 2<|c1<|au 3<|nl<|tn<|rt<|br<|tr<|rr (.iface 134 (.agg #[]))<|⟨rfl,(ap.refl [] _)⟩
theorem sR:Calls Tryz.prog 59 #[vI 2] w (bH (.iface 135 (.agg #[])) w):=by
 exact en 18 Tryz.func59 rfl<|ay 1<|sq<|ay 1<|bk<|sq<|go<|al 2<|c0<|ay 2<|c0<|au 2<|nl<|tn<|c1<|ay 3<|rt<|br<|tr<|rr (.iface 135 (.agg #[]))<|⟨rfl,(ap.refl [] _)⟩
theorem t6(h0:(k==0)=false)(h1:(k==1)=false)(h2:(k==2)=false) : Calls Tryz.prog 59 #[vI k] w (bH (.iface 136 (.agg #[])) w):=by
 exact en 18 Tryz.func59 rfl<|ay 1<|sq<|ay 1<|bk<|sq<|go<|al 2<|cf h0<|ay 2<|cf h1<|au 2<|nl<|tn<|cf h2<|sk<|bn<|tn<|ay 3<|rt<|rr (.iface 136 (.agg #[]))<|⟨rfl,(ap.refl [] _)⟩
theorem zD:Calls Tryz.prog 259 #[.agg #[]] w (bH (vI 256) w):=by
 exact en 3 Tryz.func259 rfl<|sg<|L0<|cU #[] fun b c d e a=>Pl 1<|dl 1<|rt<|rr (vI 256)<|⟨rfl,a⟩
theorem uV:Calls Tryz.prog 58 #[vI 0] w (bH (vI 256) w):=by
 refine en 6 Tryz.func58 rfl<|au 1<|aS 1<|aF<|m1 (sQ) fun c a=>L0<|vx (f:=259) (args:=#[.agg #[]]) 133 (.agg #[]) (.agg #[])<|m1 (@zD _) fun d b=>al 1<|rt<|rr (vI 256)<|?_
 exact⟨rfl,(aH a b)⟩
theorem ze:Calls Tryz.prog 263 #[.agg #[]] w (bH (vI 513) w):=by
 exact en 3 Tryz.func263 rfl<|sg<|L0<|cU #[] fun b c d e a=>Pl 1<|dl 1<|rt<|rr (vI 513)<|⟨rfl,a⟩
theorem v7:Calls Tryz.prog 58 #[vI 1] w (bH (vI 513) w):=by
 refine en 6 Tryz.func58 rfl<|au 1<|aS 1<|aF<|m1 (tc) fun c a=>L0<|vx (f:=263) (args:=#[.agg #[]]) 134 (.agg #[]) (.agg #[])<|m1 (@ze _) fun d b=>al 1<|rt<|rr (vI 513)<|?_
 exact⟨rfl,(aH a b)⟩
theorem yZ:Calls Tryz.prog 272 #[.agg #[]] w (bH (vI 260) w):=by
 exact en 3 Tryz.func272 rfl<|sg<|L0<|cU #[] fun b c d e a=>Pl 1<|dl 1<|rt<|rr (vI 260)<|⟨rfl,a⟩
theorem uX:Calls Tryz.prog 58 #[vI 2] w (bH (vI 260) w):=by
 refine en 6 Tryz.func58 rfl<|au 1<|aS 1<|aF<|m1 (sR) fun c a=>L0<|vx (f:=272) (args:=#[.agg #[]]) 135 (.agg #[]) (.agg #[])<|m1 (@yZ _) fun d b=>al 1<|rt<|rr (vI 260)<|?_
 exact⟨rfl,(aH a b)⟩
theorem yT:Calls Tryz.prog 276 #[.agg #[]] w (bH (vI 0) w):=by
 exact en 3 Tryz.func276 rfl<|sg<|L0<|cU #[] fun b c d e a=>Pl 1<|dl 1<|rt<|rr (vI 0)<|⟨rfl,a⟩
theorem u2(h0:(k==0)=false)(h1:(k==1)=false)(h2:(k==2)=false) : Calls Tryz.prog 58 #[vI k] w (bH (vI 0) w):=by
 refine en 6 Tryz.func58 rfl<|au 1<|aS 1<|aF<|m1 (t6 h0 h1 h2) fun c a=>L0<|vx (f:=276) (args:=#[.agg #[]]) 136 (.agg #[]) (.agg #[])<|m1 (@yT _) fun d b=>al 1<|rt<|rr (vI 0)<|?_
 exact⟨rfl,(aH a b)⟩
theorem j7:Calls Tryz.prog 58 #[.int .i64 k] w (bH (.int .i64 (zC k)) w):=by
  refine k4 k (fun h=>?_) (fun h=>?_) (fun h=>?_) (fun h0 h1 h2=>?_)
  · subst h;exact uV
  · subst h;exact v7
  · subst h;exact uX
  · rw[Bj h0 h1 h2];exact u2 h0 h1 h2
variable {m:Md}{x:SL}
theorem rl(h:aE m w (j6 M x).toList M)(hf:bf M)(hbu:0≤u∧u<256)(hbt:0≤t∧t<65536) : Calls Tryz.prog 262 #[.int .i64 dir,.agg (ep u t M x)] w (vp (gU dir u t M) w):=by
  cases hX:gU dir u t M with
  | none =>
    refine(oU hX h hf hbu hbt).mono ?_
    rintro e w' ⟨rfl,hu⟩
    exact⟨_,_,rfl,⟨rfl,rfl⟩,hu⟩
  | some l =>
    refine(pi hX h hf hbu hbt).mono ?_
    rintro e w' ⟨v,rfl,ho,hu⟩
    exact⟨_,_,rfl,⟨rfl,iT.of ho⟩,hu⟩
theorem zk(h:aE m w (j6 M x).toList M)(hf:bf M)(hbu:0≤u∧u<256)(hbt:0≤t∧t<65536) : Calls Tryz.prog 261 #[.agg #[],vI dir,.agg (ep u t M x)] w (vp (gU dir u t M) w):=by
 refine en 13 Tryz.func261 rfl<|sg<|L0<|cU #[] fun j k l n b=>L0<|cU (ep u t M x) fun o p q c d=>Pl 2<|aS 1<|L0<|cH c<|?_
 have a:=aH b d
 refine aF<|A8 (rl (dir:=dir) (aE.old h a) hf hbu hbt) fun e f r g i=>al 4<|rt<|rr (.tuple #[e,vI f])<|?_
 exact⟨_,_,rfl,g.wk a.size,(aH a i)⟩
theorem ri(h:aE m w (j6 M x).toList M)(hf:bf M)(hbu:0≤u∧u<256)(hbt:0≤t∧t<65536) : Calls Tryz.prog 27 #[vI 0,vI dir,.agg (ep u t M x)] w (vp (gU dir u t M) w):=by
 refine en 15 Tryz.func27 rfl<|sg<|L0<|cU (ep u t M x) fun d s v n o=>al 2<|sq<|Rg 9 (fun w'=>w'.heap[d]? = some (.cells (ep u t M x) 47 (0,0))) fun y e=>?_
 have i:=ub e n
 refine b9 i fun b=>Rt 0 b<|Rt 2 b<|Rr 3 b (.agg (ep u t M x)) (fun w' hs=>gg (g:=d) (off:=0) [vB u,vW t,vB M.code,vB M.fail,vW M.addr,vW M.count,vW M.value,vW M.and_,vW M.or_,vW M.addr2,vW M.sub,vW M.status,vW M.events,vW M.messages,.slice x.aw M.words.length x.kw,.slice x.ab M.bits.length x.kb,.slice x.ad M.data.length x.kd,.slice x.ar M.recs.length x.kr,vB M.mei,vB M.kind,vB M.level,vB M.more,vB M.next,.slice x.ao M.objects.length x.ko] rfl (by kernel_rfl) hs (by kernel_rfl) (by kernel_rfl) rfl)<|R0 1 rfl<|Oc<|m1 (sQ) fun z j=>?_
 have k:=ub j i
 refine b9 k fun A=>?_
 have c:=aH o (aH e j)
 refine R0 4 rfl<|vx (f:=261) (args:=#[.agg #[],vI dir,.agg (ep u t M x)]) 133 (.agg #[]) (.agg #[])<|A8 (zk (dir:=dir) (aE.old h c) hf hbu hbt) fun p q B r l=>?_
 refine b9 (ub l k) fun a=>Rt 5 a<|Rt 6 a<|Rt 7 a<|Rt 8 a<|re<|tn<|rt<|rr (.tuple #[p,vI q])<|?_
 exact⟨_,_,rfl,r.wk c.size,(aH c l)⟩
theorem rJ(h:aE m w (j6 M x).toList M)(hf:bf M)(hbu:0≤u∧u<256)(hbt:0≤t∧t<65536) : Calls Tryz.prog 266 #[.int .i64 dir,.agg (ep u t M x)] w (vp (gV dir u t M) w):=by
  cases hX:gV dir u t M with
  | none =>
    refine(ou hX h hf hbu hbt).mono ?_
    rintro e w' ⟨rfl,hu⟩
    exact⟨_,_,rfl,⟨rfl,rfl⟩,hu⟩
  | some l =>
    refine(pp hX h hf hbu hbt).mono ?_
    rintro e w' ⟨v,rfl,ho,hu⟩
    exact⟨_,_,rfl,⟨rfl,iT.ofF ho⟩,hu⟩
theorem yx(h:aE m w (j6 M x).toList M)(hf:bf M)(hbu:0≤u∧u<256)(hbt:0≤t∧t<65536) : Calls Tryz.prog 265 #[.agg #[],vI dir,.agg (ep u t M x)] w (vp (gV dir u t M) w):=by
 refine en 13 Tryz.func265 rfl<|sg<|L0<|cU #[] fun j k l n b=>L0<|cU (ep u t M x) fun o p q c d=>Pl 2<|aS 1<|L0<|cH c<|?_
 have a:=aH b d
 refine aF<|A8 (rJ (dir:=dir) (aE.old h a) hf hbu hbt) fun e f r g i=>al 4<|rt<|rr (.tuple #[e,vI f])<|?_
 exact⟨_,_,rfl,g.wk a.size,(aH a i)⟩
theorem qV(h:aE m w (j6 M x).toList M)(hf:bf M)(hbu:0≤u∧u<256)(hbt:0≤t∧t<65536) : Calls Tryz.prog 27 #[vI 1,vI dir,.agg (ep u t M x)] w (vp (gV dir u t M) w):=by
 refine en 15 Tryz.func27 rfl<|sg<|L0<|cU (ep u t M x) fun d s v n o=>al 2<|sq<|Rg 9 (fun w'=>w'.heap[d]? = some (.cells (ep u t M x) 47 (0,0))) fun y e=>?_
 have i:=ub e n
 refine b9 i fun b=>Rt 0 b<|Rt 2 b<|Rr 3 b (.agg (ep u t M x)) (fun w' hs=>gg (g:=d) (off:=0) [vB u,vW t,vB M.code,vB M.fail,vW M.addr,vW M.count,vW M.value,vW M.and_,vW M.or_,vW M.addr2,vW M.sub,vW M.status,vW M.events,vW M.messages,.slice x.aw M.words.length x.kw,.slice x.ab M.bits.length x.kb,.slice x.ad M.data.length x.kd,.slice x.ar M.recs.length x.kr,vB M.mei,vB M.kind,vB M.level,vB M.more,vB M.next,.slice x.ao M.objects.length x.ko] rfl (by kernel_rfl) hs (by kernel_rfl) (by kernel_rfl) rfl)<|R0 1 rfl<|Oc<|m1 (tc) fun z j=>?_
 have k:=ub j i
 refine b9 k fun A=>?_
 have c:=aH o (aH e j)
 refine R0 4 rfl<|vx (f:=265) (args:=#[.agg #[],vI dir,.agg (ep u t M x)]) 134 (.agg #[]) (.agg #[])<|A8 (yx (dir:=dir) (aE.old h c) hf hbu hbt) fun p q B r l=>?_
 refine b9 (ub l k) fun a=>Rt 5 a<|Rt 6 a<|Rt 7 a<|Rt 8 a<|re<|tn<|rt<|rr (.tuple #[p,vI q])<|?_
 exact⟨_,_,rfl,r.wk c.size,(aH c l)⟩
theorem oQ(h:aE m w (j6 M x).toList M)(hf:bf M)(hbu:0≤u∧u<256)(hbt:0≤t∧t<65536) : Calls Tryz.prog 275 #[.int .i64 dir,.agg (ep u t M x)] w (vp (eE dir u t M) w):=by
  cases hX:eE dir u t M with
  | none =>
    refine(nL hX h hf hbu hbt).mono ?_
    rintro e w' ⟨rfl,hu⟩
    exact⟨_,_,rfl,⟨rfl,rfl⟩,hu⟩
  | some l =>
    refine(o6 hX h hf hbu hbt).mono ?_
    rintro e w' ⟨v,rfl,ho,hu⟩
    exact⟨_,_,rfl,⟨rfl,iT.of ho⟩,hu⟩
theorem zo(h:aE m w (j6 M x).toList M)(hf:bf M)(hbu:0≤u∧u<256)(hbt:0≤t∧t<65536) : Calls Tryz.prog 274 #[.agg #[],vI dir,.agg (ep u t M x)] w (vp (eE dir u t M) w):=by
 refine en 13 Tryz.func274 rfl<|sg<|L0<|cU #[] fun j k l n b=>L0<|cU (ep u t M x) fun o p q c d=>Pl 2<|aS 1<|L0<|cH c<|?_
 have a:=aH b d
 refine aF<|A8 (oQ (dir:=dir) (aE.old h a) hf hbu hbt) fun e f r g i=>al 4<|rt<|rr (.tuple #[e,vI f])<|?_
 exact⟨_,_,rfl,g.wk a.size,(aH a i)⟩
theorem rz(h:aE m w (j6 M x).toList M)(hf:bf M)(hbu:0≤u∧u<256)(hbt:0≤t∧t<65536) : Calls Tryz.prog 27 #[vI 2,vI dir,.agg (ep u t M x)] w (vp (eE dir u t M) w):=by
 refine en 15 Tryz.func27 rfl<|sg<|L0<|cU (ep u t M x) fun d s v n o=>al 2<|sq<|Rg 9 (fun w'=>w'.heap[d]? = some (.cells (ep u t M x) 47 (0,0))) fun y e=>?_
 have i:=ub e n
 refine b9 i fun b=>Rt 0 b<|Rt 2 b<|Rr 3 b (.agg (ep u t M x)) (fun w' hs=>gg (g:=d) (off:=0) [vB u,vW t,vB M.code,vB M.fail,vW M.addr,vW M.count,vW M.value,vW M.and_,vW M.or_,vW M.addr2,vW M.sub,vW M.status,vW M.events,vW M.messages,.slice x.aw M.words.length x.kw,.slice x.ab M.bits.length x.kb,.slice x.ad M.data.length x.kd,.slice x.ar M.recs.length x.kr,vB M.mei,vB M.kind,vB M.level,vB M.more,vB M.next,.slice x.ao M.objects.length x.ko] rfl (by kernel_rfl) hs (by kernel_rfl) (by kernel_rfl) rfl)<|R0 1 rfl<|Oc<|m1 (sR) fun z j=>?_
 have k:=ub j i
 refine b9 k fun A=>?_
 have c:=aH o (aH e j)
 refine R0 4 rfl<|vx (f:=274) (args:=#[.agg #[],vI dir,.agg (ep u t M x)]) 135 (.agg #[]) (.agg #[])<|A8 (zo (dir:=dir) (aE.old h c) hf hbu hbt) fun p q B r l=>?_
 refine b9 (ub l k) fun a=>Rt 5 a<|Rt 6 a<|Rt 7 a<|Rt 8 a<|re<|tn<|rt<|rr (.tuple #[p,vI q])<|?_
 exact⟨_,_,rfl,r.wk c.size,(aH c l)⟩
theorem zl(h:aE m w (j6 M x).toList M)(hf:bf M)(hbu:0≤u∧u<256)(hbt:0≤t∧t<65536) : Calls Tryz.prog 278 #[.agg #[],vI dir,.agg (ep u t M x)] w (vp (none) w):=by
 refine en 8 Tryz.func278 rfl<|sg<|L0<|cU #[] fun c d e f a=>L0<|cU (ep u t M x) fun g i j k b=>Pl 2<|dl 2<|rt<|rr (.tuple #[nS,vI 1])<|?_
 exact⟨_,_,rfl,⟨rfl,rfl⟩,(aH a b)⟩
theorem ss(h:aE m w (j6 M x).toList M)(hf:bf M)(hbu:0≤u∧u<256)(hbt:0≤t∧t<65536)  (h0:(k==0)=false)(h1:(k==1)=false)(h2:(k==2)=false) : Calls Tryz.prog 27 #[vI k,vI dir,.agg (ep u t M x)] w (vp (none) w):=by
 refine en 15 Tryz.func27 rfl<|sg<|L0<|cU (ep u t M x) fun d v y o p=>al 2<|sq<|Rg 9 (fun w'=>w'.heap[d]? = some (.cells (ep u t M x) 47 (0,0))) fun z e=>?_
 have i:=ub e o
 refine b9 i fun b=>Rt 0 b<|Rt 2 b<|Rr 3 b (.agg (ep u t M x)) (fun w' hs=>gg (g:=d) (off:=0) [vB u,vW t,vB M.code,vB M.fail,vW M.addr,vW M.count,vW M.value,vW M.and_,vW M.or_,vW M.addr2,vW M.sub,vW M.status,vW M.events,vW M.messages,.slice x.aw M.words.length x.kw,.slice x.ab M.bits.length x.kb,.slice x.ad M.data.length x.kd,.slice x.ar M.recs.length x.kr,vB M.mei,vB M.kind,vB M.level,vB M.more,vB M.next,.slice x.ao M.objects.length x.ko] rfl (by kernel_rfl) hs (by kernel_rfl) (by kernel_rfl) rfl)<|R0 1 rfl<|Oc<|m1 (t6 h0 h1 h2) fun A j=>?_
 have l:=ub j i
 refine b9 l fun B=>?_
 have c:=aH p (aH e j)
 refine R0 4 rfl<|vx (f:=278) (args:=#[.agg #[],vI dir,.agg (ep u t M x)]) 136 (.agg #[]) (.agg #[])<|A8 (zl (dir:=dir) (aE.old h c) hf hbu hbt) fun q r C s n=>?_
 refine b9 (ub n l) fun a=>Rt 5 a<|Rt 6 a<|Rt 7 a<|Rt 8 a<|re<|tn<|rt<|rr (.tuple #[q,vI r])<|?_
 exact⟨_,_,rfl,s.wk c.size,(aH c n)⟩
theorem tq(h:aE m w (j6 M x).toList M)(hf:bf M)(hbu:0≤u∧u<256)(hbt:0≤t∧t<65536) : Calls Tryz.prog 27 #[.int .i64 k,.int .i64 dir,.agg (ep u t M x)] w (vp (jN k dir u t M) w):=by
  refine k4 k (fun e=>?_) (fun e=>?_) (fun e=>?_) (fun h0 h1 h2=>?_)
  · subst e;exact ri h hf hbu hbt
  · subst e;exact qV h hf hbu hbt
  · subst e;exact rz h hf hbu hbt
  · rw[si h0 h1 h2];exact ss h hf hbu hbt h0 h1 h2
theorem qt{l:List Int}(h:aE m w (j6 M x).toList M)(hf:bf M)(hbu:0≤u∧u<256)(hbt:0≤t∧t<65536)(hX:jN k dir u t M=some l) : Calls Tryz.prog 27 #[.int .i64 k,.int .i64 dir,.agg (ep u t M x)] w (fun e w'=>∃ v,e = .returned (.tuple #[v,.int .i64 0])∧iT w.heap.size w' v l∧ap [] w w'):=by
  refine(tq h hf hbu hbt).mono ?_
  rw[hX]
  rintro e w' ⟨v,n,rfl,⟨rfl,ho⟩,hu⟩
  exact⟨v,rfl,ho,hu⟩
open Go.RowKit
variable {A:Option Addr}{c g:Nat}
theorem cG.apt{n:Nat}   {S:XS}(h:cG n base w g A c S){k:Nat}(hk:k≤n) : vl k (g :: (ob A++[])) w:=by
  obtain⟨t,cs,fr,q,h1,_⟩:=h.cells
  exact f6 q h1 (iz (xg hk h.low) bZ)
variable {d:Int}
theorem Bg(hd:d=0∨d=1) : ((d != 0)&&(d != 1))=false:=by rcases hd with rfl | rfl<;>rfl
variable {S:SS}{w':World}
theorem cW.old0{n:Nat}    (h:cW n base w g A c S)(hu:ap [] w w') : cW n base w' g A c S:=h.upd hu (by simp) (fun x _=>by simp)
variable {n':Nat}
theorem cW.weak{n:Nat}    (h:cW n n w g none c S)(hn:n'≤n) : cW n' n' w g none c S:=by
  obtain⟨h1,h2,h3,h4,h5⟩:=h
  exact⟨h1,aJ.weaken h2 hn,Nat.le_trans hn h3,cP,Nat.le_trans hn h5⟩
theorem tB(hd:d=0∨d=1) : Calls Tryz.prog 37 #[vI 0,vI d] w (fun e w'=>∃ s g,e = .returned (vP s 0)∧w.heap.size≤s∧w.heap.size≤g∧aZ w.heap.size w.heap.size w' s g none 0 (XS.zero 0 d)∧ap [] w w'):=by
 refine en 36 Tryz.func37 rfl<|ay 1<|sq<|au 1<|aF<|m1 (j7 (k:=0)) fun p a=>Pl 5<|gy 3 [11] 14 11 (d != 0) (d != 1) (fun K i j=>?_) ?_
 have q:=aN j
 exact Pl 3<|ce i _ rfl
 refine al 1<|cf (Bg hd)<|bU<|sq<|ay 1<|bk<|sq<|go<|al 2<|c1<|au 1<|aF<|e3 (zH hd) fun b t l m c=>Pl 2<|L0<|cU #[.iface 107 (vP b 0)] fun f u n o h=>al 1<|rt<|br<|tr<|rr (vP f 0)<|?_
 exact⟨f,b,rfl,(Nat.le_trans (le a.size c.size) n),(Nat.le_trans a.size l),⟨o,(show cG _ _ _ _ _ _ (XS.r _) from((cW.old0 m h)).weak a.size)⟩,(aH a (aH c h))⟩
theorem x7(hd:d=0∨d=1) : Calls Tryz.prog 21 #[.int .i64 d] w (fun e w'=>∃ g,e = .returned (.pointer (some ⟨g,0,none⟩))∧w.heap.size≤g∧d9 w.heap.size w.heap.size w' g none 0 ⟨d,[]⟩∧ap [] w w'):=by
  rcases hd with rfl|rfl
  · exact tf 0 tX
  · exact tf 1 tp
theorem d9.old0{n:Nat}   {S:SA}(h:d9 n base w g A c S)(hu:ap [] w w') : d9 n base w' g A c S:=h.upd hu (by simp) (fun x _=>by simp)
theorem d9.weak{n:Nat}  {S:SA}  (h:d9 n n w g none c S)(hn:n'≤n) : d9 n' n' w g none c S:=by
  obtain⟨h1,h2,h6,h3,h4,h5⟩:=h
  exact⟨h1,aJ.weaken h2 hn,h6,Nat.le_trans hn h3,cP,Nat.le_trans hn h5⟩
theorem tJ(hd:d=0∨d=1) : Calls Tryz.prog 37 #[vI 1,vI d] w (fun e w'=>∃ s g,e = .returned (vP s 0)∧w.heap.size≤s∧w.heap.size≤g∧aZ w.heap.size w.heap.size w' s g none 0 (XS.zero 1 d)∧ap [] w w'):=by
 refine en 36 Tryz.func37 rfl<|ay 1<|sq<|au 1<|aF<|m1 (j7 (k:=1)) fun q b=>Pl 5<|gy 3 [11] 14 11 (d != 0) (d != 1) (fun K j l=>?_) ?_
 have r:=aN l
 exact Pl 3<|ce j _ rfl
 refine al 1<|cf (Bg hd)<|bU<|sq<|ay 1<|bk<|sq<|go<|al 2<|c0<|ay 2<|c1<|au 1<|aF<|e3 (x7 hd) fun c t m n f=>?_
 refine Pl 2<|L0<|cU #[.iface 35 (vP c 0)] fun h u o p i=>al 1<|rt<|br<|tr<|rr (vP h 0)<|?_
 exact⟨h,c,rfl,(Nat.le_trans (le b.size f.size) o),(Nat.le_trans b.size m),⟨p,(show cG _ _ _ _ _ _ (XS.a _) from((d9.old0 n i)).weak b.size)⟩,(aH b (aH f i))⟩
theorem ww(hd:d=0∨d=1) : Calls Tryz.prog 15 #[.int .i64 d] w (fun e w'=>∃ g,e = .returned (.pointer (some ⟨g,0,none⟩))∧w.heap.size≤g∧d8 w.heap.size w.heap.size w' g none 0 ⟨d,[],0⟩∧ap [] w w'):=by
  rcases hd with rfl|rfl
  · exact sV 0 rN
  · exact sV 1 rZ
theorem d8.old0{n:Nat}   {S:SM}(h:d8 n base w g A c S)(hu:ap [] w w') : d8 n base w' g A c S:=h.upd hu (by simp) (fun x _=>by simp)
theorem d8.weak{n:Nat}  {S:SM}  (h:d8 n n w g none c S)(hn:n'≤n) : d8 n' n' w g none c S:=by
  obtain⟨h1,h2,h6,h3,h4,h5⟩:=h
  exact⟨h1,aJ.weaken h2 hn,h6,Nat.le_trans hn h3,cP,Nat.le_trans hn h5⟩
theorem ur(hd:d=0∨d=1) : Calls Tryz.prog 37 #[vI 2,vI d] w (fun e w'=>∃ s g,e = .returned (vP s 0)∧w.heap.size≤s∧w.heap.size≤g∧aZ w.heap.size w.heap.size w' s g none 0 (XS.zero 2 d)∧ap [] w w'):=by
 refine en 36 Tryz.func37 rfl<|ay 1<|sq<|au 1<|aF<|m1 (j7 (k:=2)) fun q a=>Pl 5<|gy 3 [11] 14 11 (d != 0) (d != 1) (fun K i j=>?_) ?_
 have r:=aN j
 exact Pl 3<|ce i _ rfl
 refine al 1<|cf (Bg hd)<|bU<|sq<|ay 1<|bk<|sq<|go<|al 2<|c0<|ay 2<|c0<|sk<|bn<|tn<|au 1<|aF<|e3 (ww hd) fun b t l n c=>Pl 2<|L0<|cU #[.iface 25 (vP b 0)] fun f u o p h=>al 1<|rt<|rr (vP f 0)<|?_
 exact⟨f,b,rfl,(Nat.le_trans (le a.size c.size) o),(Nat.le_trans a.size l),⟨p,(show cG _ _ _ _ _ _ (XS.m _) from((d8.old0 n h)).weak a.size)⟩,(aH a (aH c h))⟩
theorem yf(hk:k=0∨k=1∨k=2)  (hd:d=0∨d=1) : Calls Tryz.prog 37 #[.int .i64 k,.int .i64 d] w (fun e w'=>∃ s g,e = .returned (.pointer (some ⟨s,0,none⟩))∧w.heap.size≤s∧w.heap.size≤g∧aZ w.heap.size w.heap.size w' s g none 0 (XS.zero k d)∧ap [] w w'):=by
  rcases hk with rfl|rfl|rfl
  · exact tB hd
  · exact tJ hd
  · exact ur hd
variable {B:Option Addr}{cpb s:Nat}
theorem qK{n:Nat}     {t:Bool}  (h:aZ n base w s g A c (.r S))(hsl:aR m w (.slice B b.length cpb) b)(hdg:0<b.length→∀ x,x∈ob B→x≠g)(hda:ma b.length B (ob A))(hbl:b.length≤1048576) :
    Calls Tryz.prog 64 #[vP s 0,.agg #[.slice B b.length cpb,.bool t]] w (Cz n base (XS.take (.r S) b t).1 (XS.take (.r S) b t).2 s g A w):=by
 have hzb:=aP.len hsl
 have hz1:(S.feed b).2.length≤1:=SS.feed_le (S:=S) (b:=b) rfl
 have hz2:(S.feed b).1.tick.2.length≤1:=SS.tick_le (S:=(S.feed b).1) rfl
 refine en 33 Tryz.func64 rfl<|sg<|L0<|cU #[.slice B b.length cpb,.bool t] fun O a4 C P Q=>al 1<|sq<|Rg 8 (fun w'=>w'.cell? ⟨s,0,none⟩=some (.iface 107 (vP g 0))∧w'.cell? ⟨O,0,none⟩=some (.slice B b.length cpb)) fun T D=>?_
 have a:=aH Q D
 have p:=ub a h.1
 have E:=ub D P
 refine b9 ⟨(ae p rfl),(ae E rfl)⟩ fun i=>Rt 0 i<|Rt 1 i<|Rt 2 i<|Rl 3 i (fun _ hs=>hs.1)<|Rt 4 i<|Rl 5 i (fun _ hs=>hs.2)<|?_
 refine R0 6 rfl<|vx (f:=250) (args:=#[vP g 0,.slice B b.length cpb]) 107 (vP g 0) (vP g 0)<|(uK (cG.upd h.2 a az (fun x hx=>az)) (aR.old hsl a) hbl).mono ?_
 rintro _ a5 ⟨a6,F,a7,a8,rfl,U,k,u,G,j⟩
 refine⟨_,rfl,?_⟩
 have d:=U
 obtain⟨H,V,rfl,a9,ab⟩:=aP.shape d.rd
 have l:=ap.blk j (aa h.sg (aM (aX p (aj (cG.row h.2) a (fun x hx=>az) (fun _ _ h=>h)) (by decide)) az)) p
 have I:=ap.blk j (aa (Ne.symm (nb (cG.lt h.2) lr C)) (aM (dQ (cG.row h.2) lr C) az)) E
 refine b9 ⟨(ae l rfl),(ae I rfl)⟩ fun W=>Rt 7 W<|re<|tn<|sq<|au 3<|ax l 0<|L0<|DE 107 (vP g 0) (.tuple #[.iface 107 (vP g 0),.bool true])<|al 5<|sq<|go<|Pl 3<|L1<|ii I 1<|al 1<|?_
 have J:=ut (ap.mono (S':=(g :: (ob A++[]))) a aB) j (ac im (ah il aB))
 refine cb (t) (fun v=>?_) (fun v=>?_)
 refine go<|Pl 2<|L0<|vx (f:=252) (args:=#[vP g 0]) 107 (vP g 0) (vP g 0)<|(ve k).mono ?_
 rintro _ ad ⟨af,X,ag,Y,rfl,Z,y,a0,K,o⟩
 refine⟨_,rfl,?_⟩
 have L:=Z
 obtain⟨ak,am,rfl,an,ao⟩:=aP.shape L.rd
 have z:=aj d o (fun x hx=>(aa (fun e=>(aD (cG.lt h.2) a.size d) (e▸hx)) (aM ((dz d (cG.row k) (by decide)) x hx) az))) (fun x cs q=>bi.upd o (cG.apt k (Nat.le_refl _)) q)
 refine L0<|i3 (R:=bi T.heap.size Y) (xs:=((S.feed b).2)) (ys:=((S.feed b).1.tick.2)) (.agg #[vI 0,vB 0,vW 0,vB 0,vB 0,vW 0,vW 0,vW 0,vW 0,vW 0,vW 0,vW 0,vW 0,vW 0,vW 0,nS,nS,nS,nS,vB 0,vB 0,vB 0,vB 0,vB 0,nS]) 25 168 (dk.up K (y.nle) z) ((dk.lo L j.size)).rd bi.ones (fun w' hv x cs q=>bi.upd hv (kk z (by decide) bZ) q) (by omega) (le j.size o.size) fun a1 a2 aq a3 M ar=>Pl 1<|dl 2<|rt<|rr (.slice a1 (((S.feed b).2++(S.feed b).1.tick.2).length) a2)<|?_
 have hs:XS.take (.r S) b t=(.r (S.feed b).1.tick.1,(S.feed b).2++(S.feed b).1.tick.2):=by unfold XS.take;rw[v];rfl
 rw[hs]
 have hat0:∀ x,x∈ob X→x∈ob A∨w.heap.size≤x:=fun x hx=>((fun x hx=>jF a0 u j.size x hx) x hx).imp id (Nat.le_trans a.size)
 have N:=ut (ap.mono (S':=(g :: (ob F++(ob H++[])))) o (ac im (ah il aB))) M (ah il aB)
 exact⟨_,_,_,_,rfl,dk.lo a3 a.size,⟨(ap.blk N (aa h.sg (aM (aX l (cG.row k) (by decide)) (aM (aD (ai h.1) a.size d) az))) l),(cG.upd y M (aM (aD (cG.lt h.2) a.size d) az) (fun x hx=>(aM ((dz (cG.row y) z (by decide)) x hx) az)))⟩,hat0,Nat.le_trans G K,(ap.mono (S':=g :: (ob A++[])) (ut J N (ac im (ah (kQ u il a.size) (ah (aT d a.size) aB)))) (ac im (ah il aB)))⟩
 refine bU<|ay 2<|rt<|rr (.slice H (((S.feed b).2).length) V)<|?_
 have hs:XS.take (.r S) b t=(.r (S.feed b).1,(S.feed b).2):=by unfold XS.take;rw[v];rfl
 rw[hs]
 have hat0:∀ x,x∈ob F→x∈ob A∨w.heap.size≤x:=fun x hx=>((fun x hx=>u x hx) x hx).imp id (Nat.le_trans a.size)
 exact⟨_,_,_,_,rfl,dk.lo d a.size,⟨l,k⟩,hat0,G,(ap.mono (S':=g :: (ob A++[])) J (ac im (ah il aB)))⟩
theorem qC{n:Nat}   {S:SA}  {t:Bool}  (h:aZ n base w s g A c (.a S))(hsl:aR m w (.slice B b.length cpb) b)(hdg:0<b.length→∀ x,x∈ob B→x≠g)(hda:ma b.length B (ob A))(hbl:b.length≤1048576) :
    Calls Tryz.prog 64 #[vP s 0,.agg #[.slice B b.length cpb,.bool t]] w (Cz n base (XS.take (.a S) b t).1 (XS.take (.a S) b t).2 s g A w):=by
 have hzb:=aP.len hsl
 refine en 33 Tryz.func64 rfl<|sg<|L0<|cU #[.slice B b.length cpb,.bool t] fun r I l u v=>al 1<|sq<|Rg 8 (fun w'=>w'.cell? ⟨s,0,none⟩=some (.iface 35 (vP g 0))∧w'.cell? ⟨r,0,none⟩=some (.slice B b.length cpb)) fun J o=>?_
 have d:=aH v o
 have i:=ub d h.1
 have p:=ub o u
 refine b9 ⟨(ae i rfl),(ae p rfl)⟩ fun e=>Rt 0 e<|Rt 1 e<|Rt 2 e<|Rl 3 e (fun _ hs=>hs.1)<|Rt 4 e<|Rl 5 e (fun _ hs=>hs.2)<|?_
 refine R0 6 rfl<|vx (f:=22) (args:=#[vP g 0,.slice B b.length cpb]) 35 (vP g 0) (vP g 0)<|(uN (cG.upd h.2 d az (fun x hx=>az)) (aR.old hsl d) hdg hda hbl).mono ?_
 rintro _ K ⟨L,y,M,N,rfl,z,C,D,E,j⟩
 refine⟨_,rfl,?_⟩
 have q:=z
 obtain⟨F,G,rfl,O,P⟩:=aP.shape q.rd
 have k:=ap.blk j (aa h.sg (aM (aX i (aj (cG.row h.2) d (fun x hx=>az) (fun _ _ h=>h)) (by decide)) az)) i
 refine b9 ⟨(ae k rfl),(ae (ap.blk j (aa (Ne.symm (nb (cG.lt h.2) lr l)) (aM (dQ (cG.row h.2) lr l) az)) p) rfl)⟩ fun H=>Rt 7 H<|re<|tn<|sq<|au 3<|ax k 0<|L0<|Dy 35 (vP g 0) .nilIface<|al 5<|sq<|go<|al 5<|c0<|bU<|ay 2<|rt<|rr (.slice F (((S.feed b).2).length) G)<|?_
 have hs:XS.take (.a S) b t=(.a (S.feed b).1,(S.feed b).2):=by unfold XS.take;cases t;rfl;show(_,(S.feed b).2++[])=_;rw[List.append_nil];rfl
 rw[hs]
 have hat0:∀ x,x∈ob y→x∈ob A∨w.heap.size≤x:=fun x hx=>((fun x hx=>D x hx) x hx).imp id (Nat.le_trans d.size)
 exact⟨_,_,_,_,rfl,dk.lo q d.size,⟨k,C⟩,hat0,E,(ap.mono (S':=g :: (ob A++[])) (ut (ap.mono (S':=(g :: (ob A++[]))) d aB) j (ac im (ah il aB))) (ac im (ah il aB)))⟩
theorem qE{n:Nat}   {S:SM}  {t:Bool}  (h:aZ n base w s g A c (.m S))(hsl:aR m w (.slice B b.length cpb) b)(hdg:0<b.length→∀ x,x∈ob B→x≠g)(hda:ma b.length B (ob A))(hbl:b.length≤1048576) :
    Calls Tryz.prog 64 #[vP s 0,.agg #[.slice B b.length cpb,.bool t]] w (Cz n base (XS.take (.m S) b t).1 (XS.take (.m S) b t).2 s g A w):=by
 have hzb:=aP.len hsl
 refine en 33 Tryz.func64 rfl<|sg<|L0<|cU #[.slice B b.length cpb,.bool t] fun q H k r u=>al 1<|sq<|Rg 8 (fun w'=>w'.cell? ⟨s,0,none⟩=some (.iface 25 (vP g 0))∧w'.cell? ⟨q,0,none⟩=some (.slice B b.length cpb)) fun I l=>?_
 have a:=aH u l
 have e:=ub a h.1
 have o:=ub l r
 refine b9 ⟨(ae e rfl),(ae o rfl)⟩ fun d=>Rt 0 d<|Rt 1 d<|Rt 2 d<|Rl 3 d (fun _ hs=>hs.1)<|Rt 4 d<|Rl 5 d (fun _ hs=>hs.2)<|?_
 refine R0 6 rfl<|vx (f:=16) (args:=#[vP g 0,.slice B b.length cpb]) 25 (vP g 0) (vP g 0)<|(tL (cG.upd h.2 a az (fun x hx=>az)) (aR.old hsl a) hdg hda hbl).mono ?_
 rintro _ J ⟨K,v,L,M,rfl,y,z,C,D,i⟩
 refine⟨_,rfl,?_⟩
 have p:=y
 obtain⟨E,F,rfl,N,O⟩:=aP.shape p.rd
 have j:=ap.blk i (aa h.sg (aM (aX e (aj (cG.row h.2) a (fun x hx=>az) (fun _ _ h=>h)) (by decide)) az)) e
 refine b9 ⟨(ae j rfl),(ae (ap.blk i (aa (Ne.symm (nb (cG.lt h.2) lr k)) (aM (dQ (cG.row h.2) lr k) az)) o) rfl)⟩ fun G=>Rt 7 G<|re<|tn<|sq<|au 3<|ax j 0<|L0<|Dy 25 (vP g 0) .nilIface<|al 5<|sq<|go<|al 5<|c0<|bU<|ay 2<|rt<|rr (.slice E (((S.feed b).2).length) F)<|?_
 have hs:XS.take (.m S) b t=(.m (S.feed b).1,(S.feed b).2):=by unfold XS.take;cases t;rfl;show(_,(S.feed b).2++[])=_;rw[List.append_nil];rfl
 rw[hs]
 have hat0:∀ x,x∈ob v→x∈ob A∨w.heap.size≤x:=fun x hx=>((fun x hx=>C x hx) x hx).imp id (Nat.le_trans a.size)
 exact⟨_,_,_,_,rfl,dk.lo p a.size,⟨j,z⟩,hat0,D,(ap.mono (S':=g :: (ob A++[])) (ut (ap.mono (S':=(g :: (ob A++[]))) a aB) i (ac im (ah il aB))) (ac im (ah il aB)))⟩
theorem xE{n nb:Nat}   {S S2:XS}{L:List Ev}  {t:Bool}  (hX:S.take b t=(S2,L))(h:aZ n base w s g A c S)(hsl:aR m w (.slice B nb cpb) b)(hdg:0<nb→∀ x,x∈ob B→x≠g)(hda:ma nb B (ob A))(hbl:b.length≤1048576) :
    Calls Tryz.prog 64 #[.pointer (some ⟨s,0,none⟩),.agg #[.slice B nb cpb,.bool t]] w (Cz n base S2 L s g A w):=by
  obtain⟨_,_,e,_,_⟩:=hsl.shape
  injection e with e1 e2 e3
  subst e1 e2 e3
  have e1:S2=(S.take b t).1:=(congrArg Prod.fst hX).symm
  have e2:L=(S.take b t).2:=(congrArg Prod.snd hX).symm
  rw[e1,e2]
  cases S with
  | r S=>exact qK h hsl hdg hda hbl
  | a S=>exact qC h hsl hdg hda hbl
  | m S=>exact qE h hsl hdg hda hbl
open Go.RowKit
def dH:List (List Int)→Nat
  | []=>0
  | x :: t=>x.length+dH t
def gR (ls:List (List Int)) : Bool:=decide (ls.length≤60)&&decide (dH ls≤3000)
theorem fd(a b:List (List Int)) : dH (a++b)=dH a+dH b:=by
  induction a with
  | nil=>simp[dH]
  | cons x t ih=>simp only[List.cons_append,dH,ih];omega
variable {ls:List (List Int)}
theorem jQ{k:Nat}(hk:k<ls.length) : ls.take (k+1)=ls.take k++[ls.getD k []]:=by
  rw[List.take_succ_eq_append_getElem hk,List.getD_eq_getElem?_getD,List.getElem?_eq_getElem hk]
  rfl
theorem mv{k:Nat}(hk:k<ls.length) : dH (ls.take (k+1))=dH (ls.take k)+(ls.getD k []).length:=by
  rw[jQ hk,fd]
  rfl
theorem sT{ls:List (List Int)}(hb:∀ x,x∈ls→x.length≤140737488355328) : ∀ k,k≤ls.length→dH (ls.take k)≤k*140737488355328
  | 0,_=>by simp[dH]
  | k+1,h=>by
    rw[mv (by omega)]
    have h1:=sT hb k (by omega)
    have h2:(ls.getD k []).length≤140737488355328:=by
      rw[List.getD_eq_getElem?_getD,List.getElem?_eq_getElem (by omega)]
      exact hb _ (List.getElem_mem _)
    rw[Nat.succ_mul]
    omega
theorem sr{k:Nat}{n:Int}(hb:∀ x,x∈ls→x.length≤140737488355328)(h:k≤60→n=(dH (ls.take k) : Nat))(hk:k<ls.length) : k+1≤60→IntKind.i64.wrap (n+(((ls.getD k []).length:Nat) : Int))=(dH (ls.take (k+1)) : Nat):=by
  intro a
  have h1:=sT hb (k+1) hk
  have h2:=mv hk
  rw[h (by omega),i64_in]
  · rw[h2];omega
  · omega
theorem nu{k:Nat}{n:Int}(h:k≤60→n=(dH (ls.take k) : Nat))(hk:k=ls.length) : (decide ((ls.length:Int)≤60)&&decide (n≤3000))=gR ls:=by
  subst hk
  rw[List.take_length] at h
  unfold gR
  by_cases a:ls.length≤60
  · rw[h a]
    congr 1
    · rw[decide_eq_decide];omega
    · rw[decide_eq_decide];omega
  · rw[decide_eq_false a,decide_eq_false (by omega)];rfl
theorem v8{cp:Nat}   (h:kC m w (.slice A ls.length cp) ls)(hbb:∀ x,x∈ls→x.length≤140737488355328) : Calls Tryz.prog 14 #[.slice A ls.length cp] w (bH (.bool (gR ls)) w):=by
 have hz:=aP.len h
 refine en 25 Tryz.func14 rfl<|sg<|Pl 1<|ng<|Pl 1<|nt<|sq<|sg<|?_
 refine Pl 1<|nt<|bk<|?_
 refine js (fun x=>[(0,.slice A ls.length cp),(2,.bool false),(3,.int .i64 x.2),(4,.int .i64 ((x.1:Nat) : Int))]) (fun(x:Nat × Int) w'=>ap [] w w'∧(x.1≤ls.length)∧(x.1≤60→x.2=(dH (ls.take x.1) : Nat))) (fun x=>ls.length-x.1) (0,0) ⟨ap.refl _ _,(by(try dsimp only);omega),(by(try dsimp only);intro _;rfl)⟩ ?_
 rintro⟨k,n⟩ u ⟨c,f,g⟩
 refine ip [(0,.slice A ls.length cp),(2,.bool false),(3,.int .i64 n),(4,.int .i64 ((k:Nat) : Int))] ?_
 have y:k≤ls.length:=f
 have d:k≤60→n=(dH (ls.take k) : Nat):=g
 refine sq<|sg<|Pl 4<|nt<|cb ((decide (((k:Nat) : Int)<((ls.length:Nat) : Int)))) (fun b=>?_) (fun b=>?_)
 have i:=of_decide_eq_true b
 refine bU<|sq<|bk<|go<|Pl 3<|jt (kC.elt h k (by omega)) fun j l o q r s z B C=>L0<|pf ls.length k r (by omega)<|L0<|m8 (p:=⟨j,l+k,none⟩) (v:=.slice o ((ls.getD k []).length) q) (uc c s)<|Pl 3<|nl<|bn<|tn<|go<|?_
 exact Pl 1<|L0<|Oi (((k:Nat) : Int)+1)<|Pl 1<|nl<|fM ((k+1),(IntKind.i64.wrap (n+(((ls.getD k []).length:Nat) : Int)))) ⟨c,(by(try dsimp only);omega),(sr hbb d (by omega))⟩ (by omega)
 have i:=of_decide_eq_false b
 refine xt<|tx<|tx<|bx<|tn<|sg<|Pl 4<|cu 3 [21] 24 (((decide (((ls.length:Nat) : Int)≤60))&&(decide (n≤3000)))) (fun K e=>?_) ?_
 refine bl 21 ((decide (((ls.length:Nat) : Int)≤60))) (fun a=>?_) (fun a=>?_)
 have t:=of_decide_eq_true a
 exact Pl 3<|ce e (decide (n≤3000)) (by rw[a];rfl)
 have t:=of_decide_eq_false a
 exact Pl 3<|ce e false (by rw[a];rfl)
 refine Pl 1<|nt<|rt<|rr (.bool ((decide (((ls.length:Nat) : Int)≤60))&&(decide (n≤3000))))<|?_
 have hs:((decide (((ls.length:Nat) : Int)≤60))&&(decide (n≤3000)))=gR ls:=by first | exact nu d (by omega) | (rw[← nu d (by omega)];simp only[b,bt,Bool.true_and,Bool.false_and])
 rw[hs]
 exact⟨rfl,c⟩
open Go.RowKit
structure Pc where
  bytes:List Int
  tick:Bool
def Pc.z:Pc:=⟨[],false⟩
def kN (n:Nat)(w:World)(v:Value)(b:List Int) : Prop:=aR false w v b∧∀ A k c,v = .slice A k c→0<k→∀ x,x∈ob A→x<n
theorem kN.of(h:aR m w v b) : kN w.heap.size w v b:=⟨aP.any h (fun _ _ q=>q),fun A k c e hk=>by subst e;exact aP.low h hk⟩
theorem kN.nil{n:Nat}  : kN n w (.slice none 0 0) []:=⟨aP.nil ..,fun A k c e hk=>by injection e with _ e;omega⟩
variable {X:List Nat}
theorem kN.upd{n:Nat}     (hu:ap X w w')(hx:∀ x,x∈X→n≤x)(h:kN n w v b) : kN n w' v b:=by
  obtain⟨A,c,rfl,_,_⟩:=h.1.shape
  exact⟨aR.far h.1 hu fun hn x hxA hxX=>Nat.lt_irrefl _ (Nat.lt_of_lt_of_le (h.2 A _ _ rfl hn x hxA) (hx x hxX)),h.2⟩
def Dw (m:Md)(w:World)(p:Pc)(cs:List Value) : Prop:=∃ v,cs=[v,.bool p.tick]∧aR m w v p.bytes
def iu (n:Nat)(w:World)(p:Pc)(cs:List Value) : Prop:=∃ v,cs=[v,.bool p.tick]∧kN n w v p.bytes
def sL (n:Nat)(w:World)(b:List Int)(cs:List Value) : Prop:=∃ v,cs=[v]∧kN n w v b
abbrev jY (m:Md) (w:World) (v:Value) (ps:List Pc) : Prop:=aP m 70 2 (Dw m) w v ps
abbrev iR (n base:Nat) (w:World) (v:Value) (ps:List Pc) : Prop:=aJ base 70 2 (iu n) w v ps
theorem iu.upd{n:Nat}   (hu:ap X w w')(hx:∀ x,x∈X→n≤x)(p:Pc)(cs:List Value)(h:iu n w p cs) : iu n w' p cs:=by
  obtain⟨v,h1,h2⟩:=h
  exact⟨v,h1,kN.upd hu hx h2⟩
theorem sL.upd{n:Nat}   (hu:ap X w w')(hx:∀ x,x∈X→n≤x)(p:List Int)(cs:List Value)(h:sL n w p cs) : sL n w' p cs:=by
  obtain⟨v,h1,h2⟩:=h
  exact⟨v,h1,kN.upd hu hx h2⟩
theorem sL.ones{n:Nat}  : ∀ (x:List Int)(cs:List Value),sL n w x cs→∀ v,v∈cs→v.oneCell'=true:=fun x cs ⟨v,h1,h2⟩ u hu=>by
  rw[h1,List.mem_singleton] at hu
  obtain⟨A,c,e,_⟩:=h2.1.shape
  rw[hu,e]
  rfl
theorem iu.ones{n:Nat}  : ∀ (x:Pc)(cs:List Value),iu n w x cs→∀ v,v∈cs→v.oneCell'=true:=fun x cs ⟨v,h1,h2⟩ u hu=>by
  rw[h1] at hu
  obtain⟨A,c,e,_⟩:=h2.1.shape
  rcases List.mem_cons.1 hu with e2|hu
  · rw[e2,e];rfl
  · rw[List.mem_singleton] at hu;rw[hu];rfl
variable {ps:List Pc}
theorem iR.any{n:Nat}    (h:iR n base w v ps) : jY false w v ps:=aP.any h.rd fun p cs ⟨v,h1,h2⟩=>⟨v,h1,h2.1⟩
theorem jY.old(h:jY m w v ps)(hu:ap [] w w') : jY m w' v ps:=aP.upd h hu (bM.nil _ _ _) fun x cs ⟨v,h1,h2⟩=>⟨v,h1,h2.old hu⟩
theorem jY.elt{n:Nat}  (h:jY m w (.slice A n c) ps)(j:Nat)(hj:j<ps.length) :
    ∃ b off cells t fr A' c',A=some ⟨b,off,none⟩∧w.heap[b]? = some (.cells cells t fr)∧aR m w (.slice A' (ps.getD j Pc.z).bytes.length c') (ps.getD j Pc.z).bytes∧((ps.getD j Pc.z).bytes.length≤c'∧c'≤maxLen)∧(cells.toList.drop (off+j*2)).take 2=[.slice A' (ps.getD j Pc.z).bytes.length c',.bool (ps.getD j Pc.z).tick]:=by
  obtain⟨b,off,cells,t,fr,cs,h1,h2,h3,⟨v,h4,h5⟩,h6⟩:=aP.elt h Pc.z j hj
  obtain⟨A',c',rfl,h7,h8⟩:=h5.shape
  exact⟨b,off,cells,t,fr,A',c',h1,h2,h5,⟨h7,h8⟩,h6.trans h4⟩
theorem jY.n(h:jY m w v ps) : aP false 70 2 (iu w.heap.size) w v ps:=aP.any h fun p cs ⟨v,h1,h2⟩=>⟨v,h1,kN.of h2⟩
theorem RdPn.old{n:Nat}    (h:aP false 70 2 (iu n) w v ps)(hu:ap [] w w') : aP false 70 2 (iu n) w' v ps:=aP.upd h hu (bM.nil _ _ _) fun x cs q=>iu.upd hu (fun x hx=>by cases hx) x cs q
theorem RdPn.elt{n0:Nat}   {n:Nat}  (h:aP false 70 2 (iu n0) w (.slice A n c) ps)(j:Nat)(hj:j<ps.length) :
    ∃ b off cells t fr A' c',A=some ⟨b,off,none⟩∧w.heap[b]? = some (.cells cells t fr)∧kN n0 w (.slice A' (ps.getD j Pc.z).bytes.length c') (ps.getD j Pc.z).bytes∧((ps.getD j Pc.z).bytes.length≤c'∧c'≤maxLen)∧(cells.toList.drop (off+j*2)).take 2=[.slice A' (ps.getD j Pc.z).bytes.length c',.bool (ps.getD j Pc.z).tick]:=by
  obtain⟨b,off,cells,t,fr,cs,h1,h2,h3,⟨v,h4,h5⟩,h6⟩:=aP.elt h Pc.z j hj
  obtain⟨A',c',rfl,h7,h8⟩:=h5.1.shape
  exact⟨b,off,cells,t,fr,A',c',h1,h2,h5,⟨h7,h8⟩,h6.trans h4⟩
theorem Dc{n:Nat}{w0:World}  {cs:Array Value}{p:Pc}(hg:w0.heap.size≤g)(hb:w.heap[g]? = some (.cells cs 70 (0,0)))(h:iu n w p cs.toList) : iR n w0.heap.size w (.slice (some ⟨g,0,none⟩) 1 1) [p]:=by
  have hl:cs.toList.length=2:=by
    obtain⟨v,h1,_⟩:=h
    rw[h1]
    rfl
  refine⟨cs.toList,⟨hl,.inr ⟨g,1,cs,rfl,hg,hb,Nat.le_refl _,by unfold maxLen;omega,by simpa using hl,by rw[List.take_of_length_le];exact Nat.le_of_eq hl⟩⟩,fun j y hj=>?_⟩
  cases j with
  | succ j=>simp at hj
  | zero =>
    have hj:p=y:=by simpa using hj
    subst hj
    exact⟨cs.toList,hl,h,fun i u hi=>by simpa using hi⟩
theorem Dk{n:Nat}{w0:World}  {cs:Array Value}  (hg:w0.heap.size≤g)(hb:w.heap[g]? = some (.cells cs 27 (0,0)))(h:sL n w b cs.toList) : aJ w0.heap.size 27 1 (sL n) w (.slice (some ⟨g,0,none⟩) 1 1) [b]:=by
  have hl:cs.toList.length=1:=by
    obtain⟨v,h1,_⟩:=h
    rw[h1]
    rfl
  refine⟨cs.toList,⟨hl,.inr ⟨g,1,cs,rfl,hg,hb,Nat.le_refl _,by unfold maxLen;omega,by simpa using hl,by rw[List.take_of_length_le];exact Nat.le_of_eq hl⟩⟩,fun j y hj=>?_⟩
  cases j with
  | succ j=>simp at hj
  | zero =>
    have hj:b=y:=by simpa using hj
    subst hj
    exact⟨cs.toList,hl,h,fun i u hi=>by simpa using hi⟩
section
variable {P:Program}{n:Nat}{D:List Deferred}{F:Fr}{w:World}{K:Fr→World→Prop}{Q:Exit→Act→World→Prop}{d:Option Tmp}{t:TypeId}{s:String}{af:Array Edge}{gu:Option (Nat × Bool)}
end
def XS.run (S:XS)(ps:List Pc) : XS × List Ev:=ps.foldl (fun p c=>((p.1.take c.bytes c.tick).1,p.2++(p.1.take c.bytes c.tick).2)) (S,[])
theorem nJ:∀ (ps:List Pc)(S:XS)(K:List Ev),ps.foldl (fun p c=>((p.1.take c.bytes c.tick).1,p.2++(p.1.take c.bytes c.tick).2)) (S,K)=((S.run ps).1,K++(S.run ps).2)
  | [],S,K=>by simp[XS.run]
  | c :: t,S,K=>by
    unfold XS.run
    rw[List.foldl_cons,List.foldl_cons,nJ t,nJ t]
    simp
theorem kP(S:XS)(a b:List Pc) : S.run (a++b)=(((S.run a).1.run b).1,(S.run a).2++((S.run a).1.run b).2):=by
  unfold XS.run
  rw[List.foldl_append]
  exact nJ b _ _
theorem ff{ps:List Pc}{k:Nat}(hk:k<ps.length) : ps.take (k+1)=ps.take k++[ps.getD k Pc.z]:=by
  rw[List.take_succ_eq_append_getElem hk,List.getD_eq_getElem?_getD,List.getElem?_eq_getElem hk]
  rfl
theorem oa(S:XS)(p:Pc) : S.run [p]=S.take p.bytes p.tick:=by
  unfold XS.run
  simp
theorem wc{S0 S S2:XS}{ps:List Pc}{L L2:List Ev}{k:Nat}(hk:k<ps.length)(h:(S,L)=S0.run (ps.take k))(hX:S.take (ps.getD k Pc.z).bytes (ps.getD k Pc.z).tick=(S2,L2)) : (S2,L++L2)=S0.run (ps.take (k+1)):=by
  rw[ff hk,kP,← h,oa,hX]
def eR (ps:List Pc) : Nat:=dH (ps.map Pc.bytes)
theorem mL{ps:List Pc}{k:Nat}(hk:k<ps.length) : eR (ps.take (k+1))=eR (ps.take k)+(ps.getD k Pc.z).bytes.length:=by
  unfold eR
  rw[ff hk,List.map_append,fd]
  rfl
theorem jM{ps:List Pc}{k:Nat}(hk:k<ps.length) : (ps.getD k Pc.z).bytes.length+eR (ps.take k)≤eR ps:=by
  have h:=mL hk
  have e:ps=ps.take (k+1)++ps.drop (k+1):=(List.take_append_drop ..).symm
  have e2:eR ps=eR (ps.take (k+1))+eR (ps.drop (k+1)):=by
    conv=>lhs;rw[e]
    unfold eR
    rw[List.map_append,fd]
  omega
theorem aZ.take_le{n base s g c:Nat}{w:World}{A:Option Addr}{S S2:XS}{b:List Int}{t:Bool}{L:List Ev}(h:aZ n base w s g A c S)(hb:∀ x,x∈b→0≤x∧x<256)(hX:S.take b t=(S2,L)) : L.length≤b.length+2:=by
  have e:L=(S.take b t).2:=(congrArg Prod.snd hX).symm
  rw[e]
  have h:=h.2
  have hf:(S.feed b).2.length≤b.length+1:=by
    cases S with
    | r S=>exact Nat.le_trans (SS.feed_le (S:=S) (b:=b) rfl) (by omega)
    | a S=>exact Nat.le_trans (SA.feed_le h.2.2.1 hb rfl) (by omega)
    | m S=>exact Nat.le_trans (SM.feed_le h.2.2.1 hb rfl) (by omega)
  have ht:(S.feed b).1.tick.2.length≤1:=by
    cases S with
    | r S=>exact SS.tick_le (S:=(S.feed b).1) rfl
    | a S=>exact Nat.zero_le _
    | m S=>exact Nat.zero_le _
  unfold XS.take
  cases t
  · exact Nat.le_trans hf (by omega)
  · show(((S.feed b).2++(S.feed b).1.tick.2:List Ev)).length≤_
    rw[List.length_append]
    omega
open Go.RowKit
theorem OwnS.any{n base:Nat}{w:World}{v:Value}{ls:List (List Int)}(h:aJ base 27 1 (sL n) w v ls) : kC false w v ls:=aP.any h.rd fun p cs ⟨v,h1,h2⟩=>⟨v,h1,h2.1⟩
theorem zM{L ps:List Pc}{k:Nat}(hL:L=ps.take k)(hk:k<ps.length) : L++[Pc.mk (ps.getD k Pc.z).bytes (ps.getD k Pc.z).tick]=ps.take (k+1):=by rw[ff hk,hL]
theorem y9{L:List (List Int)}{ps:List Pc}{k:Nat}(hL:L=(ps.take k).map Pc.bytes)(hk:k<ps.length) : L++[(ps.getD k Pc.z).bytes]=(ps.take (k+1)).map Pc.bytes:=by rw[ff hk,List.map_append,hL];rfl
theorem qW{m:Md}{A:Option Addr}{cp:Nat}{ps:List Pc}{w:World}(h:jY m w (.slice A ps.length cp) ps)(hps:ps.length≤4398046511104)(hbb:∀ p,p∈ps→p.bytes.length≤140737488355328) : Calls Tryz.prog 33 #[.slice A ps.length cp] w (bH (.bool (gR (ps.map Pc.bytes))) w):=by
 have hz:=aP.len h
 refine en 21 Tryz.func33 rfl<|au 1<|dl 1<|sq<|ay 1<|bk<|?_
 refine js (fun x=>[(0,.slice A ps.length cp),(2,.bool false),(3,.slice x.2.2.1 x.2.1.length x.2.2.2),(4,vI (x.1:Int))]) (fun(x:Nat × List (List Int) × Option Addr × Nat) w'=>ap [] w w'∧aJ w.heap.size 27 1 (sL w.heap.size) w' (.slice x.2.2.1 x.2.1.length x.2.2.2) x.2.1∧(x.1≤ps.length)∧(x.2.1.length≤x.1)∧(x.2.1=(ps.take x.1).map Pc.bytes)) (fun x=>ps.length-x.1) (0,[],none,0) ⟨ap.refl _ _,(aJ.nil w.heap.size _ _ (sL w.heap.size) _),(by(try dsimp only);omega),(by(try dsimp only);exact Nat.le_refl _),rfl⟩ ?_
 rintro⟨k,L,B,cq⟩ q ⟨a,r,s,t,u⟩
 refine ip [(0,.slice A ps.length cp),(2,.bool false),(3,.slice B L.length cq),(4,vI (k:Int))] ?_
 have c:aJ w.heap.size 27 1 (sL w.heap.size) q (.slice B L.length cq) L:=r
 have R:k≤ps.length:=s
 have S:L.length≤k:=t
 have i:L=(ps.take k).map Pc.bytes:=u
 refine sq<|ay 4<|cb ((decide ((k:Int)<(ps.length:Int)))) (fun d=>?_) (fun d=>?_)
 have y:=of_decide_eq_true d
 refine bU<|sq<|bk<|go<|Pl 3<|y5 (jY.elt h k (by omega)) fun C D T U V j l E F G W H=>L0<|oO 2 ps.length k E (by omega)<|Pl 1<|?_
 refine L0<|m8 (p:=⟨C,D+k*2+0,none⟩) (v:=.slice j ((ps.getD k Pc.z).bytes.length) l) (fc (ub a F) H 0 rfl (by decide))<|L0<|dv (m:=1) (e:=27) #[.slice j ((ps.getD k Pc.z).bytes.length) l] fun X Y I J f=>?_
 have g:=aH a f
 have K:=Dk (n:=w.heap.size) (b:=(ps.getD k Pc.z).bytes) I J (⟨_,rfl,kN.upd g (fun x hx=>by cases hx) (kN.of (G))⟩)
 have o:=aj c f (fun x hx=>az) (sL.upd f (fun x hx=>by cases hx))
 refine L0<|BM (xs:=L) (ys:=([(ps.getD k Pc.z).bytes])) nS 1 24 o (K).rd sL.ones (fun w' hv=>sL.upd hv (ah (fun x hx=>Nat.le_trans lr (fD o x hx)) aB)) (by(try simp only[cl,aq]);omega) (by(try simp only[cl,aq]);omega) g.size fun M N Z O P a0=>Pl 1<|nl<|bn<|tn<|go<|Pl 1<|bA ((k:Int)+1)<|Pl 1<|nl<|?_
 exact fM ((k+1),(L++[(ps.getD k Pc.z).bytes]),M,N) ⟨(ut g P (ah (aT c lr) aB)),O,(by(try dsimp only);omega),(by(try dsimp only);simp only[cl];omega),(by(try dsimp only);exact y9 i (by omega))⟩ (by omega)
 have y:=of_decide_eq_false d
 refine xt<|tx<|tx<|bx<|tn<|au 1<|?_
 have hs:L=ps.map Pc.bytes:=by rw[i,List.take_of_length_le (by omega)]
 have hbb2:∀ x,x∈L→x.length≤140737488355328:=by rw[hs];intro x hx;obtain⟨p,hp,rfl⟩:=List.mem_map.1 hx;exact hbb p hp
 refine aF<|m1 (v8 (OwnS.any c) hbb2) fun a1 Q=>al 1<|rt<|rr (.bool (gR L))<|?_
 rw[hs]
 exact⟨rfl,(aH a Q)⟩
open Go.RowKit
def gI (a c next was:Int) : Int:=bif c != 2 then 0 else bif a==2 then was else next
def jB (a c next:Int) : Int:=bif c != 2 then next else bif a==2 then next else (next+1)%65536
def kS (a c next:Int) : Nat→Int
  | 0=>next
  | k+1=>jB a c (kS a c next k)
def AU (c d u t:Int)(M:b6) : List Int:=(jN c d u t M).getD []
def y6 (a c d next:Int)(F:List bu)(k:Nat) : List Int:=AU c d (F.getD k bu.zero).unit (gI a c (kS a c next k) (F.getD k bu.zero).tid) (F.getD k bu.zero).msg
def g8 (a c d next:Int)(F:List bu)(n:Nat) : List (List Int):=(List.range n).map (y6 a c d next F)
theorem eu{a c d next:Int}{F:List bu}{n:Nat}{l:List Int}(h:y6 a c d next F n=l) : g8 a c d next F n++[l]=g8 a c d next F (n+1):=by
  unfold g8
  rw[List.range_succ,List.map_append,← h]
  rfl
theorem xr{a c next:Int}(h:0≤next∧next<65536) : 0≤jB a c next∧jB a c next<65536:=by
  unfold jB
  cases c != 2 with
  | true=>exact h
  | false =>
    cases a==2 with
    | true=>exact h
    | false=>show 0≤(next+1)%65536∧(next+1)%65536<65536;omega
theorem gK{a c next:Int}(h:0≤next∧next<65536) : ∀ k,0≤kS a c next k∧kS a c next k<65536
  | 0=>h
  | k+1=>xr (gK h k)
theorem xf{a c next was:Int}(h:0≤next∧next<65536)(hw:0≤was∧was<65536) : 0≤gI a c next was∧gI a c next was<65536:=by
  unfold gI
  cases c != 2 with
  | true=>show(0:Int)≤0∧(0:Int)<65536;decide
  | false =>
    cases a==2 with
    | true=>exact hw
    | false=>exact h
structure ej (w:World) (gt s bT bF bN:Nat) (a c d next lost:Int) : Prop where
  cell:w.heap[gt]? = some (.cells #[.pointer (some ⟨s,0,none⟩),.int .i64 c,.int .i64 d,.func (.func 92) #[] #[.pointer (some ⟨bT,0,none⟩),.pointer (some ⟨bF,0,none⟩),.pointer (some ⟨bN,0,none⟩)],.int .i64 lost] 119 (0,0))
  cT:w.heap[bT]? = some (.cells #[.int .i64 c] 3 (0,0))
  cF:w.heap[bF]? = some (.cells #[.int .i64 a] 3 (0,0))
  cN:w.heap[bN]? = some (.cells #[.int .u16 next] 37 (0,0))
  rng:0≤next∧next<65536
section
variable {n base s g c gt bT bF bN:Nat}{w w':World}{A:Option Addr}{S:XS}{X:List Nat}{a k d next lost:Int}
theorem ej.upd(h:ej w gt s bT bF bN a k d next lost)(hu:ap X w w')(h1:gt∉X)(h2:bT∉X)(h3:bF∉X)(h4:bN∉X) : ej w' gt s bT bF bN a k d next lost:=⟨hu.blk h1 h.cell,hu.blk h2 h.cT,hu.blk h3 h.cF,hu.blk h4 h.cN,h.rng⟩
theorem ej.old(h:ej w gt s bT bF bN a k d next lost)(hu:ap [] w w') : ej w' gt s bT bF bN a k d next lost:=h.upd hu (by simp) (by simp) (by simp) (by simp)
theorem aZ.gne{cs:Array Value}{t:TypeId}{fr:Nat × Nat}{b:Nat}(h:aZ n base w s g A c S)(hb:w.heap[b]? = some (.cells cs t fr))(ht:(t==142)=false∧(t==95)=false∧(t==89)=false) : b≠g:=fun e=>by
  subst e
  obtain⟨t2,cs2,fr2,k2,h2⟩:=h.2.ty
  rw[hb] at k2
  injection k2 with k2
  injection k2 with _ k2 _
  rcases h2 with h2|h2|h2<;>rw[k2,h2] at ht<;>simp at ht
theorem aZ.sne{cs:Array Value}{t:TypeId}{fr:Nat × Nat}{b:Nat}(h:aZ n base w s g A c S)(hb:w.heap[b]? = some (.cells cs t fr))(ht:(t==112)=false) : b≠s:=fun e=>by
  subst e
  rw[h.1] at hb
  injection hb with hb
  injection hb with _ hb _
  rw[← hb] at ht
  simp at ht
end
theorem aP.stay{α:Type}{m:Md}{e:TypeId}{sz nn c:Nat}{R:World→α→List Value→Prop}{w w':World}{A:Option Addr}{xs:List α}{X:List Nat}
    (h:aP m e sz R w (.slice A nn c) xs) (hu:ap X w w') (hn:∀ x,x∈ob A→x∉X) (hR:∀ x cs,R w x cs→R w' x cs) : aP m e sz R w' (.slice A nn c) xs:=by
  obtain⟨A',c',hv,h1,h2,h0,h3⟩:=h
  injection hv with e1 e2 e3
  subst e1 e2 e3
  refine⟨A,c,rfl,h1,h2,h0,fun hp=>?_⟩
  obtain⟨b,off,cells,t,fr,rfl,hb,ho,hx⟩:=h3 hp
  refine⟨b,off,cells,t,fr,rfl,?_,ho,fun j x hj=>?_⟩
  · rw[hu.block b (ai hb) (hn b (by simp[ob]))]
    exact hb
  · obtain⟨cs,k1,k2,k3⟩:=hx j x hj
    exact⟨cs,k1,hR _ _ k2,k3⟩
section
variable {n n2 p base:Nat}{w w':World}{A A2 B:Option Addr}{X:List Nat}{b:List Int}{cs:List Value}
def qO (A:Option Addr)(n:Nat)(X:List Nat)(w:World) : Prop:=∀ y,y∈X→n≤y∨y∈ob A∨∃ cells t fr,w.heap[y]? = some (.cells cells t fr)∧(t==5)=false
def jS (A:Option Addr)(n:Nat)(w:World)(b:List Int)(cs:List Value) : Prop:=n≤w.heap.size∧∀ (w':World)(X:List Nat),ap X w w'→qO A n X w→Cn true w' b cs
theorem jS.by(h:jS A n w b cs) : Cn true w b cs:=h.2 w [] (ap.refl _ _) (fun y hy=>by cases hy)
theorem jS.upd(hu:ap X w w')(ha:qO A n X w)(h:jS A n w b cs) : jS A n w' b cs:=by
  refine⟨Nat.le_trans h.1 hu.size,fun w2 X2 hu2 ha2=>h.2 w2 (X++X2) ?_ ?_⟩
  · exact ap.trans' (ap.mono hu (fun y hy=>.inl (List.mem_append_left _ hy))) hu2 (fun y hy=>.inl (List.mem_append_right _ hy))
  · intro y hy
    rcases List.mem_append.1 hy with hy|hy
    · exact ha y hy
    · rcases ha2 y hy with k | k | ⟨cells,t,fr,k1,k2⟩
      · exact .inl k
      · exact .inr (.inl k)
      · by_cases hl:y<w.heap.size
        · by_cases hX:y∈X
          · exact ha y hX
          · exact .inr (.inr ⟨cells,t,fr,by rw[← hu.block y hl hX];exact k1,k2⟩)
        · exact .inl (Nat.le_trans h.1 (by omega))
theorem jS.row(hA:∀ y,y∈ob A2→y∈ob A∨n≤y)(hn:n≤n2)(hs:n2≤w.heap.size)(h:jS A n w b cs) : jS A2 n2 w b cs:=⟨hs,fun w' X hu ha=>h.2 w' X hu fun y hy=>by
  rcases ha y hy with k|k|k
  · exact .inl (Nat.le_trans hn k)
  · exact(hA y k).elim (fun q=>.inr (.inl q)) .inl
  · exact .inr (.inr k)⟩
theorem jS.raise(hn:n≤n2)(hs:n2≤w.heap.size)(h:jS A n w b cs) : jS A n2 w b cs:=h.row (fun _ hy=>.inl hy) hn hs
theorem jS.of{nn c:Nat}(hr:aR true w (.slice B nn c) b)(hB:∀ x,x∈ob B→p≤x)(hA:∀ y,y∈ob A→y<p) : jS A w.heap.size w b [.slice B nn c]:=⟨Nat.le_refl _,fun w' X hu ha=>by
  by_cases hn:0<b.length
  · refine⟨_,rfl,hr.stay hu (fun x hx hX=>?_) (fun _ _ q=>q)⟩
    obtain⟨A',c',hv,_,_,_,h3⟩:=hr
    injection hv with e1 e2 e3
    subst e1 e2 e3
    obtain⟨g,off,cells,t,fr,rfl,hb,ho,_⟩:=h3 hn
    have hx:x=g:=by simpa [ob] using hx
    subst hx
    rcases ha x hX with k|k|⟨c2,t2,fr2,k,k2⟩
    · have:=ai hb
      omega
    · have h1:=hA x k
      have h2:=hB x (by simp[ob])
      omega
    · rw[hb] at k
      injection k with k
      injection k with _ k _
      have h1:=(ho rfl).1
      rw[← k,h1] at k2
      simp at k2
  · refine⟨_,rfl,?_⟩
    obtain⟨A',c',hv,h1,h2,h0,h3⟩:=hr
    exact⟨A',c',hv,h1,h2,h0,fun q=>absurd q hn⟩⟩
theorem jS.ones:∀ (x:List Int)(cs:List Value),jS A n w x cs→∀ v,v∈cs→v.oneCell'=true:=fun x cs h=>by
  obtain⟨v,rfl,h2⟩:=h.by
  obtain⟨_,_,rfl,_⟩:=h2
  intro u hu
  have hu:u=_:=List.mem_singleton.1 hu
  rw[hu]
  rfl
abbrev rj (A:Option Addr) (n base:Nat) (w:World) (v:Value) (xs:List (List Int)) : Prop:=aJ base 27 1 (jS A n) w v xs
theorem rj.own{v:Value}{xs:List (List Int)}(h:rj A n base w v xs) : aJ base 27 1 (Cn true) w v xs:=aJ.map h fun _ _ q=>q.by
theorem oA:qO A n [] w:=fun y hy=>by cases hy
theorem AF{g:Nat}{t:TypeId}{cs:Array Value}{fr:Nat × Nat}(hb:w.heap[g]? = some (.cells cs t fr))(ht:(t==5)=false)(k:qO A n X w) : qO A n (g :: X) w:=by
  intro y hy
  rcases List.mem_cons.1 hy with rfl|hy
  · exact .inr (.inr ⟨cs,t,fr,hb,ht⟩)
  · exact k y hy
theorem Af{α:Type}{base sz m c:Nat}{e:TypeId}{R:World→α→List Value→Prop}{xs:List α}(h:aJ base e sz R w (.slice B m c) xs)(ht:(e==5)=false)(k:qO A n X w) : qO A n (ob B++X) w:=fun y hy=>by
  rcases List.mem_append.1 hy with hy|hy
  · rcases dg h with rfl | ⟨g,cells,rfl,_,h1⟩
    · simp[ob] at hy
    · simp[ob] at hy
      subst hy
      exact .inr (.inr ⟨_,_,_,h1,ht⟩)
  · exact k y hy
theorem Dj{w0:World}{g:Nat}{b:List Int}{v:Value}(hg:w0.heap.size≤g)(hb:w.heap[g]? = some (.cells #[v] 27 (0,0)))(h:jS A n w b [v]) : aJ w0.heap.size 27 1 (jS A n) w (.slice (some ⟨g,0,none⟩) 1 1) [b]:=by
  refine⟨[v],⟨rfl,.inr ⟨g,1,#[v],rfl,hg,hb,Nat.le_refl _,by unfold maxLen;omega,rfl,rfl⟩⟩,fun j y hj=>?_⟩
  cases j with
  | succ j=>simp at hj
  | zero =>
    have hj:b=y:=by simpa using hj
    subst hj
    exact⟨[v],rfl,h,fun i u hi=>by simpa using hi⟩
end
def DL (n base:Nat)(S2:XS)(outs:List (List Int))(a c d next lost:Int)(gt s g bT bF bN:Nat)(A:Option Addr)(w:World)(e:Ending)(w':World) : Prop :=
  ∃ v A2 c2 n2,e = .returned v∧rj A2 w'.heap.size w.heap.size w' v outs∧aZ n2 base w' s g A2 c2 S2∧ej w' gt s bT bF bN a c d next lost∧(∀ x,x∈ob A2→x∈ob A∨w.heap.size≤x)∧n≤n2∧ap (gt :: bN :: g :: (ob A++[])) w w'
def Ej (a c d:Int)(w:World)(e:Ending)(w':World) : Prop :=
  ∃ gt s g bT bF bN,e = .returned (.pointer (some ⟨gt,0,none⟩))∧w.heap.size≤gt∧w.heap.size≤s∧w.heap.size≤g∧w.heap.size≤bN∧w.heap.size≤bT∧w.heap.size≤bF∧aZ w.heap.size w.heap.size w' s g none 0 (XS.zero a d)∧ej w' gt s bT bF bN a c d 0 0∧ap [] w w'
end Go.Proofs.YtdkhbcefkfgbdaaGreat
namespace Go.Proofs.YtdkhbcefkfgbdaaGreat
def gn (C:aA) : Prop:=∀ x,x∈C.l→0≤x∧x<256
theorem eP{C:aA}{ok:Bool}{x:Int}(hx:x≠0)(h:(C.need ok x).e=0) : C.e=0∧ok=true:=by
  unfold aA.need at h
  split at h
  · exact absurd h hx
  · rename_i hh
    refine⟨h,?_⟩
    cases ok
    · exact absurd ⟨h,rfl⟩ hh
    · rfl
theorem fY{C:aA}{n:Int}(h:(C.bytesC n).e=0) : C.e=0∧C.l=C.bytesR n++(C.bytesC n).l∧((C.bytesR n).length:Int)=n:=by
  unfold aA.bytesC at h ⊢
  unfold aA.bytesR
  split at h
  · exfalso
    unfold aA.need at h
    split at h
    · cases h
    · rename_i hh
      exact hh ⟨h,rfl⟩
  · rename_i hf
    rw[if_neg hf,if_neg hf]
    refine⟨h,(List.take_append_drop _ _).symm,?_⟩
    unfold aA.fails at hf
    simp only[Bool.or_eq_true,decide_eq_true_eq,not_or] at hf
    rw[List.length_take]
    omega
theorem lJ:∀ (l:List Int),l.length%2=0→(∀ x,x∈l→0≤x∧x<256)→aQ (ea l)=l
  | [],_,_=>rfl
  | [_],h,_=>by simp at h
  | a :: b :: r,h,hr=>by
    have ha:=hr a (by simp)
    have hb:=hr b (by simp)
    simp only[ea,aQ]
    rw[lJ r (by simp at h;omega) (fun x hx=>hr x (by simp[hx]))]
    congr 1
    · omega
    · congr 1
      omega
theorem jj{C:aA}{n:Int}(hr:gn C)(h:(C.wordsC n).e=0) : C.e=0∧C.l=aQ (C.wordsR n)++(C.wordsC n).l∧((C.wordsR n).length:Int)=n:=by
  unfold aA.wordsC at h ⊢
  unfold aA.wordsR
  split at h
  · obtain⟨_,_,h3⟩:=fY h
    omega
  · rename_i hb
    rw[if_neg hb,if_neg hb]
    obtain⟨h1,h2,h3⟩:=fY h
    have h4:(C.bytesR (2*n)).length%2=0:=by omega
    have h5:∀ x,x∈C.bytesR (2*n)→0≤x∧x<256:=fun x hx=>hr x (by rw[h2];exact List.mem_append_left _ hx)
    unfold dI
    rw[if_pos h4]
    refine⟨h1,by rw[lJ _ h4 h5];exact h2,?_⟩
    rw[eg]
    omega
def cD (C:aA)(l:List Int)(C':aA) : Prop:=gn C→gn C'∧(C'.e=0→C.e=0∧C.l=l++C'.l)
theorem cD.trans{A B C:aA}{l m:List Int}(h:cD A l B)(k:cD B m C) : cD A (l++m) C:=fun hr=>by
  obtain⟨h1,h2⟩:=h hr
  obtain⟨k1,k2⟩:=k h1
  refine⟨k1,fun he=>?_⟩
  obtain⟨k3,k4⟩:=k2 he
  obtain⟨h3,h4⟩:=h2 k3
  exact⟨h3,by rw[h4,k4,List.append_assoc]⟩
theorem cD.refl(C:aA) : cD C [] C:=fun hr=>⟨hr,fun he=>⟨he,rfl⟩⟩
theorem cD.need{A C:aA}{l:List Int}{ok:Bool}{x:Int}(h:cD A l C)(hx:x≠0:=by decide) : cD A l (C.need ok x):=fun hr=>by
  obtain⟨h1,h2⟩:=h hr
  refine⟨fun y hy=>h1 y (by rwa [jy] at hy),fun he=>?_⟩
  rw[jy]
  exact h2 (eP hx he).1
theorem cD.bytes{A C:aA}{l:List Int}(h:cD A l C)(n:Int) : cD A (l++C.bytesR n) (C.bytesC n):=h.trans fun hr=>⟨iS hr n,fun he=>⟨(fY he).1,(fY he).2.1⟩⟩
theorem cD.words{A C:aA}{l:List Int}(h:cD A l C)(n:Int) : cD A (l++aQ (C.wordsR n)) (C.wordsC n):=h.trans fun hr=>⟨d6 hr n,fun he=>⟨(jj hr he).1,(jj hr he).2.1⟩⟩
theorem wl{l:List Int}(h:(l.length:Int)=1) : l=[l.getD 0 0]:=by
  match l,h with
  | [a],_=>rfl
  | [],h=>simp at h
  | _ :: _ :: _,h=>simp at h;omega
theorem cD.byte{A C:aA}{l:List Int}(h:cD A l C) : cD A (l++[C.byteV]) (C.bytesC 1):=h.trans fun hr=>⟨iS hr 1,fun he=>by
  obtain⟨h1,h2,h3⟩:=fY he
  refine⟨h1,?_⟩
  have:=wl h3
  show C.l=[(C.bytesR 1).getD 0 0]++_
  rw[← this]
  exact h2⟩
theorem cD.word{A C:aA}{l:List Int}(h:cD A l C) : cD A (l++aQ [C.wordV]) (C.wordsC 1):=h.trans fun hr=>⟨d6 hr 1,fun he=>by
  obtain⟨h1,h2,h3⟩:=jj hr he
  refine⟨h1,?_⟩
  have:=wl h3
  show C.l=aQ [(C.wordsR 1).getD 0 0]++_
  rw[← this]
  exact h2⟩
theorem cD.fin{A C:aA}{l:List Int}(h:cD A l C)(hr:gn A)(he:C.endC.e=0) : C.e=0∧A.l=l:=by
  unfold aA.endC at he
  obtain⟨h1,h2⟩:=eP (by decide) he
  obtain⟨_,h3⟩:=(h hr).2 h1
  have:C.l=[]:=by
    simp only[beq_iff_eq] at h2
    exact List.eq_nil_of_length_eq_zero (by omega)
  exact⟨h1,by rw[h3,this,List.append_nil]⟩
theorem d5{C:aA}(hr:gn C) : 0≤C.byteV∧C.byteV<256:=by
  unfold aA.byteV
  rw[List.getD_eq_getElem?_getD]
  cases h:(C.bytesR 1)[0]? with
  | none=>simp
  | some x =>
    have hm:x∈C.bytesR 1:=List.mem_of_getElem? h
    have:x∈C.l:=by
      unfold aA.bytesR at hm
      split at hm
      · cases hm
      · exact List.mem_of_mem_take hm
    exact hr x this
theorem m0(C:aA)(most:Int) : cD C (aQ [C.wordV,(C.wordsC 1).wordV]) (cM C most):=by
  have:=(((cD.refl C).word).word)
  exact(this.need).need
theorem zQ:∀ n:Nat,n<256→(((if ((n:Int)/2 ^ 0%2==1) then 1 else 0)+(if ((n:Int)/2 ^ 1%2==1) then 2 else 0)+(if ((n:Int)/2 ^ 2%2==1) then 4 else 0)+(if ((n:Int)/2 ^ 3%2==1) then 8 else 0)+(if ((n:Int)/2 ^ 4%2==1) then 16 else 0)+(if ((n:Int)/2 ^ 5%2==1) then 32 else 0)+(if ((n:Int)/2 ^ 6%2==1) then 64 else 0)+(if ((n:Int)/2 ^ 7%2==1) then 128 else 0) : Nat) : Int)=n:=by decide +kernel
theorem mc{x:Int}(hx:0≤x∧x<256)(f:Nat→Bool)(hf:∀ i,i<8→f i=(x/2 ^ i%2==1)) :
    (((if f 0 then 1 else 0)+(if f 1 then 2 else 0)+(if f 2 then 4 else 0)+(if f 3 then 8 else 0)+(if f 4 then 16 else 0)+(if f 5 then 32 else 0)+(if f 6 then 64 else 0)+(if f 7 then 128 else 0) : Nat) : Int)=x:=by
  rw[hf 0 (by decide),hf 1 (by decide),hf 2 (by decide),hf 3 (by decide),hf 4 (by decide),hf 5 (by decide),hf 6 (by decide),hf 7 (by decide)]
  obtain⟨n,rfl⟩:=Int.eq_ofNat_of_zero_le hx.1
  exact zQ n (by omega)
theorem oq{b:List Int}{n:Int}{l:List Bool}(hr:∀ x,x∈b→0≤x∧x<256)(h:dc b n=some l) : dy l=b:=by
  unfold dc at h
  split at h
  · rename_i hc
    split at h
    · rename_i hall
      injection h with h
      subst h
      have hlen:((List.range n.toNat).map (cJ b)).length=n.toNat:=by simp
      have hm:((List.range n.toNat).map (cJ b)).length=n:=by rw[hlen];omega
      unfold dy
      rw[hm,← hc.2]
      apply List.ext_getElem
      · simp
      intro j h1 h2
      simp only[List.getElem_map,List.getElem_range]
      have hj:j<b.length:=h2
      have hget:∀ i,i<8*b.length→((List.range n.toNat).map (cJ b)).getD i false=cJ b i:=fun i hi=>by
        rw[List.getD_eq_getElem?_getD,List.getElem?_map]
        by_cases hin:i<n.toNat
        · rw[List.getElem?_range hin];rfl
        · rw[List.getElem?_eq_none (by simpa using hin)]
          rw[List.all_eq_true] at hall
          have:=hall i (by simpa using hi)
          simp only[Bool.or_eq_true,decide_eq_true_eq,Bool.not_eq_true'] at this
          rcases this with h3|h3
          · omega
          · simp[h3]
      have hx:∀ k,k<8→cJ b (8*j+k)=(b[j]/2 ^ k%2==1):=fun k hk=>by
        unfold cJ
        rw[show(8*j+k)/8=j from by omega,show(8*j+k)%8=k from by omega,List.getD_eq_getElem?_getD,List.getElem?_eq_getElem hj]
        rfl
      unfold cX
      rw[show(8*j:Nat)=8*j+0 from rfl]
      simp only[hget _ (show 8*j+0<8*b.length by omega),hget _ (show 8*j+0+1<8*b.length by omega),hget _ (show 8*j+0+2<8*b.length by omega),hget _ (show 8*j+0+3<8*b.length by omega),hget _ (show 8*j+0+4<8*b.length by omega),hget _ (show 8*j+0+5<8*b.length by omega),hget _ (show 8*j+0+6<8*b.length by omega),hget _ (show 8*j+0+7<8*b.length by omega)]
      exact mc (hr _ (List.getElem_mem hj)) (fun k=>cJ b (8*j+k)) hx
    · cases h
  · cases h
end Go.Proofs.YtdkhbcefkfgbdaaGreat
namespace Go.Proofs.YtdkhbcefkfgbdaaGreat
theorem bg{α β:Type}{p:α × β}{a:α}{b:β}(h:some p=some (a,b)) : p.1=a∧p.2=b:=by
  injection h with h
  rw[h]
  exact⟨rfl,rfl⟩
theorem sI{C:aA}{most c:Int}(hr:gn C)(he:(fk most c C).1.endC.e=0) : aQ [C.wordV,(C.wordsC 1).wordV]=C.l:=((m0 C most).fin hr he).2.symm
theorem vT{C:aA}{c:Int}(hr:gn C)(he:(gO c C).1.endC.e=0) : [(((hY C).bytesR C.byteV).length:Int)%256]++(hY C).bytesR C.byteV=C.l:=by
  have hbv:=d5 hr
  have hE:cD C ([]++[C.byteV]++(hY C).bytesR C.byteV) ((hY C).bytesC C.byteV):=(((cD.refl C).byte).need).bytes _
  obtain⟨h1,h2⟩:=hE.fin hr he
  obtain⟨_,_,h3⟩:=fY h1
  rw[h2,h3,Int.emod_eq_of_lt hbv.1 hbv.2]
  rfl
theorem xo{C:aA}{c:Int}(hr:gn C)(he:(f7 c C).1.endC.e=0) : aQ [C.wordV,(C.wordsC 1).wordV]=C.l:=by
  have hE:cD C ([]++aQ [C.wordV]++aQ [(C.wordsC 1).wordV]) (oH C):=(((cD.refl C).word).word).need
  rw[(hE.fin hr he).2]
  rfl
theorem AQ{C:aA}{c:Int}(hr:gn C)(he:(nN c C).1.endC.e=0) : (aQ [C.wordV,(C.wordsC 1).wordV]++[((dy ((AP C).getD [])).length:Int)%256])++dy ((AP C).getD [])=C.l:=by
  have hE:cD C (aQ [C.wordV,(C.wordsC 1).wordV]++[(cM C 1968).byteV]++(pv C).bytesR (xZ C)) (Cm C):=(((((m0 C 1968).byte).need).bytes _).need)
  obtain⟨h1,h2⟩:=hE.fin hr he
  obtain⟨h3,h4⟩:=eP (by decide) h1
  obtain⟨_,_,h5⟩:=fY h3
  obtain⟨l,hl⟩:=Option.isSome_iff_exists.1 h4
  have hB:∀ x,x∈(pv C).bytesR (xZ C)→0≤x∧x<256:=fun x hx=>hr x (by rw[h2];exact List.mem_append_right _ hx)
  have h6:dy l=(pv C).bytesR (xZ C):=oq hB hl
  have hk:0≤xZ C∧xZ C<256:=d5 ((m0 C 1968) hr).1
  rw[hl]
  show(aQ [C.wordV,(C.wordsC 1).wordV]++[((dy l).length:Int)%256])++dy l=C.l
  rw[h6,h2,h5,Int.emod_eq_of_lt hk.1 hk.2]
  rfl
theorem xh{dir c:Int}{C C':aA}{M:b6}(hd:dir=0∨dir=1)(hr:gn C)(h:bj dir c C=some (C',M))(he:C'.endC.e=0) : cj dir M=C.l:=by
  unfold bj at h
  split at h
  · rename_i hc
    simp only[Bool.or_eq_true,beq_iff_eq] at hc
    rcases hd with rfl|rfl
    · have h:some (fk 2000 c C)=some (C',M):=h
      obtain⟨rfl,rfl⟩:=bg h
      rcases hc with rfl|rfl<;>exact sI hr he
    · have h:some (gO c C)=some (C',M):=h
      obtain⟨rfl,rfl⟩:=bg h
      rcases hc with rfl|rfl<;>exact vT hr he
  split at h
  · rename_i hc
    obtain rfl:c=5:=by simpa using hc
    obtain⟨rfl,rfl⟩:=bg h
    exact xo hr he
  split at h
  · rename_i hc
    obtain rfl:c=15:=by simpa using hc
    rcases hd with rfl|rfl
    · have h:some (nN 15 C)=some (C',M):=h
      obtain⟨rfl,rfl⟩:=bg h
      exact AQ hr he
    · have h:some (fk 1968 15 C)=some (C',M):=h
      obtain⟨rfl,rfl⟩:=bg h
      exact sI hr he
  · cases h
theorem ig{A C:aA}{l:List Int}(h:cD A l C)(a most:Int) : cD A (l++aQ [C.wordV]) (bB C a most):=((h.word).need).need
theorem BJ{n hi:Int}(h:jP n hi=true) : n%2=0∧2≤n∧n≤hi:=by
  unfold jP at h
  simp only[Bool.and_eq_true,decide_eq_true_eq,beq_iff_eq] at h
  exact⟨h.1.1,h.1.2,h.2⟩
theorem qa{c:Int}{C:aA}(hr:gn C)(he:(dC c C).1.endC.e=0) : [(2*(((ll C).wordsR (C.byteV/2)).length:Int))%256]++aQ ((ll C).wordsR (C.byteV/2))=C.l:=by
  have hbv:=d5 hr
  have hE0:cD C ([]++[C.byteV]) (ll C):=((cD.refl C).byte).need
  have hE:=hE0.words (C.byteV/2)
  obtain⟨h1,h2⟩:=hE.fin hr he
  obtain⟨h3,_,h5⟩:=jj (hE0 hr).1 h1
  obtain⟨h6,h7,h8⟩:=BJ (eP (by decide) h3).2
  rw[h2,h5,show(2*(C.byteV/2))%256=C.byteV from by omega]
  rfl
theorem ox{most c:Int}{C:aA}(hr:gn C)(he:(cL most c C).1.endC.e=0) : aQ [C.wordV,(C.wordsC 1).wordV]=C.l:=by
  rw[((ig (cD.refl C).word C.wordV most).fin hr he).2]
  rfl
theorem zK{c:Int}{C:aA}(hr:gn C)(he:(fZ c C).1.endC.e=0) : aQ [C.wordV,(C.wordsC 1).wordV]=C.l:=by
  rw[(((cD.refl C).word).word.fin hr he).2]
  rfl
theorem jV{A C:aA}{l:List Int}(h:cD A l C)(n:Int) : cD A (l++[C.byteV]) (cA C n):=(h.byte).need
theorem xj{c:Int}{C:aA}(hr:gn C)(he:(eY c C).1.endC.e=0) : (aQ [C.wordV,(C.wordsC 1).wordV]++[(2*(((iG C).wordsR (C.wordsC 1).wordV).length:Int))%256])++aQ ((iG C).wordsR (C.wordsC 1).wordV)=C.l:=by
  have hE0:cD C _ (bB (C.wordsC 1) C.wordV 123):=ig (cD.refl C).word C.wordV 123
  have hE1:cD C _ (iG C):=jV hE0 (C.wordsC 1).wordV
  have hbv:=d5 (hE0 hr).1
  obtain⟨h1,h2⟩:=(hE1.words (C.wordsC 1).wordV).fin hr he
  obtain⟨h3,_,h5⟩:=jj (hE1 hr).1 h1
  have h6:=(eP (by decide) h3).2
  simp only[beq_iff_eq] at h6
  rw[h5,← h6,Int.emod_eq_of_lt hbv.1 hbv.2,h2]
  rfl
theorem xJ{c:Int}{C:aA}(hr:gn C)(he:(ez c C).1.endC.e=0) : aQ [C.wordV,(C.wordsC 1).wordV,((C.wordsC 1).wordsC 1).wordV]=C.l:=by
  rw[(((cD.refl C).word).word.word.fin hr he).2]
  rfl
theorem wn{c:Int}{C:aA}(hr:gn C)(he:(eZ c C).1.endC.e=0) : (aQ [C.wordV,(C.wordsC 1).wordV,(bB (C.wordsC 1) C.wordV 125).wordV,(((hH C).wordsR (fH C).wordV).length:Int)%65536]++[(2*(((hH C).wordsR (fH C).wordV).length:Int))%256])++aQ ((hH C).wordsR (fH C).wordV)=C.l:=by
  have hE0:cD C _ (fH C):=(ig (cD.refl C).word C.wordV 125).word
  have hE1:cD C _ (t1 C):=ig hE0 (bB (C.wordsC 1) C.wordV 125).wordV 121
  have hE2:cD C _ (hH C):=jV hE1 (fH C).wordV
  have hbv:=d5 (hE1 hr).1
  have hwv:0≤(fH C).wordV∧(fH C).wordV<65536:=di (hE0 hr).1
  obtain⟨h1,h2⟩:=(hE2.words (fH C).wordV).fin hr he
  obtain⟨h3,_,h5⟩:=jj (hE2 hr).1 h1
  have h6:=(eP (by decide) h3).2
  simp only[beq_iff_eq] at h6
  rw[h5,Int.emod_eq_of_lt hwv.1 hwv.2,← h6,Int.emod_eq_of_lt hbv.1 hbv.2,h2]
  rfl
theorem vV{c:Int}{C:aA}(hr:gn C)(he:(fu c C).1.endC.e=0) : aQ [C.wordV]=C.l:=by
  rw[((cD.refl C).word.fin hr he).2]
  rfl
theorem C7{c:Int}{C:aA}(hr:gn C)(he:(y4 c C).1.endC.e=0) : aQ [(2+2*(((zV C).wordsR (tv C).wordV).length:Int))%65536,(((zV C).wordsR (tv C).wordV).length:Int)%65536]++aQ ((zV C).wordsR (tv C).wordV)=C.l:=by
  have hE0:cD C _ (tv C):=((cD.refl C).word).need
  have hE1:cD C _ (zV C):=(hE0.word).need
  have hwc:0≤C.wordV∧C.wordV<65536:=di hr
  have hwv:0≤(tv C).wordV∧(tv C).wordV<65536:=di (hE0 hr).1
  obtain⟨h1,h2⟩:=(hE1.words (tv C).wordV).fin hr he
  obtain⟨h3,_,h5⟩:=jj (hE1 hr).1 h1
  have h6:=(eP (by decide) h3).2
  simp only[beq_iff_eq] at h6
  rw[h5,h6,Int.emod_eq_of_lt hwv.1 hwv.2,Int.emod_eq_of_lt hwc.1 hwc.2,h2]
  rfl
theorem zr{dir c:Int}{C C':aA}{M:b6}(hd:dir=0∨dir=1)(hr:gn C)(h:bQ dir c C=some (C',M))(he:C'.endC.e=0) : bL dir M=C.l:=by
  unfold bQ at h
  split at h
  · rename_i hc
    simp only[Bool.or_eq_true,beq_iff_eq] at hc
    rcases hd with rfl|rfl
    · have h:some (cL 125 c C)=some (C',M):=h
      obtain⟨rfl,rfl⟩:=bg h
      rcases hc with rfl|rfl<;>exact ox hr he
    · have h:some (dC c C)=some (C',M):=h
      obtain⟨rfl,rfl⟩:=bg h
      rcases hc with rfl|rfl<;>exact qa hr he
  split at h
  · rename_i hc
    obtain rfl:c=6:=by simpa using hc
    obtain⟨rfl,rfl⟩:=bg h
    rcases hd with rfl|rfl<;>exact zK hr he
  split at h
  · rename_i hc
    obtain rfl:c=16:=by simpa using hc
    rcases hd with rfl|rfl
    · have h:some (eY 16 C)=some (C',M):=h
      obtain⟨rfl,rfl⟩:=bg h
      exact xj hr he
    · have h:some (cL 123 16 C)=some (C',M):=h
      obtain⟨rfl,rfl⟩:=bg h
      exact ox hr he
  split at h
  · rename_i hc
    obtain rfl:c=22:=by simpa using hc
    obtain⟨rfl,rfl⟩:=bg h
    rcases hd with rfl|rfl<;>exact xJ hr he
  split at h
  · rename_i hc
    obtain rfl:c=23:=by simpa using hc
    rcases hd with rfl|rfl
    · have h:some (eZ 23 C)=some (C',M):=h
      obtain⟨rfl,rfl⟩:=bg h
      exact wn hr he
    · have h:some (dC 23 C)=some (C',M):=h
      obtain⟨rfl,rfl⟩:=bg h
      exact qa hr he
  split at h
  · rename_i hc
    obtain rfl:c=24:=by simpa using hc
    rcases hd with rfl|rfl
    · have h:some (fu 24 C)=some (C',M):=h
      obtain⟨rfl,rfl⟩:=bg h
      exact vV hr he
    · have h:some (y4 24 C)=some (C',M):=h
      obtain⟨rfl,rfl⟩:=bg h
      exact C7 hr he
  · cases h
end Go.Proofs.YtdkhbcefkfgbdaaGreat
namespace Go.Proofs.YtdkhbcefkfgbdaaGreat
theorem cD.conv{A C:aA}{l l':List Int}(h:cD A l C)(k:gn A→gn C→C.e=0→l=l') : cD A l' C:=fun hr=>by
  obtain⟨h1,h2⟩:=h hr
  refine⟨h1,fun he=>?_⟩
  rw[← k hr h1 he]
  exact h2 he
theorem zh{dir c:Int}{C:aA}(hr:gn C)(he:(eb dir c C).1.endC.e=0) : aQ [(eb dir c C).2.sub]++aQ (eb dir c C).2.words=C.l:=by
  have hE0:cD C ([]++aQ [C.wordV]) (gi dir C):=((cD.refl C).word).need
  unfold eb at he ⊢
  split at he
  · rename_i hw
    rw[if_pos hw]
    exact(((hE0.words 1).need).fin hr he).2.symm
  · rename_i hw
    rw[if_neg hw]
    exact(((hE0.need).words _).fin hr he).2.symm
theorem oI(C:aA)(lo hi:Int) : cD C ([]++[C.byteV]) (fz C lo hi):=((cD.refl C).byte).need
theorem qj{A C:aA}{l:List Int}(h:cD A l C) : cD A (l++aQ [C.wordV]) (dx C):=(h.word).need
theorem AB{c:Int}{C:aA}(hc:c=7∨c=11∨c=12∨c=17)(hr:gn C)(he:(cm c C).1.endC.e=0) : bG 1 (cm c C).2=C.l:=by
  have hbv:=d5 hr
  rcases hc with rfl|rfl|rfl|rfl
  · have he:(C.bytesC 1).endC.e=0:=he
    show[C.byteV%256]=C.l
    rw[Int.emod_eq_of_lt hbv.1 hbv.2,((cD.refl C).byte.fin hr he).2]
    rfl
  · have he:((dx C).wordsC 1).endC.e=0:=he
    show aQ [C.wordV,(dx C).wordV]=C.l
    rw[((qj (cD.refl C)).word.fin hr he).2]
    rfl
  · have he:((gT C).bytesC (C.byteV-6)).endC.e=0:=he
    have hE:=(((qj (oI C 6 70)).word).word).bytes (C.byteV-6)
    obtain⟨h1,h2⟩:=hE.fin hr he
    obtain⟨_,_,h3⟩:=fY h1
    show([(6+(((gT C).bytesR (C.byteV-6)).length:Int))%256]++aQ [(fz C 6 70).wordV,(dx (fz C 6 70)).wordV,((dx (fz C 6 70)).wordsC 1).wordV])++(gT C).bytesR (C.byteV-6)=C.l
    have h4:(((gT C).bytesR (C.byteV-6)).length:Int)=C.byteV-6:=h3
    rw[h4,show(6+(C.byteV-6))%256=C.byteV from by omega,h2]
    rfl
  · have he:((fz C 1 251).bytesC C.byteV).endC.e=0:=he
    have hE:=(oI C 1 251).bytes C.byteV
    obtain⟨h1,h2⟩:=hE.fin hr he
    obtain⟨_,_,h3⟩:=fY h1
    show[(((fz C 1 251).bytesR C.byteV).length:Int)%256]++(fz C 1 251).bytesR C.byteV=C.l
    rw[h3,Int.emod_eq_of_lt hbv.1 hbv.2,h2]
    rfl
theorem AO{c:Int}{C:aA}(hc:c=7∨c=11∨c=12∨c=17)(hr:gn C)(he:C.endC.e=0) : bG 0 { b6.zero with code:=c }=C.l:=by
  have h:=((cD.refl C).fin hr he).2
  rcases hc with rfl|rfl|rfl|rfl<;>exact h.symm
theorem yQ{dir c:Int}{C C':aA}{M:b6}(hd:dir=0∨dir=1)(hr:gn C)(h:bv dir c C=some (C',M))(he:C'.endC.e=0) : bG dir M=C.l:=by
  unfold bv at h
  split at h
  · rename_i hc
    obtain rfl:c=8:=by simpa using hc
    obtain⟨rfl,rfl⟩:=bg h
    have hco:(eb dir 8 C).2.code=8:=by unfold eb;split<;>rfl
    unfold bG
    rw[hco,if_pos (by rfl)]
    exact zh hr he
  split at h
  · rename_i hc
    simp only[Bool.or_eq_true,beq_iff_eq] at hc
    have hc:c=7∨c=11∨c=12∨c=17:=by omega
    rcases hd with rfl|rfl
    · have h:some (C,({ b6.zero with code:=c }:b6))=some (C',M):=h
      obtain⟨rfl,rfl⟩:=bg h
      exact AO hc hr he
    · have h:some (cm c C)=some (C',M):=h
      obtain⟨rfl,rfl⟩:=bg h
      exact AB hc hr he
  · cases h
theorem qu:∀ (n:Nat)(C:aA)(L:List Obj),∃ L',(fI n C L).2=L++L'∧L'.length=n∧cD C (eM L') (fI n C L).1
  | 0,C,L=>⟨[],by simp[fI],rfl,cD.refl C⟩
  | n+1,C,L=>by
    obtain⟨L',h1,h2,h3⟩:=qu n (((C.bytesC 1).bytesC 1).bytesC (C.bytesC 1).byteV) (L++[⟨C.byteV,((C.bytesC 1).bytesC 1).bytesR (C.bytesC 1).byteV⟩])
    refine⟨⟨C.byteV,((C.bytesC 1).bytesC 1).bytesR (C.bytesC 1).byteV⟩ :: L',?_,by simp[h2],?_⟩
    · show(fI n _ _).2=_
      rw[h1]
      simp
    · have hE0:cD C _ ((C.bytesC 1).bytesC 1):=(cD.refl C).byte.byte
      have hE1:cD C (([C.byteV,((((C.bytesC 1).bytesC 1).bytesR (C.bytesC 1).byteV).length:Int)%256])++((C.bytesC 1).bytesC 1).bytesR (C.bytesC 1).byteV) (((C.bytesC 1).bytesC 1).bytesC (C.bytesC 1).byteV):=(hE0.bytes _).conv fun hr _ he=>by
        have hb:=d5 ((cD.refl C).byte hr).1
        rw[(fY he).2.2,Int.emod_eq_of_lt hb.1 hb.2]
        rfl
      exact hE1.trans h3
theorem wP{c:Int}{C:aA}(hr:gn C)(he:(db (dV C).byteV (dG C)).1.endC.e=0) : [C.byteV,(dV C).byteV,(dG C).byteV,(mp (dG C)).byteV,(pU (dG C)).byteV,((db (dV C).byteV (dG C)).2.length:Int)%256]++eM (db (dV C).byteV (dG C)).2=C.l:=by
  have hE0:cD C _ (dV C):=(cD.refl C).byte.need
  have hE1:cD C _ (dG C):=hE0.byte.need
  have hE2:cD C _ (mp (dG C)):=hE1.byte.need
  have hE3:cD C _ (pU (dG C)):=hE2.byte.need
  have hE4:cD C _ (oR (dG C)):=hE3.byte.need
  have hE5:cD C _ (yI (dV C).byteV (dG C)):=hE4.byte.need
  obtain⟨L',h1,h2,h3⟩:=qu (oR (dG C)).byteV.toNat (yI (dV C).byteV (dG C)) []
  have hb:=d5 (hE4 hr).1
  have h4:(db (dV C).byteV (dG C)).2=L':=by unfold db;rw[h1];rfl
  obtain⟨_,h5⟩:=(hE5.trans h3).fin hr he
  rw[h4,h2,show(((oR (dG C)).byteV.toNat:Nat) : Int)%256=(oR (dG C)).byteV from by omega,h5]
  rfl
theorem wN{dir c:Int}{C C':aA}{M:b6}(hd:dir=0∨dir=1)(hr:gn C)(h:cc dir c C=some (C',M))(he:C'.endC.e=0) : d7 dir M=C.l:=by
  have hE0:cD C _ (dV C):=(cD.refl C).byte.need
  unfold cc at h
  split at h
  · cases h
  split at h
  · rename_i hm
    obtain⟨rfl,rfl⟩:=bg h
    have hE1:=(hE0.need (ok:=decide (((dV C).l.length:Int)≤251)) (x:=5)).bytes ((jd C).l.length:Int)
    obtain⟨_,h5⟩:=hE1.fin hr he
    unfold d7
    rw[if_pos (show(C.byteV==13)=true from hm),h5]
    rfl
  rename_i hm
  split at h
  · rename_i hc
    obtain rfl:dir=1:=by simpa using hc
    obtain⟨rfl,rfl⟩:=bg h
    unfold d7
    rw[if_neg (show ¬ (C.byteV==13)=true from hm),if_neg (by decide)]
    exact wP (c:=c) hr he
  · rename_i hc
    obtain rfl:dir=0:=by
      rcases hd with rfl|rfl
      · rfl
      · exact absurd rfl hc
    obtain⟨rfl,rfl⟩:=bg h
    have hE1:cD C _ (dG C):=hE0.byte.need
    obtain⟨_,h5⟩:=hE1.byte.fin hr he
    unfold d7
    rw[if_neg (show ¬ (C.byteV==13)=true from hm),if_pos (by rfl),h5]
    rfl
theorem ph{one:Int→aA→Int × aA × dY}{dir code:Int}(hl:∀ s C,0<C.l.length→(one s C).2.1.l.length<C.l.length)(hE:∀ s C,cD C (eX dir code (one s C).2.2) (one s C).2.1) :
    ∀ (n:Nat) (s:Int) (C:aA) (L:List dY),C.l.length≤n→gn C→(bq one n s C L).1.e=0→∃ L',(bq one n s C L).2=L++L'∧C.l=bX dir code L'
  | 0,s,C,L,h,_,_=>⟨[],by simp[bq],by simpa [bX] using h⟩
  | n+1,s,C,L,h,hr,he=>by
    unfold bq at he ⊢
    split at he
    · rename_i hc
      rw[if_pos hc]
      simp only[Bool.and_eq_true,decide_eq_true_eq,beq_iff_eq] at hc
      have h1:=hl s C (by omega)
      obtain⟨h2,h3⟩:=hE s C hr
      split at he
      · rename_i hn
        rw[he] at hn
        cases hn
      · rename_i hn
        rw[if_neg hn]
        have h4:(one s C).2.1.e=0:=by simpa using hn
        obtain⟨L',h5,h6⟩:=ph hl hE n (one s C).1 (one s C).2.1 (L++[(one s C).2.2]) (by omega) h2 he
        refine⟨(one s C).2.2 :: L',by rw[h5];simp,?_⟩
        rw[(h3 h4).2,h6]
        rfl
    · rename_i hc
      rw[if_neg hc]
      have he:C.e=0:=he
      refine⟨[],by simp,?_⟩
      have:C.l=[]:=by
        apply List.eq_nil_of_length_eq_zero
        simp only[he,Bool.and_eq_true,decide_eq_true_eq,beq_self_eq_true,and_true] at hc
        omega
      rw[this]
      rfl
theorem za(C:aA) : cD C [6] (s6 C):=((cD.refl C).byte.need).conv fun hr _ he=>by
  have h:=(eP (by decide) he).2
  simp only[beq_iff_eq] at h
  rw[h]
  rfl
theorem qq(C:aA) : cD C ([6]++aQ [(bp C).file,(bp C).record,(bp C).count]) (gh C):=by
  have hE1:cD C _ (oo C):=(za C).word.need
  have hE2:cD C _ (qy C):=hE1.word.need
  have hE3:cD C _ (gh C):=hE2.word.need
  exact hE3
theorem sB(s:Int)(C:aA) : cD C (eX 0 20 (eG s C).2.2) (eG s C).2.1:=by
  have h:cD C _ (fj s C):=(qq C).need
  exact h.conv fun _ _ _=>rfl
theorem sK(dir s:Int)(C:aA) : cD C (eX dir 21 (eS s C).2.2) (eS s C).2.1:=by
  have h:cD C _ (rE C):=(qq C).need
  exact(h.words (qy C).wordV).conv fun _ _ _=>rfl
theorem sF(s:Int)(C:aA) : cD C (eX 1 20 (da s C).2.2) (da s C).2.1:=by
  have hE1:cD C _ (ka C):=(cD.refl C).byte.need
  have hE2:cD C _ (fA C):=hE1.byte.need
  refine(hE2.words (Int.tdiv (C.byteV-1) 2)).conv fun hr _ he=>?_
  obtain⟨h1,_,h2⟩:=jj (hE2 hr).1 he
  obtain⟨h3,h4⟩:=eP (by decide) h1
  obtain⟨h5,h6⟩:=eP (by decide) (fY h3).1
  have hb:=d5 hr
  simp only[Bool.and_eq_true,decide_eq_true_eq,beq_iff_eq] at h4 h6
  have h7:(1+2*(((fA C).wordsR (Int.tdiv (C.byteV-1) 2)).length:Int))%256=C.byteV:=by
    rw[h2,Int.tdiv_eq_ediv_of_nonneg (by omega)]
    omega
  show _=[(1+2*(((fA C).wordsR (Int.tdiv (C.byteV-1) 2)).length:Int))%256,6]++aQ ((fA C).wordsR (Int.tdiv (C.byteV-1) 2))
  rw[h7,h4]
  rfl
theorem ir{one:Int→aA→Int × aA × dY}{dir code:Int}(hl:∀ s C,0<C.l.length→(one s C).2.1.l.length<C.l.length)(hE:∀ s C,cD C (eX dir code (one s C).2.2) (one s C).2.1){may:Int→Bool}{c:Int}{C:aA}(hr:gn C)
    (he:(dJ one may c C).1.endC.e=0) : [((bX dir code (n8 one may C).2).length:Int)%256]++bX dir code (n8 one may C).2=C.l:=by
  have hE0:cD C _ (t8 may C):=(cD.refl C).byte.need
  have hE1:=hE0.bytes C.byteV
  have hb:=d5 hr
  unfold aA.endC at he
  obtain⟨h0,a⟩:=eP (by decide) he
  unfold dJ at h0 a
  have hw:dP (n8 one may C).1.e≠0∨(n8 one may C).1.e=0:=by
    by_cases hz:(n8 one may C).1.e=0
    · exact Or.inr hz
    · left
      unfold dP
      split
      · decide
      · exact hz
  have h1:((t8 may C).bytesC C.byteV).e=0∧(n8 one may C).1.e=0:=by
    rcases hw with hw|hw
    · obtain⟨h2,h3⟩:=eP hw h0
      exact⟨h2,by simpa using h3⟩
    · rw[hw] at h0
      refine⟨?_,hw⟩
      unfold aA.need at h0
      rw[if_neg (by rintro⟨_,hx⟩;cases hx)] at h0
      exact h0
  obtain⟨h2,h3,h4⟩:=fY h1.1
  have h5:((t8 may C).bytesC C.byteV).l=[]:=by
    rw[jy] at a
    simp only[beq_iff_eq] at a
    exact List.eq_nil_of_length_eq_zero (by omega)
  have h6:C.l=[C.byteV]++(t8 may C).bytesR C.byteV:=by
    rw[((hE1 hr).2 h1.1).2,h5]
    simp
  have hB:gn (wZ may C):=fun x hx=>hr x (by rw[h6];exact List.mem_append_right _ hx)
  obtain⟨L',h7,h8⟩:=ph hl hE (wZ may C).l.length 0 (wZ may C) [] (Nat.le_refl _) hB h1.2
  have h9:(n8 one may C).2=L':=by unfold n8;rw[h7];rfl
  have b:bX dir code L'=(t8 may C).bytesR C.byteV:=h8.symm
  rw[h9,b,h4,Int.emod_eq_of_lt hb.1 hb.2,h6]
theorem pz(dir:Int)(M:b6) : cO dir M=[((bX dir M.code M.recs).length:Int)%256]++bX dir M.code M.recs:=by
  unfold cO
  simp
theorem wD{dir c:Int}{C C':aA}{M:b6}(hd:dir=0∨dir=1)(hr:gn C)(h:bz dir c C=some (C',M))(he:C'.endC.e=0) : cO dir M=C.l:=by
  rw[pz]
  unfold bz at h
  split at h
  · rename_i hc
    obtain rfl:c=20:=by simpa using hc
    rcases hd with rfl|rfl
    · have h:some (dJ eG kV 20 C)=some (C',M):=h
      obtain⟨rfl,rfl⟩:=bg h
      exact ir nI sB hr he
    · have h:some (dJ da lW 20 C)=some (C',M):=h
      obtain⟨rfl,rfl⟩:=bg h
      exact ir lG sF hr he
  split at h
  · rename_i hc
    obtain rfl:c=21:=by simpa using hc
    obtain⟨rfl,rfl⟩:=bg h
    exact ir nC (sK dir) hr he
  · cases h
theorem fq{form:Int→Int→aA→Option (aA × b6)}{lay:Int→b6→List Int}(hf:∀ {dir c:Int}{C C':aA}{M:b6},(dir=0∨dir=1)→gn C→form dir c C=some (C',M)→C'.endC.e=0→lay dir M=C.l)
    {dir c:Int} {b:List Int} {M:b6} (hd:dir=0∨dir=1) (hr:∀ x,x∈b→0≤x∧x<256) (h:aG form dir c b=(M,0)) : lay dir M=b:=by
  unfold aG at h
  rw[if_pos hd] at h
  split at h
  · cases h
  · rename_i r hr'
    unfold cC at h
    split at h
    · rename_i he
      injection h with h
      obtain⟨C',M'⟩:=r
      have h:M'=M:=h
      subst h
      exact hf (C:=⟨b,false,0⟩) hd hr hr' he
    · rename_i he
      injection h with _ h
      exact absurd h he
theorem fg{parse:Int→Int→List Int→b6 × Int}{lay:Int→b6→List Int}{dir:Int}{M:b6}{l:List Int}(h1:lay dir M=l)(h2:parse dir M.code l=(M,0)) : cg parse lay dir M=some l:=by
  unfold cg
  rw[h1,if_pos h2]
theorem zv{k:Nat}{dir:Int}{b:List Int}{M:b6}(hd:dir=0∨dir=1)(hr:∀ x,x∈b→0≤x∧x<256)(h:gY k dir b=(M,0))(hc:M.code=b.getD 0 0) : gX k dir M=some (b.drop 1):=by
  have hr':∀ x,x∈b.drop 1→0≤x∧x<256:=fun x hx=>hr x (List.mem_of_mem_drop hx)
  unfold gY at h
  split at h
  · exact fg (fq xh hd hr' h) (by rw[hc];exact h)
  · exact fg (fq zr hd hr' h) (by rw[hc];exact h)
  · exact fg (fq yQ hd hr' h) (by rw[hc];exact h)
  · exact fg (fq wD hd hr' h) (by rw[hc];exact h)
  · exact fg (fq wN hd hr' h) (by rw[hc];exact h)
  · cases h
theorem xA{x:Int}(h:dU x=true) : (x != 0)=true:=by
  unfold dU at h
  simp only[decide_eq_true_eq,List.mem_cons,List.not_mem_nil,or_false] at h
  simp only[bne_iff_ne]
  omega
theorem uq{x:Int}(h:eC x=true) : 0<x∧x<128:=by
  unfold eC at h
  simp only[decide_eq_true_eq,List.mem_cons,List.not_mem_nil,or_false] at h
  omega
theorem lE{dir:Int}{b:List Int}{M:b6}(hd:dir=0∨dir=1)(hr:∀ x,x∈b→0≤x∧x<256)(h:dm dir b=(M,0)) : dD dir M=some b:=by
  unfold dm at h
  split at h
  · cases h
  split at h
  · cases h
  split at h
  · cases h
  rename_i h1 h2 h3
  simp only[beq_iff_eq] at h2
  simp only[decide_eq_true_eq] at h3
  obtain⟨x,t,rfl⟩ : ∃ x t,b=x :: t:=by
    cases b with
    | nil=>exact absurd rfl h2
    | cons x t=>exact⟨x,t,rfl⟩
  have hx:=hr x (by simp)
  split at h
  · rename_i hq
    simp only[Bool.and_eq_true,decide_eq_true_eq,beq_iff_eq] at hq
    obtain⟨rfl,k1,k2,k3,k4⟩:=yh h
    have k5:=uq k2
    unfold dD
    rw[if_pos (show((j5 _ ((x :: t).getD 1 0)).fail != 0)=true from xA k3)]
    rw[if_neg (by rw[hq.2];decide)]
    unfold pq
    have k6:i7 (j5 (((x :: t).getD 0 0-128)%256) ((x :: t).getD 1 0)).code (j5 (((x :: t).getD 0 0-128)%256) ((x :: t).getD 1 0)).fail=true:=by
      show i7 (((x :: t).getD 0 0-128)%256) ((x :: t).getD 1 0)=true
      unfold i7
      rw[k2,k3]
      have:(((x :: t).getD 0 0-128)%256 != 0)=true:=by simp only[bne_iff_ne];omega
      rw[this]
      rfl
    rw[k6]
    have k7:decide (j5 (((x :: t).getD 0 0-128)%256) ((x :: t).getD 1 0)=j5 (j5 (((x :: t).getD 0 0-128)%256) ((x :: t).getD 1 0)).code (j5 (((x :: t).getD 0 0-128)%256) ((x :: t).getD 1 0)).fail)=true:=decide_eq_true rfl
    rw[k7]
    show some [(((x-128)%256)+128)%256,(x :: t).getD 1 0]=some (x :: t)
    match t,k4 with
    | [y],_ =>
      rw[show(((x-128)%256)+128)%256=x from by omega]
      rfl
  · obtain⟨_,k1⟩:=uh hd h
    obtain⟨k2,k3⟩:=k1 rfl
    have k4:=zv hd hr h k2
    unfold dD
    rw[if_neg (by rw[k3];decide),k2,k4]
    show(if decide (253≤(t.length:Int))=true then none else some ([x]++t))=some (x :: t)
    rw[if_neg (by simp only[decide_eq_true_eq];simp only[List.length_cons] at h3;omega)]
    rfl
end Go.Proofs.YtdkhbcefkfgbdaaGreat
namespace Go.Proofs.YtdkhbcefkfgbdaaGreat
theorem lv(C:aA)(n:Int) : (C.bytesR n).length≤C.l.length:=by
  unfold aA.bytesR
  split
  · simp
  · rw[List.length_take];omega
theorem tZ(C:aA)(n:Int) : (C.wordsR n).length≤C.l.length:=by
  have h:=lv C (2*n)
  unfold aA.wordsR
  split
  · simp
  · unfold dI
    split
    · rw[eg];omega
    · simp
def Sh (C C':aA) : Prop:=C'.l.length≤C.l.length
theorem Sh.refl(C:aA) : Sh C C:=Nat.le_refl _
theorem Sh.bytes{A C:aA}(h:Sh A C){n:Int}:Sh A (C.bytesC n):=Nat.le_trans (iH C n) h
theorem Sh.words{A C:aA}(h:Sh A C){n:Int}:Sh A (C.wordsC n):=Nat.le_trans (eA C n) h
theorem Sh.need{A C:aA}(h:Sh A C){b:Bool}{e:Int}:Sh A (C.need b e):=by unfold Sh;rw[ed];exact h
theorem Sh.bR{A C:aA}(h:Sh A C)(n:Int){k:Nat}(hk:A.l.length≤k) : (C.bytesR n).length≤k:=Nat.le_trans (lv C n) (Nat.le_trans h hk)
theorem Sh.wR{A C:aA}(h:Sh A C)(n:Int){k:Nat}(hk:A.l.length≤k) : (C.wordsR n).length≤k:=Nat.le_trans (tZ C n) (Nat.le_trans h hk)
theorem er{M:b6}(h1:M.words.length≤252)(h2:M.bits.length≤2016)(h3:M.data.length≤252)(h4:M.recs=[])(h5:M.objects=[]) : bf M :=
  ⟨by omega,by omega,by omega,by rw[h4];decide,(by rw[h4];exact fun r h=>nomatch h),by rw[h5];decide,(by rw[h5];exact fun r h=>nomatch h)⟩
theorem dp(M:b6)(h1:M.words=[])(h2:M.bits=[])(h3:M.data=[])(h4:M.recs=[])(h5:M.objects=[]) : bf M:=er (by rw[h1];decide) (by rw[h2];decide) (by rw[h3];decide) h4 h5
theorem yc(C:aA)(m:Int) : Sh C (cM C m):=((Sh.refl C).words.words.need).need
theorem kU{A C:aA}(h:Sh A C)(a m:Int) : Sh A (bB C a m):=(h.words.need).need
theorem rT{b:List Int}{n:Int}{l:List Bool}(h:dc b n=some l) : l.length≤8*b.length:=by
  unfold dc at h
  split at h
  · rename_i hc
    split at h
    · injection h with h
      subst h
      have:=hc.2
      rw[List.length_map,List.length_range]
      unfold eI at this
      split at this<;>omega
    · cases h
  · cases h
theorem vf{dir c:Int}{C C':aA}{M:b6}(hl:C.l.length≤252)(h:bj dir c C=some (C',M)) : bf M:=by
  unfold bj at h
  repeat' split at h
  all_goals first | (cases h;done) | obtain⟨rfl,rfl⟩:=bg h
  · exact dp _ rfl rfl rfl rfl rfl
  · exact er (Nat.zero_le _) (Nat.zero_le _) (((Sh.refl C).bytes.need).bR _ hl) rfl rfl
  · exact dp _ rfl rfl rfl rfl rfl
  · refine er (Nat.zero_le _) ?_ (Nat.zero_le _) rfl rfl
    show((AP C).getD []).length≤2016
    cases hu:AP C with
    | none=>simp
    | some l =>
      have h1:=rT hu
      have h2:((pv C).bytesR (xZ C)).length≤252:=((yc C 1968).bytes.need).bR _ hl
      simp only[Option.getD_some]
      omega
  · exact dp _ rfl rfl rfl rfl rfl
theorem wO{dir c:Int}{C C':aA}{M:b6}(hl:C.l.length≤252)(h:bQ dir c C=some (C',M)) : bf M:=by
  unfold bQ at h
  repeat' split at h
  all_goals first | (cases h;done) | obtain⟨rfl,rfl⟩:=bg h
  · exact dp _ rfl rfl rfl rfl rfl
  · exact er (((Sh.refl C).bytes.need).wR _ hl) (Nat.zero_le _) (Nat.zero_le _) rfl rfl
  · exact dp _ rfl rfl rfl rfl rfl
  · exact er (((kU (Sh.refl C).words _ _).bytes.need).wR _ hl) (Nat.zero_le _) (Nat.zero_le _) rfl rfl
  · exact dp _ rfl rfl rfl rfl rfl
  · exact dp _ rfl rfl rfl rfl rfl
  · exact er (((kU (kU (Sh.refl C).words _ _).words _ _).bytes.need).wR _ hl) (Nat.zero_le _) (Nat.zero_le _) rfl rfl
  · exact er (((Sh.refl C).bytes.need).wR _ hl) (Nat.zero_le _) (Nat.zero_le _) rfl rfl
  · exact dp _ rfl rfl rfl rfl rfl
  · exact er ((((Sh.refl C).words.need).words.need).wR _ hl) (Nat.zero_le _) (Nat.zero_le _) rfl rfl
theorem vS{dir c:Int}{C C':aA}{M:b6}(hl:C.l.length≤252)(h:bv dir c C=some (C',M)) : bf M:=by
  unfold bv at h
  repeat' split at h
  all_goals first | (cases h;done) | obtain⟨rfl,rfl⟩:=bg h
  · unfold eb
    split
    · exact er (((Sh.refl C).words.need).wR _ hl) (Nat.zero_le _) (Nat.zero_le _) rfl rfl
    · exact er (((Sh.refl C).words.need.need).wR _ hl) (Nat.zero_le _) (Nat.zero_le _) rfl rfl
  · unfold cm
    have h1:Sh C (fz C 6 70):=(Sh.refl C).bytes.need
    have h2:Sh C (dx (fz C 6 70)):=h1.words.need
    repeat' split
    · exact dp _ rfl rfl rfl rfl rfl
    · exact dp _ rfl rfl rfl rfl rfl
    · exact er (Nat.zero_le _) (Nat.zero_le _) (h2.words.words.bR _ hl) rfl rfl
    · exact er (Nat.zero_le _) (Nat.zero_le _) (Sh.bR (C:=fz C 1 251) ((Sh.refl C).bytes.need) _ hl) rfl rfl
    · exact dp _ rfl rfl rfl rfl rfl
  · exact dp _ rfl rfl rfl rfl rfl
theorem oz:∀ (L:List Obj),2*L.length≤(eM L).length∧∀ o,o∈L→o.value.length≤(eM L).length
  | []=>⟨by simp[eM],fun o h=>nomatch h⟩
  | x :: L=>by
    obtain⟨h1,h2⟩:=oz L
    have h3:(eM (x :: L)).length=2+x.value.length+(eM L).length:=by simp[eM];omega
    refine⟨by rw[h3,List.length_cons];omega,fun o ho=>?_⟩
    rcases List.mem_cons.1 ho with rfl|ho
    · omega
    · have:=h2 o ho
      omega
theorem yB{dir c:Int}{C C':aA}{M:b6}(hd:dir=0∨dir=1)(hr:gn C)(hl:C.l.length≤252)(h:cc dir c C=some (C',M))(he:C'.endC.e=0) : bf M:=by
  have hb:=wN hd hr h he
  have hA:Sh C (dV C):=(Sh.refl C).bytes.need
  unfold cc at h
  repeat' split at h
  all_goals first | (cases h;done) | obtain⟨rfl,rfl⟩:=bg h
  · exact er (Nat.zero_le _) (Nat.zero_le _) (Sh.bR (C:=jd C) hA.need _ hl) rfl rfl
  · rename_i hm hc
    obtain rfl:dir=1:=by simpa using hc
    unfold d7 at hb
    rw[if_neg (show ¬ (C.byteV==13)=true from hm),if_neg (by decide)] at hb
    have h1:=congrArg List.length hb
    rw[List.length_append] at h1
    obtain⟨h2,h3⟩:=oz (db (dV C).byteV (dG C)).2
    have h1:6+(eM (db (dV C).byteV (dG C)).2).length=C.l.length:=h1
    refine⟨Nat.zero_le _,Nat.zero_le _,Nat.zero_le _,Nat.zero_le _,(fun r h=>nomatch h),?_,?_⟩
    · show(db (dV C).byteV (dG C)).2.length≤128
      omega
    · intro o ho
      have:=h3 o ho
      omega
  · exact dp _ rfl rfl rfl rfl rfl
theorem lB{dir code:Int}:∀ (L:List dY),(∀ r,r∈L→4≤(eX dir code r).length)→4*L.length≤(bX dir code L).length∧∀ r,r∈L→r.words.length≤(bX dir code L).length
  | [],_=>⟨by simp[bX],fun o h=>nomatch h⟩
  | x :: L,h=>by
    obtain⟨h1,h2⟩:=lB L fun r hr=>h r (by simp[hr])
    have h3:(bX dir code (x :: L)).length=(eX dir code x).length+(bX dir code L).length:=by simp[bX]
    have h4:=h x (by simp)
    have h5:x.words.length≤(eX dir code x).length:=by
      have:=aq x.words
      unfold eX
      rw[List.length_append]
      omega
    refine⟨by rw[h3,List.length_cons];omega,fun o ho=>?_⟩
    rcases List.mem_cons.1 ho with rfl|ho
    · omega
    · have:=h2 o ho
      omega
theorem pT{one:Int→aA→Int × aA × dY}{P:dY→Prop}{dir code:Int}(hE:∀ s C,cD C (eX dir code (one s C).2.2) (one s C).2.1)(hP:∀ s C,gn C→(one s C).2.1.e=0→P (one s C).2.2) :
    ∀ (n:Nat) (s:Int) (C:aA) (L:List dY),gn C→(bq one n s C L).1.e=0→(∀ r,r∈L→P r)→∀ r,r∈(bq one n s C L).2→P r
  | 0,s,C,L,_,_,h=>h
  | n+1,s,C,L,hr,he,h=>by
    unfold bq at he ⊢
    split at he
    · rename_i hc
      rw[if_pos hc]
      split at he
      · rename_i hn
        rw[he] at hn
        cases hn
      · rename_i hn
        rw[if_neg hn]
        have h4:(one s C).2.1.e=0:=by simpa using hn
        exact pT hE hP n _ _ _ ((hE s C) hr).1 he fun r hr'=>by
          rcases List.mem_append.1 hr' with h5|h5
          · exact h r h5
          · rw[List.mem_singleton.1 h5]
            exact hP s C hr h4
    · rename_i hc
      rw[if_neg hc]
      exact h
theorem AV(s:Int)(C:aA)(hr:gn C)(he:(da s C).2.1.e=0) : 4≤(eX 1 20 (da s C).2.2).length:=by
  have hE1:cD C _ (ka C):=(cD.refl C).byte.need
  have hE2:cD C _ (fA C):=hE1.byte.need
  obtain⟨h1,_,h2⟩:=jj (hE2 hr).1 (show((fA C).wordsC (Int.tdiv (C.byteV-1) 2)).e=0 from he)
  obtain⟨h3,_⟩:=eP (by decide) h1
  obtain⟨_,h6⟩:=eP (by decide) (fY h3).1
  simp only[Bool.and_eq_true,decide_eq_true_eq,beq_iff_eq] at h6
  rw[Int.tdiv_eq_ediv_of_nonneg (by omega)] at h2
  have h7:=aq ((fA C).wordsR (Int.tdiv (C.byteV-1) 2))
  show 4≤([_,6]++aQ ((fA C).wordsR (Int.tdiv (C.byteV-1) 2))).length
  rw[List.length_append,h7,Int.tdiv_eq_ediv_of_nonneg (by omega)]
  simp only[List.length_cons,List.length_nil]
  omega
theorem vC(dir code:Int)(r:dY)(h:(code==20&&dir==1)=false) : 4≤(eX dir code r).length:=by
  unfold eX
  rw[h]
  simp[aQ]
theorem iX{one:Int→aA→Int × aA × dY}{dir code:Int}(hl:∀ s C,0<C.l.length→(one s C).2.1.l.length<C.l.length)(hE:∀ s C,cD C (eX dir code (one s C).2.2) (one s C).2.1)
    (hP:∀ s C,gn C→(one s C).2.1.e=0→4≤(eX dir code (one s C).2.2).length) {may:Int→Bool} {c:Int} {C:aA} (hr:gn C) (hl':C.l.length≤252)
    (he:(dJ one may c C).1.endC.e=0) : bf (dJ one may c C).2:=by
  have hb:=ir hl hE hr he
  have h1:=congrArg List.length hb
  rw[List.length_append] at h1
  have h1:1+(bX dir code (n8 one may C).2).length=C.l.length:=h1
  have h2:(n8 one may C).1.e=0:=by
    unfold aA.endC at he
    obtain⟨h0,_⟩:=eP (by decide) he
    unfold dJ at h0
    by_cases hz:(n8 one may C).1.e=0
    · exact hz
    · have hw:dP (n8 one may C).1.e≠0:=by
        unfold dP
        split
        · decide
        · exact hz
      simpa using (eP hw h0).2
  have hB:gn (wZ may C):=fun x hx=>hr x (by
    have h5:x∈(t8 may C).l:=by
      have:x∈(t8 may C).bytesR C.byteV:=hx
      unfold aA.bytesR at this
      split at this
      · cases this
      · exact List.mem_of_mem_take this
    have h6:x∈(C.bytesC 1).l:=by unfold t8 at h5;rwa [jy] at h5
    unfold aA.bytesC at h6
    split at h6
    · rw[jy] at h6
      cases h6
    · exact List.mem_of_mem_drop h6)
  have h3:=pT (P:=fun r=>4≤(eX dir code r).length) hE hP (wZ may C).l.length 0 (wZ may C) [] hB h2 (fun r h=>nomatch h)
  obtain⟨h4,h5⟩:=lB (dir:=dir) (code:=code) (n8 one may C).2 h3
  refine⟨Nat.zero_le _,Nat.zero_le _,Nat.zero_le _,?_,?_,Nat.zero_le _,(fun r h=>nomatch h)⟩
  · show(n8 one may C).2.length≤64
    omega
  · intro r hr'
    have:=h5 r hr'
    omega
theorem tK{dir c:Int}{C C':aA}{M:b6}(hd:dir=0∨dir=1)(hr:gn C)(hl:C.l.length≤252)(h:bz dir c C=some (C',M))(he:C'.endC.e=0) : bf M:=by
  unfold bz at h
  split at h
  · rename_i hc
    obtain rfl:c=20:=by simpa using hc
    rcases hd with rfl|rfl
    · have h:some (dJ eG kV 20 C)=some (C',M):=h
      obtain⟨rfl,rfl⟩:=bg h
      exact iX nI sB (fun _ _ _ _=>vC _ _ _ rfl) hr hl he
    · have h:some (dJ da lW 20 C)=some (C',M):=h
      obtain⟨rfl,rfl⟩:=bg h
      exact iX lG sF AV hr hl he
  split at h
  · rename_i hc
    obtain rfl:c=21:=by simpa using hc
    obtain⟨rfl,rfl⟩:=bg h
    exact iX nC (sK dir) (fun _ _ _ _=>vC _ _ _ rfl) hr hl he
  · cases h
theorem dj:bf b6.zero:=dp _ rfl rfl rfl rfl rfl
theorem fi{form:Int→Int→aA→Option (aA × b6)}(hf:∀ {dir c:Int}{C C':aA}{M:b6},(dir=0∨dir=1)→gn C→C.l.length≤252→form dir c C=some (C',M)→C'.endC.e=0→bf M)
    {dir c:Int} {b:List Int} {M:b6} {E:Int} (hr:∀ x,x∈b→0≤x∧x<256) (hl:b.length≤252) (h:aG form dir c b=(M,E)) : bf M∧(E≠0→M=b6.zero):=by
  unfold aG at h
  split at h
  · rename_i hd
    split at h
    · injection h with h1 h2
      subst h1 h2
      exact⟨dj,fun _=>rfl⟩
    · rename_i r hr'
      unfold cC at h
      split at h
      · rename_i he
        injection h with h1 h2
        obtain⟨C',M'⟩:=r
        have h1:M'=M:=h1
        subst h1
        exact⟨hf (C:=⟨b,false,0⟩) hd hr hl hr' he,fun hE=>absurd h2.symm hE⟩
      · injection h with h1 h2
        subst h1
        exact⟨dj,fun _=>rfl⟩
  · injection h with h1 h2
    subst h1
    exact⟨dj,fun _=>rfl⟩
theorem xp{k:Nat}{dir:Int}{b:List Int}{M:b6}{E:Int}(hr:∀ x,x∈b→0≤x∧x<256)(hl:b.length≤253)(h:gY k dir b=(M,E)) : bf M∧(E≠0→M=b6.zero):=by
  have hr':∀ x,x∈b.drop 1→0≤x∧x<256:=fun x hx=>hr x (List.mem_of_mem_drop hx)
  have hl':(b.drop 1).length≤252:=by rw[List.length_drop];omega
  unfold gY at h
  split at h
  · exact fi (fun _ _ hl h _=>vf hl h) hr' hl' h
  · exact fi (fun _ _ hl h _=>wO hl h) hr' hl' h
  · exact fi (fun _ _ hl h _=>vS hl h) hr' hl' h
  · exact fi tK hr' hl' h
  · exact fi yB hr' hl' h
  · injection h with h1 h2
    subst h1
    exact⟨dj,fun _=>rfl⟩
theorem wi{b:List Int}{M:b6}{E:Int}(h:iQ b=(M,E)) : bf M∧(E≠0→M=b6.zero):=by
  unfold iQ at h
  repeat' split at h
  all_goals (injection h with h1 h2;subst h1)
  all_goals first | exact⟨dj,fun _=>rfl⟩ | exact⟨dp _ rfl rfl rfl rfl rfl,fun hE=>absurd h2.symm hE⟩
theorem kW{dir:Int}{b:List Int}{M:b6}{E:Int}(hr:∀ x,x∈b→0≤x∧x<256)(h:dm dir b=(M,E)) : bf M∧(E≠0→M=b6.zero):=by
  unfold dm at h
  split at h
  · injection h with h1 h2;subst h1;exact⟨dj,fun _=>rfl⟩
  split at h
  · injection h with h1 h2;subst h1;exact⟨dj,fun _=>rfl⟩
  split at h
  · injection h with h1 h2;subst h1;exact⟨dj,fun _=>rfl⟩
  rename_i h3
  simp only[decide_eq_true_eq] at h3
  split at h
  · exact wi h
  · exact xp hr (by omega) h
open Go.RowKit
theorem CU{a:Int}{r:List Int}(ha:0≤a∧a<65536) : (aA.mk (aQ [a]++r) false 0).wordV=a∧(aA.mk (aQ [a]++r) false 0).wordsC 1=⟨r,false,0⟩:=by
  have hb:(aA.mk (aQ [a]++r) false 0).wbad 1=false:=by
    unfold aA.wbad
    simp only[aQ,List.length_append,List.length_cons,List.length_nil,Bool.or_eq_false_iff,decide_eq_false_iff_not]
    omega
  have hf:(aA.mk (aQ [a]++r) false 0).fails (2*1)=false:=by
    unfold aA.fails
    simp[aQ]
    omega
  constructor
  · unfold aA.wordV aA.wordsR aA.bytesR
    rw[hb,hf]
    show(dI [a/256,a%256]).getD 0 0=a
    unfold dI
    rw[if_pos (by simp)]
    show a/256*256+a%256=a
    omega
  · unfold aA.wordsC aA.bytesC
    rw[hb,hf]
    rfl
end Go.Proofs.YtdkhbcefkfgbdaaGreat
namespace Go.Proofs.YtdkhbcefkfgbdaaGreat
theorem qs(u:Int)(l:List Int) : (mi u l).length=3+l.length:=by simp[mi,bO];omega
theorem mM{dir u t:Int}{M:b6}{b:List Int}(h:gU dir u t M=some b) : t=0∧∃ l,dD dir M=some l∧b=mi u l∧l.length≤253:=by
  unfold gU at h
  split at h
  · cases h
  · rename_i l hl
    have hle:=gq hl
    split at h
    · cases h
    · rename_i ht
      injection h with h
      exact⟨by simpa using ht,l,hl,h.symm,hle⟩
theorem uQ(u:Int)(l:List Int) : (mi u l).take ((mi u l).length-2)=[u]++l:=by
  rw[qs,show 3+l.length-2=([u]++l).length from by simp;omega]
  exact List.take_left' rfl
theorem Br(u:Int)(l:List Int) : fJ (mi u l)=l:=by
  unfold fJ
  rw[uQ]
  rfl
theorem wX{b:List Int}(hl:3≤b.length)(h:el b=true) : ∃ u l,b=mi u l:=by
  unfold el at h
  rw[Bool.and_eq_true,decide_eq_true_eq,decide_eq_true_eq] at h
  obtain⟨h1,h2⟩:=h
  cases hb:b.take (b.length-2) with
  | nil =>
    have:=congrArg List.length hb
    rw[List.length_take,List.length_nil] at this
    omega
  | cons u l =>
    refine⟨u,l,?_⟩
    conv=>lhs;rw[← List.take_append_drop (b.length-2) b,← h2,hb]
    rfl
theorem wS{dir:Int}{b:List Int}{F:bu}{E:Int}(hr:∀ x,x∈b→0≤x∧x<256)(h:eQ dir b=(F,E)) : bf F.msg∧(E≠0→F=bu.zero):=by
  have hz:∀ k:Int,((bu.zero,k) : bu × Int)=(F,E)→bf F.msg∧(E≠0→F=bu.zero):=fun k h=>by
    injection h with h1 h2
    subst h1
    exact⟨dj,fun _=>rfl⟩
  unfold eQ at h
  split at h
  · exact hz _ h
  split at h
  · exact hz _ h
  split at h
  · exact hz _ h
  split at h
  · exact hz _ h
  cases hp:dm dir (fJ b) with
  | mk M E' =>
    rw[hp] at h
    obtain⟨k1,k2⟩:=kW (fun x hx=>hr x (List.mem_of_mem_take (List.mem_of_mem_drop hx))) hp
    have h:(if (E' != 0)=true then ((bu.zero,E') : bu × Int) else (⟨_,_,M⟩,0))=(F,E):=h
    split at h
    · exact hz _ h
    · injection h with h5 h6
      subst h5
      exact⟨k1,fun hE=>absurd h6.symm hE⟩
theorem vD{dir:Int}{b:List Int}{F:bu}{E:Int}{r:Option (List Int)}(hd:dir=0∨dir=1)(hr:∀ x,x∈b→0≤x∧x<256)(h:eQ dir b=(F,E))(hE:(E==0)=true)(hW:gU dir F.unit F.tid F.msg=r) : r=some b∧4≤b.length∧b.length≤256:=by
  obtain rfl:E=0:=by simpa using hE
  unfold eQ at h
  split at h
  · cases h
  split at h
  · cases h
  split at h
  · cases h
  split at h
  · cases h
  rename_i h1 h2 h3 h4
  simp only[decide_eq_true_eq] at h2 h3
  have h4:el b=true:=by simpa using h4
  obtain⟨u,l,rfl⟩:=wX (by omega) h4
  rw[Br] at h
  have h:dn u 0 (dm dir l)=(F,0):=h
  cases hp:dm dir l with
  | mk M E' =>
    rw[hp] at h
    have h:(if (E' != 0)=true then ((bu.zero,E') : bu × Int) else (⟨_,_,M⟩,0))=(F,0):=h
    split at h
    · rename_i h5
      injection h with _ h6
      subst h6
      cases h5
    · rename_i h5
      injection h with h6 _
      subst h6
      obtain rfl:E'=0:=by simpa using h5
      have h7:=lE hd (fun x hx=>hr x (by unfold mi;simp[hx])) hp
      rw[← hW]
      refine⟨?_,by omega,by omega⟩
      show gU dir u 0 M=_
      unfold gU
      rw[h7]
      simp
open Go.RowKit
def yu (u:Int)(l:List Int) : List Int:=([u]++l)++[cY ([u]++l)]
theorem wv(u:Int)(l:List Int) : (yu u l).length=l.length+2:=by simp[yu]
theorem vX(u:Int)(l:List Int) : tk u l=([58]++dN (yu u l))++[13,10]:=rfl
theorem xy(u:Int)(l:List Int) : (tk u l).length=2*l.length+7:=by
  rw[vX]
  simp only[List.length_append,List.length_cons,List.length_nil,eF,wv]
  omega
theorem mI{dir u t:Int}{M:b6}{b:List Int}(h:gV dir u t M=some b) : t=0∧∃ l,dD dir M=some l∧b=tk u l∧l.length≤253:=by
  unfold gV at h
  split at h
  · cases h
  · rename_i l hl
    have hle:=gq hl
    split at h
    · cases h
    · rename_i ht
      injection h with h
      exact⟨by simpa using ht,l,hl,h.symm,hle⟩
theorem wB{b s:List Int}(h:iw b=some s) : b=([58]++s)++[13,10]:=by
  obtain⟨h1,h2,rfl,h3⟩:=jD h
  cases b with
  | nil=>simp at h3
  | cons a r =>
    have ha:a=58:=h1
    subst ha
    have h2:gc r=true:=h2
    have h4:=lL h2
    unfold gc at h2
    simp only[Bool.and_eq_true,decide_eq_true_eq] at h2
    have h5:=h2.2
    rw[show(((r.length:Nat) : Int)-2).toNat=r.length-2 from by omega] at h5
    show 58 :: r=58 :: (r.take ((58 :: r).length-3)++[13,10])
    rw[show(58 :: r).length-3=r.length-2 from by simp only[List.length_cons];omega,← h5,List.take_append_drop]
theorem p5(a b:List Int) : ∀ k,k≤a.length→ji (a++b) k=ji a k
  | 0,_=>rfl
  | k+1,h=>by
    unfold ji
    rw[p5 a b k (by omega),List.getD_eq_getElem?_getD,List.getD_eq_getElem?_getD,List.getElem?_append_left (by omega)]
theorem tu(a:List Int)(c:Int) : rV (a++[c])=(rV a+c)%256:=by
  unfold rV
  have e:(a++[c]).length=a.length+1:=by simp
  rw[e]
  show(ji (a++[c]) a.length+(a++[c]).getD a.length 0)%256=_
  rw[p5 a [c] _ (Nat.le_refl _)]
  simp
theorem ru{a:List Int}{c:Int}(hc:0≤c∧c<256) : fK (a++[c])=true↔c=cY a:=by
  have h:=wj a a.length
  unfold fK cY
  rw[tu]
  have hs:rV a=ji a a.length:=rfl
  simp only[Bool.and_eq_true,decide_eq_true_eq,beq_iff_eq,List.length_append,List.length_cons,List.length_nil]
  constructor
  · intro k;omega
  · intro k;omega
theorem yJ{x:List Int}(h:2≤x.length)(hb:dw x)(k:fK x=true) : x=yu (x.getD 0 0) (eh x):=by
  have hne:x≠[]:=fun e=>by rw[e] at h;simp at h
  obtain⟨y,c,rfl⟩ : ∃ y c,x=y++[c]:=⟨x.dropLast,x.getLast hne,(List.dropLast_concat_getLast hne).symm⟩
  have hc:=hb c (by simp)
  have h1:=(ru hc).1 k
  cases y with
  | nil=>simp at h
  | cons u l =>
    have e:eh ((u :: l)++[c])=l:=by
      unfold eh
      rw[show((u :: l)++[c]).length-1=(u :: l).length from by simp,List.take_left' rfl]
      rfl
    rw[e]
    show(u :: l)++[c]=([u]++l)++[cY ([u]++l)]
    rw[h1]
    rfl
theorem xu{dir:Int}{b:List Int}{F:bu}{E:Int}(h:e9 dir b=(F,E)) : bf F.msg∧(E≠0→F=bu.zero):=by
  have hz:∀ k:Int,((bu.zero,k) : bu × Int)=(F,E)→bf F.msg∧(E≠0→F=bu.zero):=fun k h=>by
    injection h with h1 h2
    subst h1
    exact⟨dj,fun _=>rfl⟩
  unfold e9 at h
  split at h
  · exact hz _ h
  split at h
  · exact hz _ h
  split at h
  · exact hz _ h
  split at h
  · exact hz _ h
  split at h
  · exact hz _ h
  rename_i s _ x hx
  split at h
  · exact hz _ h
  cases hp:dm dir (eh x) with
  | mk M E' =>
    rw[hp] at h
    obtain⟨k1,k2⟩:=kW (fun y hy=>(gF hx).2 y (List.mem_of_mem_take (List.mem_of_mem_drop hy))) hp
    have h:(if (E' != 0)=true then ((bu.zero,E') : bu × Int) else (⟨_,_,M⟩,0))=(F,E):=h
    split at h
    · exact hz _ h
    · injection h with h5 h6
      subst h5
      exact⟨k1,fun hE=>absurd h6.symm hE⟩
theorem xD{dir:Int}{b:List Int}{F:bu}{E:Int}{r:Option (List Int)}(hd:dir=0∨dir=1)(h:e9 dir b=(F,E))(hE:(E==0)=true)(hW:gV dir F.unit F.tid F.msg=r) : r=some b∧9≤b.length∧b.length≤513:=by
  obtain rfl:E=0:=by simpa using hE
  unfold e9 at h
  split at h
  · cases h
  split at h
  · cases h
  rename_i h2
  split at h
  · cases h
  rename_i h3
  simp only[decide_eq_true_eq] at h2 h3
  cases hs:iw b with
  | none=>rw[hs] at h;cases h
  | some s =>
  rw[hs] at h
  cases hx:bY s with
  | none=>dsimp only at h;rw[hx] at h;cases h
  | some x =>
  dsimp only at h
  rw[hx] at h
  dsimp only at h
  split at h
  · cases h
  rename_i h4
  have h4:fK x=true:=by simpa using h4
  have hl:=oY hs
  have hxl:=mu hx
  obtain⟨e1,e2⟩:=gF hx
  have hsh:=yJ (by omega) e2 h4
  cases hp:dm dir (eh x) with
  | mk M E' =>
    rw[hp] at h
    have h:(if (E' != 0)=true then ((bu.zero,E') : bu × Int) else (⟨_,_,M⟩,0))=(F,0):=h
    split at h
    · rename_i h5
      injection h with _ h6
      subst h6
      cases h5
    · rename_i h5
      injection h with h6 _
      subst h6
      obtain rfl:E'=0:=by simpa using h5
      have h7:dD dir M=some (eh x):=lE hd (fun y hy=>e2 y (List.mem_of_mem_take (List.mem_of_mem_drop hy))) hp
      rw[← hW]
      refine⟨?_,by omega,by omega⟩
      show gV dir (x.getD 0 0) 0 M=_
      unfold gV
      rw[h7]
      show some (tk _ _)=_
      rw[vX,← hsh,← e1,← wB hs]
open Go.RowKit
end Go.Proofs.YtdkhbcefkfgbdaaGreat
namespace Go.Proofs.YtdkhbcefkfgbdaaGreat
def oV (t z n u:Int)(l:List Int) : List Int:=(aQ [t,z,n]++[u])++l
theorem o0(t z n u:Int)(l:List Int) : (oV t z n u l).length=7+l.length:=by simp[oV,aQ];omega
theorem Ee(u:Int)(l:List Int) : (aA.mk ([u]++l) false 0).byteV=u∧(aA.mk ([u]++l) false 0).bytesC 1=⟨l,false,0⟩:=by
  have hf:(aA.mk ([u]++l) false 0).fails 1=false:=by
    unfold aA.fails
    simp only[List.length_append,List.length_cons,List.length_nil,Bool.or_eq_false_iff,decide_eq_false_iff_not]
    refine⟨⟨trivial,?_⟩,?_⟩<;>omega
  constructor
  · unfold aA.byteV aA.bytesR
    rw[hf]
    rfl
  · unfold aA.bytesC
    rw[hf]
    rfl
theorem uR(l:List Int) : (aA.mk l false 0).bytesR ((l.length:Nat) : Int)=l:=by
  have hf:(aA.mk l false 0).fails ((l.length:Nat) : Int)=false:=by
    unfold aA.fails
    simp only[Bool.or_eq_false_iff,decide_eq_false_iff_not]
    refine⟨⟨trivial,?_⟩,?_⟩<;>omega
  unfold aA.bytesR
  rw[hf]
  show l.take (l.length:Int).toNat=l
  rw[Int.toNat_natCast,List.take_length]
theorem oN{t z n u:Int}{l:List Int}(ht:0≤t∧t<65536)(hz:0≤z∧z<65536)(hn:0≤n∧n<65536) :
    (vq (oV t z n u l)).wordV=t∧(vn (oV t z n u l)).wordV=z∧(vv (oV t z n u l)).wordV=n∧(vt (oV t z n u l)).byteV=u∧m5 (oV t z n u l)=l:=by
  have h1:=CU (r:=aQ [z]++(aQ [n]++([u]++l))) ht
  have h2:=CU (r:=aQ [n]++([u]++l)) hz
  have h3:=CU (r:=[u]++l) hn
  have h4:=Ee u l
  have e0:vq (oV t z n u l)=⟨aQ [t]++(aQ [z]++(aQ [n]++([u]++l))),false,0⟩:=by simp[vq,oV,aQ]
  have e1:vn (oV t z n u l)=⟨aQ [z]++(aQ [n]++([u]++l)),false,0⟩:=by unfold vn;rw[e0];exact h1.2
  have e2:vv (oV t z n u l)=⟨aQ [n]++([u]++l),false,0⟩:=by unfold vv;rw[e1];exact h2.2
  have e3:vt (oV t z n u l)=⟨[u]++l,false,0⟩:=by unfold vt;rw[e2];exact h3.2
  have e4:vG (oV t z n u l)=⟨l,false,0⟩:=by unfold vG;rw[e3];exact h4.2
  refine⟨by rw[e0];exact h1.1,by rw[e1];exact h2.1,by rw[e2];exact h3.1,by rw[e3];exact h4.1,?_⟩
  unfold m5
  rw[e4]
  exact uR l
theorem yv{dir t z n u:Int}{l:List Int}(hd:dir=0∨dir=1)(ht:0≤t∧t<65536)(hz:0≤z∧z<65536)(hn:0≤n∧n<65536) :
    cy dir (oV t z n u l)=if decide ((7+l.length:Int)<8) then (bu.zero,2) else if decide (260<(7+l.length:Int)) then (bu.zero,3) else if z != 0 then (bu.zero,13) else if n != (l.length:Int)+1 then (bu.zero,5) else dn u t (dm dir l):=by
  obtain⟨h0,h1,h2,h3,h4⟩:=oN (u:=u) (l:=l) ht hz hn
  unfold cy
  rw[h0,h1,h2,h3,h4,o0]
  rw[if_neg (show ¬ (dir != 0&&dir != 1)=true by rcases hd with rfl | rfl<;>decide)]
  rw[show((7+l.length:Nat) : Int)=7+(l.length:Int) by omega,show(7+(l.length:Int))-6=(l.length:Int)+1 by omega]
theorem lR{dir u t:Int}{M:b6}{b:List Int}(h:eE dir u t M=some b) : ∃ l,dD dir M=some l∧b=oV t 0 ((l.length:Int)+1) u l∧l.length≤253:=by
  unfold eE at h
  split at h
  · cases h
  · rename_i l hl
    have hle:=gq hl
    injection h with h
    refine⟨l,hl,?_,hle⟩
    rw[← h,Int.emod_eq_of_lt (by omega) (by omega)]
    rfl
theorem BB{a b c d e f:Int}(ha:0≤a∧a<256)(hb:0≤b∧b<256)(hc:0≤c∧c<256)(hd:0≤d∧d<256)(he:0≤e∧e<256)(hf:0≤f∧f<256) : aQ [a*256+b,c*256+d,e*256+f]=[a,b,c,d,e,f]:=by
  simp only[aQ]
  congr 1
  · omega
  congr 1
  · omega
  congr 1
  · omega
  congr 1
  · omega
  congr 1
  · omega
  congr 1
  omega
theorem pE{b:List Int}(hr:∀ x,x∈b→0≤x∧x<256)(hl:8≤b.length) : ∃ t z n u l,b=oV t z n u l∧(0≤t∧t<65536)∧(0≤z∧z<65536)∧(0≤n∧n<65536)∧∀ x,x∈l→0≤x∧x<256:=by
  match b,hr,hl with
  | a0 :: a1 :: a2 :: a3 :: a4 :: a5 :: u :: l,hr,_ =>
    have h0:=hr a0 (by simp)
    have h1:=hr a1 (by simp)
    have h2:=hr a2 (by simp)
    have h3:=hr a3 (by simp)
    have h4:=hr a4 (by simp)
    have h5:=hr a5 (by simp)
    refine⟨a0*256+a1,a2*256+a3,a4*256+a5,u,l,?_,by omega,by omega,by omega,fun x hx=>hr x (by simp[hx])⟩
    unfold oV
    rw[BB h0 h1 h2 h3 h4 h5]
    rfl
theorem u7{dir:Int}{b:List Int}{F:bu}{E:Int}(hr:∀ x,x∈b→0≤x∧x<256)(h:cy dir b=(F,E)) : bf F.msg∧(E≠0→F=bu.zero):=by
  have hz:∀ k:Int,((bu.zero,k) : bu × Int)=(F,E)→bf F.msg∧(E≠0→F=bu.zero):=fun k h=>by
    injection h with h1 h2
    subst h1
    exact⟨dj,fun _=>rfl⟩
  unfold cy at h
  split at h
  · exact hz _ h
  split at h
  · exact hz _ h
  split at h
  · exact hz _ h
  split at h
  · exact hz _ h
  split at h
  · exact hz _ h
  rename_i _ h8 _ _ _
  simp only[decide_eq_true_eq] at h8
  obtain⟨t,z,n,u,l,rfl,ht,hz',hn,hl⟩:=pE hr (by omega)
  obtain⟨h0,h1,h2,h3,h4⟩:=oN (u:=u) (l:=l) ht hz' hn
  rw[h4] at h
  cases hp:dm dir l with
  | mk M E' =>
    rw[hp] at h
    obtain⟨k1,k2⟩:=kW hl hp
    have h:(if (E' != 0)=true then ((bu.zero,E') : bu × Int) else (⟨_,_,M⟩,0))=(F,E):=h
    split at h
    · exact hz _ h
    · injection h with h5 h6
      subst h5
      exact⟨k1,fun hE=>absurd h6.symm hE⟩
theorem uO{dir:Int}{b:List Int}{F:bu}{E:Int}{r:Option (List Int)}(hd:dir=0∨dir=1)(hr:∀ x,x∈b→0≤x∧x<256)(h:cy dir b=(F,E))(hE:(E==0)=true)(hW:eE dir F.unit F.tid F.msg=r) : r=some b∧8≤b.length∧b.length≤260:=by
  obtain rfl:E=0:=by simpa using hE
  by_cases h8:8≤b.length
  · obtain⟨t,z,n,u,l,rfl,ht,hz',hn,hl⟩:=pE hr h8
    rw[yv hd ht hz' hn] at h
    split at h
    · cases h
    split at h
    · cases h
    split at h
    · cases h
    split at h
    · cases h
    rename_i h1 h2 h3 h4
    simp only[decide_eq_true_eq] at h1 h2
    simp only[bne_iff_ne,ne_eq,Decidable.not_not] at h3 h4
    cases hp:dm dir l with
    | mk M E' =>
      rw[hp] at h
      have h:(if (E' != 0)=true then ((bu.zero,E') : bu × Int) else (⟨_,_,M⟩,0))=(F,0):=h
      split at h
      · rename_i h5
        injection h with _ h6
        subst h6
        cases h5
      · rename_i h5
        injection h with h6 _
        subst h6
        obtain rfl:E'=0:=by simpa using h5
        have h7:=lE hd hl hp
        rw[← hW]
        refine⟨?_,h8,by rw[o0];omega⟩
        show eE dir u t M=_
        unfold eE
        rw[h7]
        show some ((aQ [t,0,((l.length:Int)+1)%65536]++[u])++l)=_
        rw[h3,h4,Int.emod_eq_of_lt (by omega) (by omega)]
        rfl
  · exfalso
    unfold cy at h
    split at h
    · cases h
    rw[if_pos (by simp only[decide_eq_true_eq];omega)] at h
    cases h
open Go.RowKit
theorem uM{k dir u t:Int}{M:b6}{b:List Int}(h:jN k dir u t M=some b) : (k=0∨k=1∨k=2)∧(k≠2→t=0)∧∃ l,dD dir M=some l∧l.length≤253:=by
  revert h
  refine k4 k (fun e=>?_) (fun e=>?_) (fun e=>?_) (fun h0 h1 h2=>?_)
  · subst e;intro h;obtain⟨h1,l,h2,_,h3⟩:=mM h;exact⟨.inl rfl,fun _=>h1,l,h2,h3⟩
  · subst e;intro h;obtain⟨h1,l,h2,_,h3⟩:=mI h;exact⟨.inr (.inl rfl),fun _=>h1,l,h2,h3⟩
  · subst e;intro h;obtain⟨l,h2,_,h3⟩:=lR h;exact⟨.inr (.inr rfl),fun h=>absurd rfl h,l,h2,h3⟩
  · rw[si h0 h1 h2];intro h;cases h
theorem yW{k dir u t:Int}{M:b6}{l:List Int}(hk:k=0∨k=1∨k=2)(ht:k≠2→t=0)(h:dD dir M=some l) : ∃ b,jN k dir u t M=some b:=by
  rcases hk with rfl|rfl|rfl
  · obtain rfl:=ht (by decide);show ∃ b,gU dir u 0 M=some b;unfold gU;rw[h];exact⟨mi u l,by simp⟩
  · obtain rfl:=ht (by decide);show ∃ b,gV dir u 0 M=some b;unfold gV;rw[h];exact⟨tk u l,by simp⟩
  · show ∃ b,eE dir u t M=some b;unfold eE;rw[h];exact⟨_,rfl⟩
theorem vA{k dir:Int}{b:List Int}{F:bu}{E:Int}(hr:∀ x,x∈b→0≤x∧x<256)(h:lN k dir b=(F,E)) : bf F.msg∧(E≠0→F=bu.zero):=by
  revert h
  refine k4 k (fun e=>?_) (fun e=>?_) (fun e=>?_) (fun h0 h1 h2=>?_)
  · subst e;exact wS hr
  · subst e;exact xu
  · subst e;exact u7 hr
  · rw[wH h0 h1 h2];intro h;injection h with e1 e2;subst e1 e2;exact⟨dj,fun _=>rfl⟩
theorem wL{k dir:Int}{b:List Int}{F:bu}(hd:dir=0∨dir=1)(hr:∀ x,x∈b→0≤x∧x<256)(h:lN k dir b=(F,0)) : jN k dir F.unit F.tid F.msg=some b:=by
  revert h
  refine k4 k (fun e=>?_) (fun e=>?_) (fun e=>?_) (fun h0 h1 h2=>?_)
  · subst e;intro h;exact(vD hd hr h rfl rfl).1
  · subst e;intro h;exact(xD hd h rfl rfl).1
  · subst e;intro h;exact(uO hd hr h rfl rfl).1
  · rw[wH h0 h1 h2];intro h;injection h with e1 e2;cases e2
theorem xT{k:Int}(h:k=0∨k=1∨k=2) : (zC k==0)=false:=by rcases h with rfl | rfl | rfl<;>rfl
open Go.RowKit
def Cw (a c next was:Int)(bN:Nat)(w:World)(e:Ending)(w':World) : Prop:=e = .returned (.int .u16 (gI a c next was))∧w'.heap[bN]? = some (.cells #[.int .u16 (jB a c next)] 37 (0,0))∧ap [bN] w w'
theorem wQ{w:World}{bT bF bN:Nat}{a c next was:Int}(hT:w.heap[bT]? = some (.cells #[vI c] 3 (0,0)))(hF:w.heap[bF]? = some (.cells #[vI a] 3 (0,0)))(hN:w.heap[bN]? = some (.cells #[vW next] 37 (0,0)))(hr:0≤next∧next<65536)(hw:0≤was∧was<65536) : Calls Tryz.prog 92 #[vW was,vP bT 0,vP bF 0,vP bN 0] w (Cw a c next was bN w):=by
 refine en 17 Tryz.func92 rfl<|ay 1<|sq<|bk<|sg<|ax hT 0<|al 2<|cb ((c != 2)) (fun b=>?_) (fun b=>?_)
 have f:=aN b
 refine ay 1<|rt<|br<|tr<|rr (vW 0)<|?_
 have h1:gI a c next was=0:=by unfold gI;simp only[b,cond_true,cond_false]
 have h2:jB a c next=next:=by unfold jB;simp only[b,cond_true,cond_false]
 unfold Cw
 rw[h1,h2]
 exact⟨rfl,hN,(ap.mono (S':=[bN]) (ap.refl [] _) aB)⟩
 have f:=aV b
 refine sg<|ax hF 0<|al 2<|cb ((a==2)) (fun d=>?_) (fun d=>?_)
 have g:=aC d
 refine ay 2<|rt<|br<|tr<|rr (vW was)<|?_
 have h1:gI a c next was=was:=by unfold gI;simp only[b,d,cond_true,cond_false]
 have h2:jB a c next=next:=by unfold jB;simp only[b,d,cond_true,cond_false]
 unfold Cw
 rw[h1,h2]
 exact⟨rfl,hN,(ap.mono (S':=[bN]) (ap.refl [] _) aB)⟩
 have g:=aO d
 refine sk<|bn<|tn<|sg<|ax hN 0<|Pl 1<|L0<|cv hN 0 #[vW ((next+1)%65536)] fun i e h=>ng<|ax e 0<|Pl 2<|nl<|tn<|rt<|rr (vW ((((next+1)%65536)-1)%65536))<|?_
 have h1:gI a c next was=((((next+1)%65536)-1)%65536):=by unfold gI;simp only[b,d,cond_true,cond_false];omega
 have h2:jB a c next=((next+1)%65536):=by unfold jB;simp only[b,d,cond_true,cond_false]
 unfold Cw
 rw[h1,h2]
 exact⟨rfl,e,h⟩
def DK (a c:Int)(w:World)(e:Ending)(w':World) : Prop:=∃ bT bF bN,e = .returned (.func (.func 92) #[] #[.pointer (some ⟨bT,0,none⟩),.pointer (some ⟨bF,0,none⟩),.pointer (some ⟨bN,0,none⟩)])∧w.heap.size≤bT∧w.heap.size≤bF∧w.heap.size≤bN∧w'.heap[bT]? = some (.cells #[.int .i64 c] 3 (0,0))∧w'.heap[bF]? = some (.cells #[.int .i64 a] 3 (0,0))∧w'.heap[bN]? = some (.cells #[.int .u16 0] 37 (0,0))∧ap [] w w'
theorem to{w:World}{a c:Int}:Calls Tryz.prog 71 #[vI a,vI c] w (DK a c w):=by
 refine en 7 Tryz.func71 rfl<|sg<|L0<|cU #[vI a] fun d s k l b=>L0<|cU #[vI c] fun e t m n f=>Pl 1<|ng<|aL #[vW 0] fun g u h o p=>L0<|cv o 0 #[vW 0] fun v q r=>nt<|ay 2<|rt<|rr (.func (.func 92) #[] #[vP e 0,vP d 0,vP g 0])<|?_
 have i:=ud p r h
 have j:=aH f i
 exact⟨e,d,g,rfl,(Nat.le_trans b.size m),k,(Nat.le_trans (le b.size f.size) h),(ub i n),(ub j l),q,(aH b j)⟩
theorem vZ{w:World}{a c d:Int}(hk:a=0∨a=1∨a=2)(hc:c=0∨c=1∨c=2)(hd:d=0∨d=1) : Calls Tryz.prog 44 #[vI a,vI c,vI d] w (Ej a c d w):=by
 refine en 26 Tryz.func44 rfl<|au 1<|aS 2<|aF (args:=#[vI a,vI d])<|Ed (yf (k:=a) (d:=d) hk hd) fun g o B p q r b=>al 1<|sq<|au 4<|L1<|Oc<|m1 (j7 (k:=c)) fun C e=>al 2<|cf (xT hc)<|bU<|au 5<|aF<|(to (a:=a) (c:=c)).mono ?_
 rintro _ D ⟨h,i,j,rfl,s,t,u,v,x,y,l⟩
 refine⟨_,rfl,?_⟩
 refine Pl 1<|L0<|cU #[vP g 0,vI c,vI d,.func (.func 92) #[] #[vP h 0,vP i 0,vP j 0],vI 0] fun m E z A f=>al 1<|rt<|rr (vP m 0)<|?_
 have n:=aH e (aH l f)
 exact⟨m,g,o,h,i,j,rfl,(Nat.le_trans (le (le b.size e.size) l.size) z),p,q,(Nat.le_trans (le b.size e.size) u),(Nat.le_trans (le b.size e.size) s),(Nat.le_trans (le b.size e.size) t),(aZ.old r n),⟨A,(ub f v),(ub f x),(ub f y),by decide⟩,(aH b n)⟩
open Go.RowKit
theorem iT.shape{base:Nat}{w:World}{v:Value}{xs:List Int}(h:iT base w v xs) : ∃ A cp,v = .slice A xs.length cp∧aR true w (.slice A xs.length cp) xs∧∀ x,x∈ob A→base≤x:=by
  obtain⟨h1,A,n,c,rfl,h2⟩:=h
  obtain⟨A',c',e,_,_⟩:=h1.shape
  injection e with e1 e2 e3
  subst e1 e2 e3
  exact⟨A,c,rfl,h1,h2⟩
open Go.RowKit
theorem pm(S:SS)(a b:List Int) : S.feed (a++b)=(((S.feed a).1.feed b).1,(S.feed a).2++((S.feed a).1.feed b).2):=by
  obtain⟨d,h,o⟩:=S
  cases o
  · by_cases ha:a.length≤256-h.length
    · have e1:(SS.mk d h false).feed a=(⟨d,h++a,false⟩,[]):=by unfold SS.feed;rw[if_neg (by simp),if_pos (by simpa using ha)]
      rw[e1]
      by_cases hb:b.length≤256-(h++a).length∧(h++a).length≤256∨b.length=0
      · have e2:(SS.mk d (h++a) false).feed b=(⟨d,(h++a)++b,false⟩,[]):=by
          unfold SS.feed
          rw[if_neg (by simp),if_pos (by rw[decide_eq_true_eq];show b.length≤256-(h++a).length;omega)]
        have e3:(SS.mk d h false).feed (a++b)=(⟨d,h++(a++b),false⟩,[]):=by
          unfold SS.feed
          rw[if_neg (by simp),if_pos]
          rw[decide_eq_true_eq]
          show(a++b).length≤256-h.length
          rw[List.length_append] at hb ⊢
          omega
        rw[e2,e3]
        simp
      · have e2:(SS.mk d (h++a) false).feed b=(⟨d,[],true⟩,[Ev.bad 3]):=by
          unfold SS.feed
          rw[if_neg (by simp),if_neg]
          rw[decide_eq_true_eq]
          show ¬ b.length≤256-(h++a).length
          rw[List.length_append] at hb ⊢
          omega
        have e3:(SS.mk d h false).feed (a++b)=(⟨d,[],true⟩,[Ev.bad 3]):=by
          unfold SS.feed
          rw[if_neg (by simp),if_neg]
          rw[decide_eq_true_eq]
          show ¬ (a++b).length≤256-h.length
          rw[List.length_append] at hb ⊢
          omega
        rw[e2,e3]
        rfl
    · have e1:(SS.mk d h false).feed a=(⟨d,[],true⟩,[Ev.bad 3]):=by unfold SS.feed;rw[if_neg (by simp),if_neg (by simpa using ha)]
      have e3:(SS.mk d h false).feed (a++b)=(⟨d,[],true⟩,[Ev.bad 3]):=by
        unfold SS.feed
        rw[if_neg (by simp),if_neg]
        rw[decide_eq_true_eq]
        show ¬ (a++b).length≤256-h.length
        rw[List.length_append]
        omega
      rw[e1,e3]
      rfl
  · rfl
theorem qI:∀ (b:List Int)(T:SA)(K:List Ev),b.foldl (fun(p:SA × List Ev) c=>((p.1.byte c).1,p.2++(p.1.byte c).2)) (T,K)=((T.feed b).1,K++(T.feed b).2)
  | [],T,K=>by simp[SA.feed]
  | c :: t,T,K=>by
    unfold SA.feed
    rw[List.foldl_cons,List.foldl_cons,qI t,qI t]
    simp
theorem rk:∀ (b:List Int)(T:SM)(K:List Ev),b.foldl (fun(p:SM × List Ev) c=>((p.1.byte c).1,p.2++(p.1.byte c).2)) (T,K)=((T.feed b).1,K++(T.feed b).2)
  | [],T,K=>by simp[SM.feed]
  | c :: t,T,K=>by
    unfold SM.feed
    rw[List.foldl_cons,List.foldl_cons,rk t,rk t]
    simp
theorem km(S:SA)(a b:List Int) : S.feed (a++b)=(((S.feed a).1.feed b).1,(S.feed a).2++((S.feed a).1.feed b).2):=by
  conv=>lhs;unfold SA.feed
  rw[List.foldl_append]
  exact qI b _ _
theorem kv(S:SM)(a b:List Int) : S.feed (a++b)=(((S.feed a).1.feed b).1,(S.feed a).2++((S.feed a).1.feed b).2):=by
  conv=>lhs;unfold SM.feed
  rw[List.foldl_append]
  exact rk b _ _
theorem jW(S:XS)(a b:List Int) : S.feed (a++b)=(((S.feed a).1.feed b).1,(S.feed a).2++((S.feed a).1.feed b).2):=by
  cases S with
  | r S=>show(XS.r _,_)=(XS.r _,_);rw[pm];rfl
  | a S=>show(XS.a _,_)=(XS.a _,_);rw[km];rfl
  | m S=>show(XS.m _,_)=(XS.m _,_);rw[kv];rfl
theorem sb(S:XS)(b:List Int) : S.take b false=S.feed b:=rfl
theorem xF(S:XS)(a b:List Int)(t:Bool) : S.take (a++b) t=(((S.feed a).1.take b t).1,(S.feed a).2++((S.feed a).1.take b t).2):=by
  unfold XS.take
  cases t
  · simp only[cond_false]
    exact jW S a b
  · simp only[cond_true]
    rw[jW]
    simp
def zF (a:Int)(b:List Int) : Nat:=(a%(((b.length:Nat) : Int)+1)).toNat
def kD (a:Int)(p:Pc) : List Pc:=[Pc.mk (p.bytes.take (zF a p.bytes)) false,Pc.mk (p.bytes.drop (zF a p.bytes)) p.tick]
theorem ot(a:Int)(S:XS)(p:Pc) : S.run (kD a p)=S.take p.bytes p.tick:=by
  have h:=xF S (p.bytes.take (zF a p.bytes)) (p.bytes.drop (zF a p.bytes)) p.tick
  rw[List.take_append_drop] at h
  rw[h]
  unfold kD XS.run
  simp only[List.foldl_cons,List.foldl_nil,sb]
  simp
theorem lm{f:Pc→List Pc}(hf:∀ S p,XS.run S (f p)=S.take p.bytes p.tick) : ∀ (ps:List Pc)(S:XS),S.run (ps.flatMap f)=S.run ps
  | [],S=>rfl
  | p :: t,S=>by
    rw[List.flatMap_cons,kP,hf,lm hf t,show p :: t=[p]++t from rfl,kP,oa]
theorem mS{f:Pc→List Pc}{ps L:List Pc}{k:Nat}(hk:k<ps.length)(hL:L=(ps.take k).flatMap f) : L++f (ps.getD k Pc.z)=(ps.take (k+1)).flatMap f:=by
  rw[ff hk,List.flatMap_append,hL]
  simp
theorem kX{f:Pc→List Pc}(hf:∀ p,eR (f p)=p.bytes.length) : ∀ ps,eR (ps.flatMap f)=eR ps
  | []=>rfl
  | p :: t=>by
    have h:=kX hf t
    have e:eR (f p++t.flatMap f)=eR (f p)+eR (t.flatMap f):=by unfold eR;rw[List.map_append,fd]
    rw[List.flatMap_cons,e,h,hf]
    rfl
theorem oW(a:Int)(p:Pc) : eR (kD a p)=p.bytes.length:=by
  unfold kD eR
  simp only[List.map_cons,List.map_nil,dH,List.length_take,List.length_drop]
  omega
def AG:XS→Prop
  | .r _=>False
  | _=>True
theorem mD{S:XS}(h:AG S)(b:List Int)(t t':Bool) : S.take b t=S.take b t':=by
  have e:∀ t,S.take b t=S.feed b:=by
    intro t
    cases S with
    | r S=>exact h.elim
    | a S=>cases t;rfl;show(_,(S.feed b).2++[])=_;rw[List.append_nil];rfl
    | m S=>cases t;rfl;show(_,(S.feed b).2++[])=_;rw[List.append_nil];rfl
  rw[e,e]
theorem vK{ps:List Pc}(h:gR (ps.map Pc.bytes)=true) : ps.length≤60∧eR ps≤3000:=by
  unfold gR at h
  rw[Bool.and_eq_true,decide_eq_true_eq,decide_eq_true_eq,List.length_map] at h
  exact h
open Go.RowKit
def XS.isK (k d:Int) : XS→Prop
  | .r S=>k=0∧S.dir=d
  | .a S=>k=1∧S.dir=d
  | .m S=>k=2∧S.dir=d
theorem xX{k d:Int}(hk:k=0∨k=1∨k=2) : (XS.zero k d).isK k d:=by
  rcases hk with rfl|rfl|rfl<;>exact⟨rfl,rfl⟩
def od (k d:Int)(x:Ev) : Prop:=bf x.f.msg∧(x.e≠0→x.f=bu.zero)∧(x.e=0→∃ l,jN k d x.f.unit x.f.tid x.f.msg=some l)
theorem i4{k d e:Int}(he:e≠0) : od k d (Ev.bad e):=⟨dj,fun _=>rfl,fun h=>absurd h he⟩
theorem iI{k d:Int}{b:List Int}(hd:d=0∨d=1)(hb:∀ x,x∈b→0≤x∧x<256) : od k d ⟨(lN k d b).2,(lN k d b).1⟩:=by
  have h:=vA (k:=k) (dir:=d) (F:=(lN k d b).1) (E:=(lN k d b).2) hb rfl
  refine⟨h.1,h.2,fun h0=>⟨b,wL hd hb ?_⟩⟩
  show lN k d b=((lN k d b).1,0)
  rw[← show(lN k d b).2=0 from h0]
theorem sf{S:SA}{c d:Int}(hd:d=0∨d=1)(h:S.ok)(hc:0≤c∧c<256)(hS:S.dir=d) : (S.byte c).1.dir=d∧∀ x,x∈(S.byte c).2→od 1 d x:=by
  subst hS
  unfold SA.byte
  split
  · exact⟨rfl,fun x hx=>by rw[List.mem_singleton] at hx;rw[hx];exact i4 (by decide)⟩
  split
  · exact⟨rfl,fun x hx=>by cases hx⟩
  unfold SA.tail
  split
  · exact⟨rfl,fun x hx=>by rw[List.mem_singleton] at hx;rw[hx];exact i4 (by decide)⟩
  split
  · refine⟨rfl,fun x hx=>?_⟩
    rw[List.mem_singleton] at hx
    rw[hx]
    refine iI (k:=1) hd fun y hy=>?_
    rcases List.mem_append.1 hy with h1|h1
    · exact h.1 y h1
    · rw[List.mem_singleton] at h1;rw[h1];exact hc
  · exact⟨rfl,fun x hx=>by cases hx⟩
theorem lu{d:Int}(hd:d=0∨d=1) : ∀ (b:List Int)(S:SA),S.ok→(∀ x,x∈b→0≤x∧x<256)→S.dir=d→(S.feed b).1.dir=d∧∀ x,x∈(S.feed b).2→od 1 d x
  | [],S,_,_,hS=>⟨hS,fun x hx=>by cases hx⟩
  | c :: t,S,h,hb,hS=>by
    have e:=km S [c] t
    have e1:S.feed [c]=S.byte c:=by unfold SA.feed;simp
    have h1:=sf hd h (hb c (List.mem_cons_self ..)) hS
    have h2:=(SA.byte_ok (S2:=(S.byte c).1) (L2:=(S.byte c).2) h (hb c (List.mem_cons_self ..)) rfl).1
    have h3:=lu hd t (S.byte c).1 h2 (fun x hx=>hb x (List.mem_cons_of_mem _ hx)) h1.1
    rw[show c :: t=[c]++t from rfl,e,e1]
    refine⟨h3.1,fun x hx=>?_⟩
    rcases List.mem_append.1 hx with hx|hx
    · exact h1.2 x hx
    · exact h3.2 x hx
theorem rH{S:SM}{c d:Int}(hd:d=0∨d=1)(h:S.ok)(hc:0≤c∧c<256)(hS:S.dir=d) : (S.byte c).1.dir=d∧∀ x,x∈(S.byte c).2→od 2 d x:=by
  subst hS
  unfold SM.byte
  split
  · exact⟨rfl,fun x hx=>by cases hx⟩
  unfold SM.does
  split
  · exact⟨rfl,fun x hx=>by rw[List.mem_singleton] at hx;rw[hx];exact i4 (by decide)⟩
  · exact⟨rfl,fun x hx=>by rw[List.mem_singleton] at hx;rw[hx];exact i4 (by decide)⟩
  · refine⟨rfl,fun x hx=>?_⟩
    rw[List.mem_singleton] at hx
    rw[hx]
    refine iI (k:=2) hd fun y hy=>?_
    rcases List.mem_append.1 hy with h1|h1
    · exact h.2.1 y h1
    · rw[List.mem_singleton] at h1;rw[h1];exact hc
  · exact⟨rfl,fun x hx=>by cases hx⟩
theorem lP{d:Int}(hd:d=0∨d=1) : ∀ (b:List Int)(S:SM),S.ok→(∀ x,x∈b→0≤x∧x<256)→S.dir=d→(S.feed b).1.dir=d∧∀ x,x∈(S.feed b).2→od 2 d x
  | [],S,_,_,hS=>⟨hS,fun x hx=>by cases hx⟩
  | c :: t,S,h,hb,hS=>by
    have e:=kv S [c] t
    have e1:S.feed [c]=S.byte c:=by unfold SM.feed;simp
    have h1:=rH hd h (hb c (List.mem_cons_self ..)) hS
    have h2:=(SM.byte_ok (S2:=(S.byte c).1) (L2:=(S.byte c).2) h (hb c (List.mem_cons_self ..)) rfl).1
    have h3:=lP hd t (S.byte c).1 h2 (fun x hx=>hb x (List.mem_cons_of_mem _ hx)) h1.1
    rw[show c :: t=[c]++t from rfl,e,e1]
    refine⟨h3.1,fun x hx=>?_⟩
    rcases List.mem_append.1 hx with hx|hx
    · exact h1.2 x hx
    · exact h3.2 x hx
theorem t7{n base s g c:Nat}{w:World}{A:Option Addr}{S S2:XS}{b:List Int}{t:Bool}{L:List Ev}{k d:Int}(hd:d=0∨d=1)(h:aZ n base w s g A c S)(hS:S.isK k d)(hb:∀ x,x∈b→0≤x∧x<256)(hX:S.take b t=(S2,L)) : S2.isK k d∧∀ x,x∈L→od k d x:=by
  have e1:S2=(S.take b t).1:=(congrArg Prod.fst hX).symm
  have e2:L=(S.take b t).2:=(congrArg Prod.snd hX).symm
  rw[e1,e2]
  have h:=h.2
  cases S with
  | r S =>
    obtain⟨rfl,hS⟩:=hS
    obtain⟨⟨cp,_,hr,_⟩,_⟩:=h
    have hh:=aR.range hr
    have hf:(S.feed b).1.dir=d∧(∀ x,x∈(S.feed b).1.held→0≤x∧x<256)∧∀ x,x∈(S.feed b).2→od 0 d x:=by
      unfold SS.feed
      split
      · exact⟨hS,hh,fun x hx=>by cases hx⟩
      split
      · refine⟨hS,fun x hx=>?_,fun x hx=>by cases hx⟩
        rcases List.mem_append.1 hx with hx|hx
        · exact hh x hx
        · exact hb x hx
      · exact⟨hS,(fun x hx=>by cases hx),fun x hx=>by rw[List.mem_singleton] at hx;rw[hx];exact i4 (by decide)⟩
    cases t
    · exact⟨⟨rfl,hf.1⟩,hf.2.2⟩
    · refine⟨⟨rfl,hf.1⟩,fun x hx=>?_⟩
      rcases List.mem_append.1 hx with hx|hx
      · exact hf.2.2 x hx
      · have hx:x∈(S.feed b).1.tick.2:=hx
        unfold SS.tick at hx
        dsimp only at hx
        split at hx
        · cases hx
        · rw[List.mem_singleton] at hx
          rw[hx,hf.1]
          exact iI (k:=0) hd hf.2.1
  | a S =>
    obtain⟨rfl,hS⟩:=hS
    have hf:=lu hd b S h.2.2.1 hb hS
    rw[mD (S:=.a S) trivial b t false]
    exact⟨⟨rfl,hf.1⟩,hf.2⟩
  | m S =>
    obtain⟨rfl,hS⟩:=hS
    have hf:=lP hd b S h.2.2.1 hb hS
    rw[mD (S:=.m S) trivial b t false]
    exact⟨⟨rfl,hf.1⟩,hf.2⟩
open Go.RowKit
theorem Bm{a c next was:Int}(h:c≠2) : gI a c next was=0:=by
  unfold gI
  rw[show(c != 2)=true from bne_iff_ne.2 h]
  rfl
theorem o5{a c n:Int}(j:Nat) : ∀ k,kS a c (kS a c n j) k=kS a c n (j+k)
  | 0=>rfl
  | k+1=>by
    show jB a c (kS a c (kS a c n j) k)=jB a c (kS a c n (j+k))
    rw[o5 j k]
theorem gP(L K:List Ev) : av (L++K)=av L++av K:=by
  unfold av
  rw[List.filter_append,List.map_append]
theorem zB{L:List Ev}{f:bu}(h:f∈av L) : ∃ x,x∈L∧x.e=0∧x.f=f:=by
  unfold av at h
  obtain⟨x,hx,e⟩:=List.mem_map.1 h
  obtain⟨h1,h2⟩:=List.mem_filter.1 hx
  exact⟨x,h1,eq_of_beq h2,e⟩
def Cl (c d:Int)(f:bu) : Prop:=bf f.msg∧∀ t,0≤t→t<65536→(c≠2→t=0)→∃ l,jN c d f.unit t f.msg=some l
theorem BW{a c d:Int}{L:List Ev}(hc:c=0∨c=1∨c=2)(h:∀ x,x∈L→od a d x) : ∀ f,f∈av L→Cl c d f:=fun f hf=>by
  obtain⟨x,hx,h0,rfl⟩:=zB hf
  obtain⟨h1,_,h2⟩:=h x hx
  obtain⟨l,hl⟩:=h2 h0
  obtain⟨_,_,p,hp,_⟩:=uM hl
  exact⟨h1,fun t _ _ ht=>yW hc ht hp⟩
theorem vM{k dir u t:Int}{M:b6}{b:List Int}(h:jN k dir u t M=some b) : b.length≤513:=by
  revert h
  refine k4 k (fun e=>?_) (fun e=>?_) (fun e=>?_) (fun h0 h1 h2=>?_)
  · subst e;intro h;obtain⟨h1,l,h2,rfl,h3⟩:=mM h;rw[qs];omega
  · subst e;intro h;obtain⟨h1,l,h2,rfl,h3⟩:=mI h;rw[xy];omega
  · subst e;intro h;obtain⟨l,h2,rfl,h3⟩:=lR h;rw[o0];omega
  · rw[si h0 h1 h2];intro h;cases h
theorem zL{a c d next:Int}{F:List bu}{k:Nat}:(y6 a c d next F k).length≤513:=by
  unfold y6 AU
  cases h:jN c d (F.getD k bu.zero).unit (gI a c (kS a c next k) (F.getD k bu.zero).tid) (F.getD k bu.zero).msg with
  | none=>exact Nat.zero_le _
  | some l=>exact vM h
theorem my{a c d next:Int}{F:List bu}:∀ n,dH (g8 a c d next F n)≤513*n
  | 0=>Nat.zero_le _
  | n+1=>by
    rw[← eu rfl,fd]
    have h:=my (a:=a) (c:=c) (d:=d) (next:=next) (F:=F) n
    have h2:=zL (a:=a) (c:=c) (d:=d) (next:=next) (F:=F) (k:=n)
    have h3:dH [y6 a c d next F n]=(y6 a c d next F n).length+0:=rfl
    omega
def iW (L:List Ev) : Int:=(L.length:Int)-((av L).length:Int)
theorem sm(L K:List Ev) : iW (L++K)=iW L+((K.length:Int)-((av K).length:Int)):=by
  unfold iW
  rw[gP,List.length_append,List.length_append]
  omega
def pj (a c d:Int)(K L:List Ev) : List (List Int):=g8 a c d (kS a c 0 (av K).length) (av L) (av L).length
def iv (a c d:Int)(L:List Ev) : List (List Int):=pj a c d [] L
theorem kj{a c d next:Int}{F G:List bu}:∀ n,n≤G.length→g8 a c d next (F++G) (F.length+n)=g8 a c d next F F.length++g8 a c d (kS a c next F.length) G n
  | 0,_=>by
    have h:∀ m,m≤F.length→g8 a c d next (F++G) m=g8 a c d next F m:=by
      intro m
      induction m with
      | zero=>intro _;rfl
      | succ m ih =>
        intro hm
        rw[← eu rfl,← eu (F:=F) rfl,ih (by omega)]
        unfold y6
        rw[show(F++G).getD m bu.zero=F.getD m bu.zero by rw[List.getD_eq_getElem?_getD,List.getD_eq_getElem?_getD,List.getElem?_append_left (by omega)]]
    rw[Nat.add_zero,h _ (Nat.le_refl _)]
    show _=_++[]
    rw[List.append_nil]
  | n+1,hn=>by
    rw[← Nat.add_assoc,← eu rfl,← eu (F:=G) rfl,kj n (by omega),List.append_assoc]
    unfold y6
    rw[o5,show(F++G).getD (F.length+n) bu.zero=G.getD n bu.zero by rw[List.getD_eq_getElem?_getD,List.getD_eq_getElem?_getD,List.getElem?_append_right (by omega),Nat.add_sub_cancel_left]]
theorem xQ{a c d:Int}(K L:List Ev) : iv a c d (K++L)=iv a c d K++pj a c d K L:=by
  unfold iv pj
  rw[gP,List.length_append,kj _ (Nat.le_refl _)]
  rfl
theorem m9{a c d:Int}{K L:List Ev}:dH (pj a c d K L)≤513*L.length:=Nat.le_trans (my _) (Nat.mul_le_mul_left _ (by unfold av;rw[List.length_map];exact List.length_filter_le _ _))
def w8 (w:World)(gt s bT bF bN:Nat)(a c d:Int)(L:List Ev) : Prop:=ej w gt s bT bF bN a c d (kS a c 0 (av L).length) (iW L)
open Go.RowKit
theorem vH:∀ y,y∈ob none→False:=fun y hy=>by simp[ob] at hy
theorem jT{L:List Ev}:(av L).length≤L.length:=by
  unfold av
  rw[List.length_map]
  exact List.length_filter_le _ _
theorem xV{F:List bu}{k:Nat}(hk:k<F.length) : F.getD k bu.zero∈F:=by
  rw[List.getD_eq_getElem?_getD,List.getElem?_eq_getElem hk]
  exact List.getElem_mem hk
theorem AZ{a c d next:Int}{F:List bu}{k:Nat}{l:List Int}(h:jN c d (F.getD k bu.zero).unit (gI a c (kS a c next k) (F.getD k bu.zero).tid) (F.getD k bu.zero).msg=some l) : y6 a c d next F k=l:=by
  unfold y6 AU
  rw[h]
  rfl
theorem qL{w:World}{n base gt s g c0 bT bF bN cpb:Nat}{A B:Option Addr}{S S2:XS}{L:List Ev}{m:Md}{t:Bool}{b:List Int}{a c d next lost:Int}(hX:S.take b t=(S2,L))(hG:ej w gt s bT bF bN a c d next lost)(hS:aZ n base w s g A c0 S)(hsl:aR m w (.slice B b.length cpb) b)(hdg:0<b.length→∀ x,x∈ob B→x≠g)(hda:ma b.length B (ob A))(hbl:b.length≤1048576)(hL:L.length≤200000)(hlo:0≤lost∧lost≤1000000000)(hwr:∀ f,f∈av L→Cl c d f) :
    Calls Tryz.prog 45 #[vP gt 0,.agg #[.slice B b.length cpb,.bool t]] w (DL n base S2 (g8 a c d next (av L) (av L).length) a c d (kS a c next (av L).length) (lost+((L.length:Int)-((av L).length:Int))) gt s g bT bF bN A w):=by
 have hzb:=aP.len hsl
 refine en 69 Tryz.func45 rfl<|sg<|L0<|cU #[.slice B b.length cpb,.bool t] fun am c7 an bo V=>al 1<|sq<|Rg 7 (fun w'=>w'.cell? ⟨gt,0,none⟩=some (vP s 0)∧w'.heap[am]? = some (.cells #[.slice B b.length cpb,.bool t] 70 (0,0))) fun bp M=>?_
 have j:=aH V M
 have W:=ub j hG.cell
 have aA:=ub M bo
 refine b9 ⟨(ae W rfl),aA⟩ fun E=>Rt 0 E<|Rt 1 E<|Rt 2 E<|Rl 3 E (fun _ hs=>hs.1)<|Rr 4 E (.agg #[.slice B b.length cpb,.bool t]) (fun w' hs=>gg (g:=am) (off:=0) [.slice B b.length cpb,.bool t] rfl (by kernel_rfl) hs.2 (by kernel_rfl) (by kernel_rfl) rfl)<|?_
 have hwl:=j.size
 refine R0 5 rfl<|Oc (args:=#[vP s 0,.agg #[.slice B b.length cpb,.bool t]])<|(xE hX (aZ.old hS j) (aR.old hsl j) hdg hda hbl).mono ?_
 rintro _ c8 ⟨c9,v,bq,br,rfl,bs,y,bt,bv,l⟩
 refine⟨_,rfl,?_⟩
 have aC:=bs
 obtain⟨ca,cc,rfl,cd,ce⟩:=aP.shape aC.rd
 have N:=ap.blk l (aa (aZ.gne hS hG.cell (by decide)) (aM (aX W (aj (aZ.row hS) j (fun x hx=>az) (fun _ _ h=>h)) (by decide)) az)) W
 refine b9 ⟨(ae N rfl),(ap.blk l (aa (Ne.symm (nb (aZ.glt hS) lr an)) (aM (dQ (aZ.row hS) lr an) az)) aA)⟩ fun bw=>Rt 6 bw<|re<|tn<|au 1<|aF<|eU (uB (p:=bp.heap.size) (L:=L) (aJ.hi (aJ.map aC fun _ _ q=>q.hi) (Nat.le_refl _)) hL) fun aG aN cf X cg ch Y=>?_
 have hfl:=jT (L:=L)
 refine Pl 1<|aS 3<|?_
 have Z:=ub Y N
 refine ax Z 4<|Pl 4<|bA ((L.length:Int)-((av L).length:Int))<|bA (lost+((L.length:Int)-((av L).length:Int)))<|Pl 2<|L0<|cv Z 4 #[vP s 0,vI c,vI d,.func (.func 92) #[] #[vP bT 0,vP bF 0,vP bN 0],vI (lost+((L.length:Int)-((av L).length:Int)))] fun z aO aQ=>dl 1<|sq<|ay 3<|bk<|?_
 have a0:=uz Y aQ
 have G:=ut (ap.mono (S':=(g :: (ob A++(gt :: [])))) j aB) (u1 (ap.mono (S':=(g :: (ob A++(gt :: [])))) l (ac im (ah il aB))) a0 im) (ac im (ah il (ac im aB)))
 refine js (fun x=>[(0,vP gt 0),(4,nS),(7,.slice x.2.2.1 x.2.1.length x.2.2.2.1),(32,.slice aG ((av L).length) aN),(33,vI ((av L).length:Int)),(34,vI (x.1:Int))]) (fun(x:Nat × List (List Int) × Option Addr × Nat × Nat) w'=>ap [bN] z w'∧w'.heap[bN]? = some (.cells #[vW (kS a c next x.1)] 37 (0,0))∧rj v x.2.2.2.2 z.heap.size w' (.slice x.2.2.1 x.2.1.length x.2.2.2.1) x.2.1∧x.2.2.2.2≤w'.heap.size∧(x.1≤(av L).length)∧(x.2.1.length≤x.1)∧(x.2.1=g8 a c d next (av L) x.1)) (fun x=>(av L).length-x.1) (0,[],none,0,z.heap.size) ⟨ap.refl _ _,(ap.blk G (aa (aZ.gne hS hG.cN (by decide)) (aM (aX hG.cN (aZ.row hS) (by decide)) (aa (Ne.symm (eJ hG.cell hG.cN (by decide))) az))) hG.cN),(aJ.nil z.heap.size _ _ (jS v z.heap.size) _),(Nat.le_refl _),(by(try dsimp only);omega),(by(try dsimp only);exact Nat.zero_le _),rfl⟩ ?_
 rintro⟨k,o,Bq,cq,n⟩ a1 ⟨u,bz,bB,bC,bD,bE,bG⟩
 refine ip [(0,vP gt 0),(4,nS),(7,.slice Bq o.length cq),(32,.slice aG ((av L).length) aN),(33,vI ((av L).length:Int)),(34,vI (k:Int))] ?_
 have O:a1.heap[bN]? = some (.cells #[vW (kS a c next k)] 37 (0,0)):=bz
 have H:rj v n z.heap.size a1 (.slice Bq o.length cq) o:=bB
 have bH:n≤a1.heap.size:=bC
 have hni:=bH
 have ci:k≤(av L).length:=bD
 have cj:o.length≤k:=bE
 have aU:o=g8 a c d next (av L) k:=bG
 refine ay 1<|sq<|?_
 have C:=u1 (ap.mono (S':=(g :: (ob A++(gt :: (bN :: []))))) G (ac im (ah il (ac im aB)))) u im
 refine cb ((decide ((k:Int)<((av L).length:Int)))) (fun a2=>?_) (fun a2=>?_)
 have bI:=of_decide_eq_true a2
 refine bU<|sq<|bk<|sg<|?_
 have aV:=us aQ u
 refine DD (Bu.elt (aJ.hi (aj X aV (fun x hx=>(aa (fun e=>(aD (ai hG.cell) (le (le V.size M.size) l.size) X) (e▸hx)) (aa (fun e=>(aD (ai hG.cN) (le (le V.size M.size) l.size) X) (e▸hx)) az))) (nY.upd aV (ak (aW Z (by decide)) (ak (bM.low (ap.blk (ut (ap.mono (S':=(g :: (ob A++[]))) j aB) (aH l Y) (ac im (ah il aB))) (aa (aZ.gne hS hG.cN (by decide)) (aM (aX hG.cN (aZ.row hS) (by decide)) az)) hG.cN) (Nat.lt_of_lt_of_le (ai hG.cN) hwl)) aK)))) l.size) k (by omega) bu.zero) fun ck cm cn co cp i bJ bK I bL=>?_
 have cr:=I.2
 refine L0<|oO 24 ((av L).length) k bJ (by omega)<|L0<|BP [vB (((av L).getD k bu.zero).unit),vW (((av L).getD k bu.zero).tid),vB (((av L).getD k bu.zero).msg.code),vB (((av L).getD k bu.zero).msg.fail),vW (((av L).getD k bu.zero).msg.addr),vW (((av L).getD k bu.zero).msg.count),vW (((av L).getD k bu.zero).msg.value),vW (((av L).getD k bu.zero).msg.and_),vW (((av L).getD k bu.zero).msg.or_),vW (((av L).getD k bu.zero).msg.addr2),vW (((av L).getD k bu.zero).msg.sub),vW (((av L).getD k bu.zero).msg.status),vW (((av L).getD k bu.zero).msg.events),vW (((av L).getD k bu.zero).msg.messages),.slice i.aw (((av L).getD k bu.zero).msg.words.length) i.kw,.slice i.ab (((av L).getD k bu.zero).msg.bits.length) i.kb,.slice i.ad (((av L).getD k bu.zero).msg.data.length) i.kd,.slice i.ar (((av L).getD k bu.zero).msg.recs.length) i.kr,vB (((av L).getD k bu.zero).msg.mei),vB (((av L).getD k bu.zero).msg.kind),vB (((av L).getD k bu.zero).msg.level),vB (((av L).getD k bu.zero).msg.more),vB (((av L).getD k bu.zero).msg.next),.slice i.ao (((av L).getD k bu.zero).msg.objects.length) i.ko] bK bL<|aL AI fun a3 ct J bO aY=>aI bO (ep (((av L).getD k bu.zero).unit) (((av L).getD k bu.zero).tid) (((av L).getD k bu.zero).msg) i) fun cu bP b0=>nt<|sq<|Rg 11 (fun w'=>w'.cell? ⟨gt,3,none⟩=some (.func (.func 92) #[] #[vP bT 0,vP bF 0,vP bN 0])) fun cw a4=>?_
 have P:=ud aY (aH b0 a4) J
 have b1:=aH u P
 have a5:=b7 b1 (eJ hG.cell hG.cN (by decide)) aO
 refine b9 (ae a5 rfl) fun D=>Rt 0 D<|Rt 1 D<|Rt 2 D<|Rl 3 D (fun _ hs=>hs)<|Rt 4 D<|Rt 5 D<|?_
 have b2:=ub a4 bP
 refine R0 6 rfl<|ii b2 1<|b9 (ae a5 rfl) fun cx=>?_
 have b3:=aH C P
 refine R0 7 rfl<|fy #[] #[vP bT 0,vP bF 0,vP bN 0] (args:=#[vW (((av L).getD k bu.zero).tid),vP bT 0,vP bF 0,vP bN 0])<|m2 (wQ (a:=a) (c:=c) (next:=kS a c next k) (was:=((av L).getD k bu.zero).tid) (ap.blk b3 (aa (aZ.gne hS hG.cT (by decide)) (aM (aX hG.cT (aZ.row hS) (by decide)) (aa (Ne.symm (eJ hG.cell hG.cT (by decide))) (aa (eJ hG.cT hG.cN (by decide)) az)))) hG.cT) (ap.blk b3 (aa (aZ.gne hS hG.cF (by decide)) (aM (aX hG.cF (aZ.row hS) (by decide)) (aa (Ne.symm (eJ hG.cell hG.cF (by decide))) (aa (eJ hG.cF hG.cN (by decide)) az)))) hG.cF) (ub P O) (gK hG.rng k) I.2.2) fun cy bQ Q=>?_
 have b4:=b7 Q (eJ hG.cell hG.cN (by decide)) a5
 refine b9 (ae b4 rfl) fun b5=>Rt 8 b5<|Rt 9 b5<|?_
 have b6:=nb (ai hG.cN) C.size J
 refine R0 10 rfl<|cv (b7 Q (Ne.symm b6) b2) 1 (ep (((av L).getD k bu.zero).unit) (gI a c (kS a c next k) (((av L).getD k bu.zero).tid)) (((av L).getD k bu.zero).msg) i) fun cz bR a6=>?_
 have b8:=b7 a6 (nb (ai hG.cell) C.size J) b4
 refine b9 (ae b8 rfl) fun cA=>re<|tn<|sq<|Rg 15 (fun w'=>w'.cell? ⟨gt,1,none⟩=some (vI c)∧w'.cell? ⟨gt,2,none⟩=some (vI d)∧w'.heap[a3]? = some (.cells (ep (((av L).getD k bu.zero).unit) (gI a c (kS a c next k) (((av L).getD k bu.zero).tid)) (((av L).getD k bu.zero).msg) i) 47 (0,0))) fun cB T=>?_
 have a7:=ub T b8
 have ba:=ub T bR
 refine b9 ⟨(ae a7 rfl),(ae a7 rfl),ba⟩ fun r=>Rt 0 r<|Rt 1 r<|Rt 2 r<|Rl 3 r (fun _ hs=>hs.1)<|Rt 4 r<|Rt 5 r<|Rt 6 r<|Rl 7 r (fun _ hs=>hs.2.1)<|Rr 8 r (.agg (ep (((av L).getD k bu.zero).unit) (gI a c (kS a c next k) (((av L).getD k bu.zero).tid)) (((av L).getD k bu.zero).msg) i)) (fun w' hs=>gg (g:=a3) (off:=0) [vB (((av L).getD k bu.zero).unit),vW (gI a c (kS a c next k) (((av L).getD k bu.zero).tid)),vB (((av L).getD k bu.zero).msg.code),vB (((av L).getD k bu.zero).msg.fail),vW (((av L).getD k bu.zero).msg.addr),vW (((av L).getD k bu.zero).msg.count),vW (((av L).getD k bu.zero).msg.value),vW (((av L).getD k bu.zero).msg.and_),vW (((av L).getD k bu.zero).msg.or_),vW (((av L).getD k bu.zero).msg.addr2),vW (((av L).getD k bu.zero).msg.sub),vW (((av L).getD k bu.zero).msg.status),vW (((av L).getD k bu.zero).msg.events),vW (((av L).getD k bu.zero).msg.messages),.slice i.aw (((av L).getD k bu.zero).msg.words.length) i.kw,.slice i.ab (((av L).getD k bu.zero).msg.bits.length) i.kb,.slice i.ad (((av L).getD k bu.zero).msg.data.length) i.kd,.slice i.ar (((av L).getD k bu.zero).msg.recs.length) i.kr,vB (((av L).getD k bu.zero).msg.mei),vB (((av L).getD k bu.zero).msg.kind),vB (((av L).getD k bu.zero).msg.level),vB (((av L).getD k bu.zero).msg.more),vB (((av L).getD k bu.zero).msg.next),.slice i.ao (((av L).getD k bu.zero).msg.objects.length) i.ko] rfl (by kernel_rfl) hs.2.2 (by kernel_rfl) (by kernel_rfl) rfl)<|?_
 have bb:=aH a6 T
 have bc:=us Q bb
 have bd:=ue P bc J
 have a8:=xf (a:=a) (c:=c) (gK (a:=a) (c:=c) hG.rng k) I.2.2
 obtain⟨a9,be⟩:=(hwr _ (xV (F:=(av L)) (k:=k) (by omega))).2 _ a8.1 a8.2 Bm
 refine R0 9 rfl<|Oc<|e2 (qt (aE.upd (I.1) bd (ak (bM.low O (Nat.lt_of_lt_of_le (ai hG.cN) hwl)) aK)) (hwr _ (xV (F:=(av L)) (k:=k) (by omega))).1 I.2.1 a8 be) fun cC cD bS U=>?_
 obtain⟨bV,bW,rfl,bX,bY⟩:=iT.shape bS
 have bf:=ub U a7
 refine b9 ⟨(ae bf rfl),(ae bf rfl),(ub U ba)⟩ fun K=>Rt 10 K<|Rt 11 K<|Rt 12 K<|Rt 13 K<|Rt 14 K<|re<|tn<|ay 2<|c1<|go<|Pl 2<|L0<|dv (m:=1) (e:=27) #[.slice bV a9.length bW] fun cE bg bZ c2 af=>?_
 have bh:=ut b1 bc (ac im (ac (ni u.size J) aB))
 have c3:=Dj (A:=v) bZ c2 (jS.of (aR.upd' bX af aK) bY (pX (aj (aZ.row y) (us a0 bh) (fun x hx=>(aa (fun e=>(aX N (aZ.row y) (by decide)) (e▸hx)) (aa (fun e=>(aX (ap.blk (ut (ap.mono (S':=(g :: (ob A++[]))) j aB) l (ac im (ah il aB))) (aa (aZ.gne hS hG.cN (by decide)) (aM (aX hG.cN (aZ.row hS) (by decide)) az)) hG.cN) (aZ.row y) (by decide)) (e▸hx)) az))) (fun _ _ h=>h))))
 have bi:=aH U af
 have ag:=aH bd bi
 have bj:=aj H ag (fun x hx=>(aa (fun e=>(aD (ai hG.cN) G.size H) (e▸hx)) az)) (fun x cs q=>jS.upd ag (AF O (by decide) oA) q)
 refine L0<|i3 (R:=jS v bg.heap.size) (xs:=o) (ys:=([a9])) nS 1 24 (aJ.map bj fun x cs q=>jS.raise (Nat.le_trans hni ag.size) (Nat.le_refl _) q) (c3).rd jS.ones (fun w' hv x cs q=>jS.upd hv (Af bj (by decide) oA) q) (by(try simp only[cl,aq]);omega) (le (le (le (le (le (le (le (le u.size aY.size) b0.size) a4.size) Q.size) a6.size) T.size) U.size) af.size) fun c4 c5 cG c6 bl cH=>Pl 1<|nl<|bn<|tn<|go<|bA ((k:Int)+1)<|Pl 1<|nl<|?_
 have bm:=ut (ap.mono (S':=(ob Bq++[])) bi aB) bl (ah il aB)
 exact fM ((k+1),(o++[a9]),c4,c5,bg.heap.size) ⟨(ut bh bm (ah (aT H lr) aB)),(ap.blk (ut (ap.mono (S':=(a3 :: (ob Bq++[]))) bb (ac im aB)) bm (ah il aB)) (aa b6 (aM (aD (ai hG.cN) G.size H) az)) bQ),c6,bl.size,(by(try dsimp only);omega),(by(try dsimp only);(try simp only[cl]);omega),(by(try dsimp only);rw[aU];exact eu (AZ be))⟩ (by omega)
 have bI:=of_decide_eq_false a2
 refine xt<|tx<|tx<|bx<|tn<|ay 2<|rt<|rr (.slice Bq o.length cq)<|?_
 obtain rfl:k=(av L).length:=by omega
 subst aU
 exact⟨_,v,bq,br,rfl,aJ.weaken (aJ.map H fun x cs q=>jS.raise (Nat.le_trans hni lr) (Nat.le_refl _) q) G.size,(aZ.upd y (us a0 u) (aa (Ne.symm (aZ.sne hS hG.cell (by decide))) (aa (Ne.symm (aZ.sne hS hG.cN (by decide))) az)) (aa (Ne.symm (aZ.gne hS hG.cell (by decide))) (aa (Ne.symm (aZ.gne hS hG.cN (by decide))) az)) (fun x hx=>(aa (fun e=>(aX N (aZ.row y) (by decide)) (e▸hx)) (aa (fun e=>(aX (ap.blk (ut (ap.mono (S':=(g :: (ob A++[]))) j aB) l (ac im (ah il aB))) (aa (aZ.gne hS hG.cN (by decide)) (aM (aX hG.cN (aZ.row hS) (by decide)) az)) hG.cN) (aZ.row y) (by decide)) (e▸hx)) az)))),⟨(b7 u (eJ hG.cell hG.cN (by decide)) aO),(ap.blk C (aa (aZ.gne hS hG.cT (by decide)) (aM (aX hG.cT (aZ.row hS) (by decide)) (aa (Ne.symm (eJ hG.cell hG.cT (by decide))) (aa (eJ hG.cT hG.cN (by decide)) az)))) hG.cT),(ap.blk C (aa (aZ.gne hS hG.cF (by decide)) (aM (aX hG.cF (aZ.row hS) (by decide)) (aa (Ne.symm (eJ hG.cell hG.cF (by decide))) (aa (eJ hG.cF hG.cN (by decide)) az)))) hG.cF),O,gK hG.rng _⟩,(fun x hx=>(bt x hx).imp_right (Nat.le_trans hwl)),bv,(ap.mono (S':=gt :: bN :: g :: (ob A++[])) C (ac im (ah il (ac im (ac im aB)))))⟩
def DM (n base:Nat)(S2:XS)(K L:List Ev)(a c d:Int)(gt s g bT bF bN:Nat)(A:Option Addr)(w:World)(e:Ending)(w':World) : Prop :=
  ∃ v A2 c2 n2,e = .returned v∧rj A2 w'.heap.size w.heap.size w' v (pj a c d K L)∧aZ n2 base w' s g A2 c2 S2∧w8 w' gt s bT bF bN a c d (K++L)∧(∀ x,x∈ob A2→x∈ob A∨w.heap.size≤x)∧n≤n2∧ap (gt :: bN :: g :: (ob A++[])) w w'
theorem u6{w:World}{n base gt s g c0 bT bF bN nb cpb:Nat}{A B:Option Addr}{S S2:XS}{K L:List Ev}{m:Md}{t:Bool}{b:List Int}{a c d:Int}(hX:S.take b t=(S2,L))(hc:c=0∨c=1∨c=2)(hd:d=0∨d=1)(hk:S.isK a d)(hG:w8 w gt s bT bF bN a c d K)(hS:aZ n base w s g A c0 S)(hsl:aR m w (.slice B nb cpb) b)(hdg:0<nb→∀ x,x∈ob B→x≠g)(hda:ma nb B (ob A))(hbl:b.length≤100000)(hKl:K.length≤1000000) :
    Calls Tryz.prog 45 #[.pointer (some ⟨gt,0,none⟩),.agg #[.slice B nb cpb,.bool t]] w (DM n base S2 K L a c d gt s g bT bF bN A w):=by
  obtain⟨_,_,e,_,_⟩:=hsl.shape
  injection e with e1 e2 e3
  subst e1 e2 e3
  have h1:=(t7 hd hS hk hsl.range hX).2
  have h2:=hS.take_le hsl.range hX
  have h3:=jT (L:=K)
  have h4:0≤iW K∧iW K≤1000000000:=by unfold iW;omega
  refine(qL hX hG hS hsl hdg hda (by omega) (by omega) h4 (BW hc h1)).mono ?_
  rintro _ w2 ⟨v,A2,c2,n2,rfl,k1,k2,k3,k4,k5,k6⟩
  refine⟨v,A2,c2,n2,rfl,k1,k2,?_,k4,k5,k6⟩
  unfold w8
  rw[sm,gP,List.length_append,← o5]
  exact k3
open Go.RowKit
theorem yE{z:Value}(hz:z.cells = #[z])(k:Nat) : (Builtin.zeroCells z.cells k).toList=List.replicate k z:=by
  rw[hz]
  have h:(Builtin.zeroCells #[z] k).toList=List.map (fun i=>[z][i%1]?.getD default) (List.range k):=by simp[Builtin.zeroCells]
  rw[h]
  refine List.eq_replicate_iff.2 ⟨by simp,fun b hb=>?_⟩
  obtain⟨i,_,rfl⟩:=List.mem_map.1 hb
  simp[Nat.mod_one]
theorem jA{P:Program}(w:World)(base:Nat)(t tn ty e:TypeId)(i:TypeInfo)(z:Value)(kq kn:IntKind)(ht:P.underlying t=some (.slice e))(htn:P.underlying tn=some (.int kn))(hi:P.info? e=some i)(hz:i.zero=some z)
    (hsize:i.size=1) (hby:i.bytes≤65536) (hzc:z.cells = #[z]) (hone:z.oneCell'=true) (v:Value) (n:Nat) (xs:List Value) (hown:w.ownsRow base e 1 v n xs) (k:Nat) (h0:0<k) (a:n+k≤4194304) (hbase:base≤w.heap.size) :
    ∃ v' w',(Builtin.append_ #[t,tn] ty #[v,.int kq (k:Int)]).run P w = .ok v' w'∧w'.ownsRow base e 1 v' (n+k) (xs++List.replicate k z)∧w.grownBy w' v.ownBlock:=by
  have hlen:(xs++List.replicate k z).length=(n+k)*1:=by rw[List.length_append,hown.1,List.length_replicate];omega
  have hmx:n+k≤maxLen:=by unfold maxLen;omega
  have hmul:(n+k)*i.bytes≤140737488355328:=Nat.le_trans (Nat.mul_le_mul a hby) (by decide)
  have hmulk:k*i.bytes≤281474976710656:=Nat.le_trans (Nat.mul_le_mul (show k≤4194304 by omega) hby) (by decide)
  have hzl:=yE hzc
  have grown:∀ (old:Nat),old<n+k→∀ (row:Option Nat),
      (w.drew.alloc (.cells (xs.toArray++Builtin.zeroCells z.cells k++Builtin.zeroCells z.cells (grownCap w (n+k) old e-(n+k))) e)).ownsRow base e 1
        (.slice (some ⟨w.heap.size,0,none⟩) (n+k) (grownCap w (n+k) old e)) (n+k) (xs++List.replicate k z) ∧
      w.grownBy (w.drew.alloc (.cells (xs.toArray++Builtin.zeroCells z.cells k++Builtin.zeroCells z.cells (grownCap w (n+k) old e-(n+k))) e)) row:=by
    intro old ho row
    have hge:=grownCap_ge w (n+k) old e
    have hcm:grownCap w (n+k) old e≤maxLen:=grownCap_le_maxLen w (n+k) old e hmx
    refine⟨⟨hlen,.inr ⟨w.heap.size,_,_,rfl,hbase,heap_alloc_new w.drew _,hge,hcm,?_,?_⟩⟩,⟨rfl,rfl,rfl,by simp,fun k hk _=>heap_alloc_old w.drew _ hk⟩⟩
    · simp only[Array.size_append,List.size_toArray,size_zeroCells,hzc,hown.1,List.size_toArray,List.length_cons,List.length_nil]
      omega
    · simp only[Array.toList_append,hzl]
      rw[← hlen]
      exact List.take_left
  rcases hown.2 with⟨rfl,rfl⟩|⟨g,cap,cur,rfl,hbg,hg,hnc,hcm,hcs,htake⟩
  · have hx:xs=[]:=List.eq_nil_of_length_eq_zero (by simpa using hown.1)
    subst hx
    have hr:=Lib.run_append_nil_zeros (P:=P) w t tn ty e i z kq kn ht htn hi hz k h0 (by omega) (by omega) hmulk
    have hgr:=grown 0 (by omega) (Value.ownBlock (.slice none 0 0))
    simp only[Nat.zero_add,List.nil_append,Array.empty_append] at hgr ⊢
    exact⟨_,_,hr,hgr.1,hgr.2⟩
  · by_cases hroom:n+k≤cap
    · have hst:=run_storeCells_at P g (n*1) e (List.replicate k z) 0 cur w hg (by rw[List.length_replicate,hcs];omega) (fun u hu=>by rw[(List.mem_replicate.1 hu).2];exact hone)
      simp only[Nat.add_zero,Nat.mul_one] at hst
      have hw:IntKind.i64.wrap (k:Int)=k:=by rw[IntKind.wrap_i64];omega
      have hneg:¬ ((k:Int)<0):=by omega
      have b:¬ (281474976710656<(k:Int)*(i.bytes:Int)):=by
        rw[← Int.natCast_mul]
        omega
      have hns:¬ (k=0):=by omega
      have hr:(Builtin.append_ #[t,tn] ty #[.slice (some ⟨g,0,none⟩) n cap,.int kq (k:Int)]).run P w = .ok (.slice (some ⟨g,0,none⟩) (n+k) cap) (w.setRow g (cur.toList.take n++List.replicate k z++cur.toList.drop (n+(List.replicate k z).length)).toArray):=by
        simp[Builtin.append_,run_underlying ht,run_underlying htn,sizeOf,typeInfo,zeroValue,hi,hz,hsize,asInt,asIntOf,hw,hroom,hneg,hns,b,Addr.add_lit,hzl,hst]
        done
      refine⟨_,_,hr,⟨hlen,.inr ⟨g,cap,_,rfl,hbg,setRow_heap w g cur _ e _ hg,hroom,hcm,?_,?_⟩⟩,⟨rfl,rfl,rfl,by simp,fun k _ hk=>setRow_other w g k _ (fun e=>hk (by simp[Value.ownBlock,e]))⟩⟩
      · simp only[List.size_toArray,List.length_append,List.length_take,List.length_drop,Array.length_toList,List.length_replicate]
        omega
      · have h1:cur.toList.take n=xs:=by simpa using htake
        rw[h1,← hlen]
        exact List.take_left
    · have holds:(Builtin.firstCells i.size n (.slice (some ⟨g,0,none⟩) n cap)).run P w.drew = .ok xs.toArray w.drew:=by
        refine run_firstCells_some (P:=P) w.drew i.size n ⟨g,0,none⟩ n cap xs (by rw[hsize];exact hown.1) ?_
        intro j u hj
        exact hown.cells (g:=g) rfl j u hj
      have hr:=Lib.run_append_grow_zeros (P:=P) w t tn ty e i z kq kn ht htn hi hz (some ⟨g,0,none⟩) n cap xs holds k h0 (by omega) (by omega) (by omega) hmulk (growslice_fits (by omega) hmul)
      have hgr:=grown cap (by omega) (Value.ownBlock (.slice (some ⟨g,0,none⟩) n cap))
      exact⟨_,_,hr,hgr.1,hgr.2⟩
theorem AH{P:Program}{Q:Exit→Act→World→Prop}{a:Act}{w:World}{K:Act→World→Prop}{o:Oper}{N:Option Tmp}
    {s x:Operand} {t tn e:TypeId} {base n c:Nat} {kq kn:IntKind} {A:Option Addr} (bytes:Nat) (hN:o.dst=N) (ho:o.op = .call { callee:=.builtin .append,args:=#[s,x],argTypes:=#[t,tn] })
    (ht:P.underlying t=some (.slice e)) (htn:P.underlying tn=some (.int kn)) (hinfo:(P.info? e).map (fun i=>(i.zero,i.size,i.bytes))=some (some (.int .u8 0),1,bytes))
    (xs:List Int) (hs:a.eval s = .slice A n c) (HO:aJ base e 1 jH w (.slice A n c) xs) (k:Nat) {v:Int} (hv:v=(k:Int)) (hx:a.eval x = .int kq v) (h0:0<k)
    (hl:xs.length+k≤4194304) (hby:bytes≤65536) (hbase:base≤w.heap.size)
    (h:∀ A' c' w',aJ base e 1 jH w' (.slice A' (xs++List.replicate k 0).length c') (xs++List.replicate k 0)→ap (ob A++[]) w w'→K (a.put N (.slice A' (xs++List.replicate k 0).length c')) w') : OW P o a w K Q:=by
  subst hN
  subst hv
  refine⟨?_⟩
  obtain⟨i0,hi,hz0,hz1,hz2⟩:=info_parts hinfo
  have hmap:xs.map (Value.int .u8)++List.replicate k (.int .u8 0)=(xs++List.replicate k 0).map (Value.int .u8):=by simp
  obtain⟨v',w',hr,h1,hg⟩:=jA (P:=P) w base t tn o.type e i0 (.int .u8 0) kq kn ht htn hi hz0 hz1 (by omega) rfl rfl _ xs.length (xs.map (Value.int .u8)) (dW bh.cell HO) k h0 hl hbase
  have h2:aJ base e 1 jH w' v' (xs++List.replicate k 0):=by
    refine dX (enc:=Value.int .u8) (fun y hy=>?_) (by rw[← hmap];simpa using h1)
    rcases List.mem_append.1 hy with hy|hy
    · obtain⟨cs,h1⟩:=HO.mem y hy
      exact bh.any _ _ _ _ h1
    · rw[(List.mem_replicate.1 hy).2]
      exact⟨rfl,by decide⟩
  have hU:ap (ob A) w w':=ap.of_grown hg _ fun k hk=>.inl (by
    rcases dg HO with rfl|⟨g,cells,rfl,_,_⟩
    · simp[Value.ownBlock] at hk
    · simp[Value.ownBlock] at hk
      simp[ob,hk])
  have hn:n=xs.length:=by
    obtain⟨_,_,hv,_⟩:=HO.rd.shape
    injection hv
  have hrun:(execOp a.eval o).run P w = .ok (.value v') w':=by
    subst hn
    unfold execOp
    simp only[ho,resolve,invoke,builtin,Sem.run_bind,Sem.run_pure,Result.andThen_ok,List.map_toArray,List.map_cons,List.map_nil,hs,hx,hr]
  unfold Oper.wp
  rw[hrun]
  obtain⟨A',c',rfl,_,_⟩:=h2.rd.shape
  exact h _ _ _ h2 (by simpa using hU)
def CD (P:Program)(t:TypeId) : Option IntKind:=match P.underlying t with | some (.int k)=>some k | _=>none
theorem xR{P:Program}{t:TypeId}{k:IntKind}(h:CD P t=some k) : P.underlying t=some (.int k):=by
  unfold CD at h
  split at h
  · rename_i q hq;rw[hq];simpa using h
  · cases h
section
variable {P:Program}{Q:Exit→Act→World→Prop}{n:Nat}{D:List Deferred}{F:Fr}{w:World}{K:Fr→World→Prop}{d:Option Tmp}{t:TypeId}{s:String}{af:Array Edge}{gu:Option (Nat × Bool)}
theorem CY{x y:Operand}{e:TypeId}{base m c:Nat}{A:Option Addr}{xs:List Int}{ty tn:TypeId}{kq:IntKind}{v:Int}(bytes k:Nat)(HO:aJ base e 1 jH w (.slice A m c) xs)(hv:v=(k:Int))(h0:0<k)
    (hl:xs.length+k≤4194304) (hbase:base≤w.heap.size) (h:∀ A' c' w',aJ base e 1 jH w' (.slice A' (xs++List.replicate k 0).length c') (xs++List.replicate k 0)→ap (ob A++[]) w w'→K (pt d (.slice A' (xs++List.replicate k 0).length c') F) w')
    (hx:dM F x=some (.slice A m c):=by kernel_rfl) (hy:dM F y=some (.int kq v):=by kernel_rfl) (he:ol P ty=some e:=by kernel_rfl) (hk:CD P tn=some .i64:=by kernel_rfl) (hs:(mg P ty,ey n d&&Nat.ble bytes 65536)=(some (some (.int .u8 0),1,bytes),true):=by kernel_rfl) : OG P ⟨d,.call { callee:=.builtin .append,args:=#[x,y],argTypes:=#[ty,tn] },t,s,af,gu⟩ n D F w K Q:=by
  simp only[Prod.mk.injEq] at hs
  have h2:=eH hs.2
  exact⟨fun a ha K' hK=>AH bytes rfl rfl (dS he) (xR hk) (by have:=hs.1;unfold mg at this;rw[he] at this;exact this) xs (ha.ev hx) HO k hv (ha.ev hy) h0 hl (by simpa using h2.2) hbase fun A' c' w' hO hu=>hK _ _ _ (h A' c' w' hO hu) (ha.put h2.1)⟩
end
open Go.RowKit
def E0 (w:World)(e:Ending)(w':World) : Prop:=∃ A c,e = .returned (.slice A 0 c)∧cn w.heap.size w' (.slice A 0 c) []∧ap [] w w'
theorem zY{P:Program}(t e:TypeId)(sz:Nat){i:TypeInfo}(ht:P.underlying t=some (.slice e))(hi:P.info? e=some i)(hsz:i.size=sz)(A:Option Addr)(n c:Nat)(hc:n≤c)(kh:IntKind)(W:World) : (Instr.slice t (.slice A n c) none (some (.int kh 0)) none).run P W = .ok (.slice A 0 c) W:=by
  have hel:P.elem t=e:=by simp[Program.elem,ht]
  have hu:P.underlying t=some (.slice (P.elem t)):=by rw[hel];exact ht
  rw[run_slice_h W t A n c hu kh 0 (Int.le_refl _) (by omega),hel]
  cases A<;>simp[sizeOf,typeInfo,hi,hsz,sliced,Result.andThen,Addr.add]
theorem rh{ls:List (List Int)}{k:Nat}{xs:List Int}(hk:k<ls.length)(h:xs=(ls.take k).flatten) : xs++ls.getD k []=(ls.take (k+1)).flatten:=by rw[jQ hk,List.flatten_append,h];simp
theorem iL{ls:List (List Int)}{k:Nat}(hk:k<ls.length) : dH (ls.take (k+1))=dH (ls.take k)+(ls.getD k []).length:=by rw[jQ hk,fd];rfl
theorem lO{ls:List (List Int)}(k:Nat) : dH (ls.take k)≤dH ls:=by
  have h:dH ls=dH (ls.take k)+dH (ls.drop k):=by rw[← fd,List.take_append_drop]
  omega
theorem nR:∀ ls:List (List Int),ls.flatten.length=dH ls
  | []=>rfl
  | x :: t=>by
    rw[List.flatten_cons,List.length_append,nR t]
    rfl
theorem xW{w:World}{n:Int}(hn:0≤n∧n≤4000000) : Calls Tryz.prog 91 #[nS,vI n] w (E0 w):=by
 refine en 27 Tryz.func91 rfl<|ay 1<|sq<|ay 2<|cf (decide_eq_false (show ¬ n<0 by omega))<|sk<|tn<|sq<|au 6<|bA (n-0)<|Pl 1<|dl 2<|cb ((decide (0<(n-0)))) (fun d=>?_) (fun d=>?_)
 have f:=of_decide_eq_true d
 refine go<|Pl 3<|L0<|iq nS (fU (kl:=.i64) (k:=0) (A:=none) (n:=0) (c:=0) rfl Tryz.underlying27 (by kernel_rfl) (by kernel_rfl) (zY (P:=Tryz.prog) 27 5 1 Tryz.underlying27 rfl rfl none 0 0 (Nat.le_refl _) _ _))<|Pl 1<|L0<|CY (xs:=([] : List Int)) (kq:=.i64) (v:=(n-0)) 1 (((n-0)).toNat) (aJ.nil w.heap.size 5 1 jH _) (by omega) (by omega) (by(try simp only[cl]);omega) lr fun a b g e h=>?_
 have i:ap [] w g:=h
 exact Pl 2<|L0<|iq (.slice a 0 b) (fU (kl:=.i64) (k:=0) (A:=a) (n:=(([] : List Int)++List.replicate (((n-0)).toNat) 0).length) (c:=b) rfl Tryz.underlying27 (by kernel_rfl) (by kernel_rfl) (zY (P:=Tryz.prog) 27 5 1 Tryz.underlying27 rfl rfl a ((([] : List Int)++List.replicate (((n-0)).toNat) 0).length) b (aP.cap (e).rd) _ _))<|Pl 1<|dl 2<|rt<|rr (.slice a 0 b)<|⟨_,_,rfl,nK e,i⟩
 have f:=of_decide_eq_false d
 exact bU<|ay 2<|rt<|rr nS<|⟨_,_,rfl,aJ.nil ..,(ap.refl [] _)⟩
theorem pa{m:Md}{A:Option Addr}{cp:Nat}{ls:List (List Int)}{w:World}(h:kC m w (.slice A ls.length cp) ls)(hs:dH ls≤4000000) : Calls Tryz.prog 70 #[.slice A ls.length cp] w (fun e w'=>∃ v,e = .returned v∧cn w.heap.size w' v ls.flatten∧ap [] w w'):=by
 have hz:=aP.len h
 refine en 36 Tryz.func70 rfl<|au 1<|dl 1<|sq<|ay 3<|bk<|?_
 refine js (fun x=>[(0,.slice A ls.length cp),(2,nS),(3,vI x.2),(9,.slice A ls.length cp),(10,vI (ls.length:Int)),(11,vI (x.1:Int))]) (fun(x:Nat × Int) w'=>ap [] w w'∧(x.1≤ls.length)∧(x.2=((dH (ls.take x.1) : Nat) : Int))) (fun x=>ls.length-x.1) (0,0) ⟨ap.refl _ _,(by(try dsimp only);omega),rfl⟩ ?_
 rintro⟨k,z⟩ g ⟨a,r,s⟩
 refine ip [(0,.slice A ls.length cp),(2,nS),(3,vI z),(9,.slice A ls.length cp),(10,vI (ls.length:Int)),(11,vI (k:Int))] ?_
 have a1:k≤ls.length:=r
 have a2:z=((dH (ls.take k) : Nat) : Int):=s
 have hsn:=fun hk=>iL (ls:=ls) (k:=k) hk
 have hsz:=lO (ls:=ls) (k+1)
 refine ay 1<|sq<|cb ((decide ((k:Int)<(ls.length:Int)))) (fun c=>?_) (fun c=>?_)
 have t:=of_decide_eq_true c
 exact bU<|sq<|bk<|sg<|jt (kC.elt h k (by omega)) fun u B C D E F a3 a4 a5=>L0<|pf ls.length k E (by omega)<|L0<|m8 (p:=⟨u,B+k,none⟩) (v:=.slice C ((ls.getD k []).length) D) (uc a F)<|Pl 1<|aS 3<|bA (z+((ls.getD k []).length:Int))<|Pl 1<|dl 2<|cf (decide_eq_false (show ¬ (z+((ls.getD k []).length:Int))<0 by omega))<|sk<|bn<|tn<|go<|bA ((k:Int)+1)<|Pl 1<|nl<|fM ((k+1),(z+((ls.getD k []).length:Int))) ⟨a,(by(try dsimp only);omega),(by(try dsimp only);have y:=hsn (by omega);omega)⟩ (by omega)
 have t:=of_decide_eq_false c
 refine xt<|tx<|tx<|bx<|tn<|au 1<|?_
 have hsz:=lO (ls:=ls) k
 refine aF (args:=#[nS,vI z])<|A8 (xW (n:=z) (by omega)) fun G H I J j=>al 1<|sq<|ay 3<|bk<|?_
 refine js (fun x=>[(2,nS),(6,.slice x.2.2.1 x.2.1.length x.2.2.2),(25,.slice A ls.length cp),(26,vI (ls.length:Int)),(27,vI (x.1:Int))]) (fun(x:Nat × List Int × Option Addr × Nat) w'=>ap [] w w'∧I.heap.size≤w'.heap.size∧cn g.heap.size w' (.slice x.2.2.1 x.2.1.length x.2.2.2) x.2.1∧(x.1≤ls.length)∧(x.2.1=(ls.take x.1).flatten)∧(x.2.1.length=dH (ls.take x.1))) (fun x=>ls.length-x.1) (0,[],G,H) ⟨(aH a j),lr,J,(by(try dsimp only);omega),rfl,rfl⟩ ?_
 rintro⟨i,xs,Ab,cq⟩ K ⟨b,l,L,M,N,O⟩
 refine ip [(2,nS),(6,.slice Ab xs.length cq),(25,.slice A ls.length cp),(26,vI (ls.length:Int)),(27,vI (i:Int))] ?_
 have d:cn g.heap.size K (.slice Ab xs.length cq) xs:=L
 have a6:i≤ls.length:=M
 have o:xs=(ls.take i).flatten:=N
 have a7:xs.length=dH (ls.take i):=O
 refine ay 1<|sq<|cb ((decide ((i:Int)<(ls.length:Int)))) (fun f=>?_) (fun f=>?_)
 have P:=of_decide_eq_true f
 refine bU<|sq<|bk<|sg<|jt (kC.elt h i (by omega)) fun Q S T U V W X a8 a9=>L0<|pf ls.length i V (by omega)<|L0<|m8 (p:=⟨Q,S+i,none⟩) (v:=.slice T ((ls.getD i []).length) U) (uc b W)<|al 1<|go<|Pl 2<|?_
 have hsn:=iL (ls:=ls) (k:=i) (by omega)
 have hsz:=lO (ls:=ls) (i+1)
 refine L0<|i3 (R:=jH) (xs:=xs) (ys:=(ls.getD i [])) (vB 0) 1 1 d (aR.old X b) kL (fun _ _ _ _ h=>h) (by(try simp only[List.length_append]);omega) (le j.size l) fun Y Z aa a0 q ab=>Pl 1<|nl<|bn<|tn<|go<|bA ((i:Int)+1)<|Pl 1<|nl<|?_
 exact fM ((i+1),(xs++(ls.getD i [])),Y,Z) ⟨(ut b q (ah (aT d a.size) aB)),(le l q.size),a0,(by(try dsimp only);omega),(by(try dsimp only);exact rh (by omega) o),(by(try dsimp only);have y:=iL (ls:=ls) (k:=i) (by omega);rw[List.length_append];omega)⟩ (by omega)
 have P:=of_decide_eq_false f
 refine xt<|tx<|tx<|bx<|tn<|ay 2<|rt<|rr (.slice Ab xs.length cq)<|?_
 have hs:xs=ls.flatten:=by rw[o,List.take_of_length_le (by omega)]
 exact⟨_,rfl,by rw[← hs];exact aJ.weaken d a.size,b⟩
theorem rg{m:Md}{v:Value}{ls:List (List Int)}{w:World}(h:kC m w v ls)(hs:dH ls≤4000000) : Calls Tryz.prog 70 #[v] w (fun e w'=>∃ v,e = .returned v∧cn w.heap.size w' v ls.flatten∧ap [] w w'):=by
  obtain⟨A,cp,rfl,_,_⟩:=h.shape
  exact pa h hs
open Go.RowKit
def Dd (r:List Int)(w:World)(e:Ending)(w':World) : Prop:=∃ v,e = .returned v∧cn w.heap.size w' v r∧ap [] w w'
theorem xe{S0 S:XS}{L:List Ev}{ps:List Pc}{k:Nat}(h:(S,L)=XS.run S0 (ps.take k))(hk:ps.length≤k) : (XS.run S0 ps).2=L:=by
  rw[List.take_of_length_le hk] at h
  rw[← h]
theorem tC{A B A2:Option Addr}{m:Nat}(hap:∀ x,x∈ob B→x∉ob A)(hB:∀ x,x∈ob B→x<m)(hat:∀ x,x∈ob A2→x∈ob A∨m≤x) : ∀ x,x∈ob B→x∉ob A2:=fun x hx hx2=>by
  rcases hat x hx2 with k|k
  · exact hap x hx k
  · have:=hB x hx
    omega
theorem uU{A B B2:Option Addr}{m:Nat}(hap:∀ x,x∈ob B→x∉ob A)(hA:∀ x,x∈ob A→x<m)(hat:∀ x,x∈ob B2→x∈ob B∨m≤x) : ∀ x,x∈ob B2→x∉ob A:=fun x hx hx2=>by
  rcases hat x hx with k|k
  · exact hap x k hx2
  · have:=hA x hx2
    omega
theorem tO{a c d:Int}{K L:List Ev}{xs:List Int}(h:xs=(iv a c d K).flatten) : xs++(pj a c d K L).flatten=(iv a c d (K++L)).flatten:=by rw[xQ,List.flatten_append,h]
theorem vi{m:Md}{A:Option Addr}{cp:Nat}{ps:List Pc}{w:World}{a c d:Int}(hk:a=0∨a=1∨a=2)(hc:c=0∨c=1∨c=2)(hd:d=0∨d=1)(h:jY m w (.slice A ps.length cp) ps)(hps:ps.length≤200)(hsum:eR ps≤4000) : Calls Tryz.prog 42 #[vI a,vI c,vI d,.slice A ps.length cp] w (Dd (iv a c d (XS.run (XS.zero a d) ps).2).flatten w):=by
 have hz:=aP.len h
 refine en 33 Tryz.func42 rfl<|au 1<|aS 3<|aF (args:=#[vI a,vI c,vI d])<|(vZ (a:=a) (c:=c) (d:=d) hk hc hd).mono ?_
 rintro _ a9 ⟨i,r,C,W,X,D,rfl,ab,b4,Y,ad,b5,b6,ae,s,Z⟩
 refine⟨_,rfl,?_⟩
 refine al 1<|sq<|ay 2<|c0<|bU<|ay 1<|sq<|ay 3<|bk<|?_
 refine js (fun x=>[(8,nS),(9,vP i 0),(10,.slice x.2.2.2.2.2.2.2.1 x.2.2.2.2.2.2.1.length x.2.2.2.2.2.2.2.2),(19,.slice A ps.length cp),(20,vI (ps.length:Int)),(21,vI (x.1:Int))]) (fun(x:Nat × XS × List Ev × Option Addr × Nat × Nat × List Int × Option Addr × Nat) w'=>ap [] w w'∧a9.heap.size≤w'.heap.size∧aZ x.2.2.2.2.2.1 w.heap.size w' r C x.2.2.2.1 x.2.2.2.2.1 x.2.1∧w8 w' i r W X D a c d x.2.2.1∧cn w.heap.size w' (.slice x.2.2.2.2.2.2.2.1 x.2.2.2.2.2.2.1.length x.2.2.2.2.2.2.2.2) x.2.2.2.2.2.2.1∧(∀ y,y∈ob x.2.2.2.2.2.2.2.1→y∉ob x.2.2.2.1)∧(x.1≤ps.length)∧((x.2.1,x.2.2.1)=XS.run (XS.zero a d) (ps.take x.1))∧(x.2.2.2.2.2.2.1=(iv a c d x.2.2.1).flatten)∧(x.2.2.1.length≤eR (ps.take x.1)+2*x.1)∧(x.2.1.isK a d)∧(x.2.2.2.2.2.2.1.length≤513*x.2.2.1.length)) (fun x=>ps.length-x.1) (0,(XS.zero a d),[],none,0,w.heap.size,[],none,0) ⟨Z,lr,ae,(ej.mk (ej.cell s) (ej.cT s) (ej.cF s) (ej.cN s) (gK (by decide) _)),(aJ.nil w.heap.size _ _ jH _),(fun x hx=>absurd hx (vH x)),(by(try dsimp only);omega),rfl,rfl,(by(try dsimp only);exact Nat.zero_le _),(by(try dsimp only);exact xX hk),(by(try dsimp only);exact Nat.zero_le _)⟩ ?_
 rintro⟨k,S,L,Ah,ch,n,xs,Bq,cq⟩ E ⟨F,a0,af,ag,ai,ak,am,an,ao,aq,ar,av⟩
 refine ip [(8,nS),(9,vP i 0),(10,.slice Bq xs.length cq),(19,.slice A ps.length cp),(20,vI (ps.length:Int)),(21,vI (k:Int))] ?_
 have a1:aZ n w.heap.size E r C Ah ch S:=af
 have t:w8 E i r W X D a c d L:=ag
 have G:cn w.heap.size E (.slice Bq xs.length cq) xs:=ai
 have H:(∀ y,y∈ob Bq→y∉ob Ah):=ak
 have b7:k≤ps.length:=am
 have a2:(S,L)=XS.run (XS.zero a d) (ps.take k):=an
 have a3:xs=(iv a c d L).flatten:=ao
 have b8:L.length≤eR (ps.take k)+2*k:=aq
 have a4:S.isK a d:=ar
 have b9:xs.length≤513*L.length:=av
 refine ay 1<|sq<|cb ((decide ((k:Int)<(ps.length:Int)))) (fun I=>?_) (fun I=>?_)
 have aw:=of_decide_eq_true I
 refine bU<|sq<|bk<|sg<|y5 (jY.elt h k (by omega)) fun ba bb bc bd be J M ax aA N bf aC=>L0<|oO 2 ps.length k ax (by omega)<|?_
 refine L0<|BP [.slice J ((ps.getD k Pc.z).bytes.length) M,.bool ((ps.getD k Pc.z).tick)] (ub F aA) aC<|aL #[nS,.bool false] fun bg bh aD aE O=>aI aE #[.slice J ((ps.getD k Pc.z).bytes.length) M,.bool ((ps.getD k Pc.z).tick)] fun bi aG P=>nt<|go<|Pl 2<|L0<|cH aG<|?_
 have g:=ud O P aD
 have a5:=aH F g
 have Q:=aR.old N a5
 have hpart:=jM (ps:=ps) (k:=k) (by omega)
 have j:=aZ.old a1 g
 have T:=ub g (ej.cell t)
 have U:=ub g (ej.cN t)
 refine pr (XS.take S ((ps.getD k Pc.z).bytes) ((ps.getD k Pc.z).tick)) fun aK o u=>?_
 have bj:=aZ.take_le j (aR.range Q) u
 have aN:=t7 (k:=a) hd j a4 (aR.range Q) u
 refine aF (args:=#[vP i 0,.agg #[.slice J ((ps.getD k Pc.z).bytes.length) M,.bool ((ps.getD k Pc.z).tick)]])<|(u6 (a:=a) (c:=c) (K:=L) u hc hd a4 (ej.mk T (ub g (ej.cT t)) (ub g (ej.cF t)) U (gK (by decide) _)) j Q (xL (aP.low (N)) Y) (fG (aP.low (N)) (aZ.row j) lr) (by omega) (by omega)).mono ?_
 rintro _ bl ⟨bm,aO,aQ,aU,rfl,aV,v,f,aW,bo,B⟩
 refine⟨_,rfl,?_⟩
 have a6:=aV
 obtain⟨bp,bq,rfl,br,bs⟩:=aP.shape a6.rd
 have b:=aj G g (fun x hx=>az) (fun _ _ h=>h)
 have a7:=tC H (pX b) aW
 refine aF<|eU (rg (rj.own a6).rd (Nat.le_trans m9 (by omega))) fun bt bu bv aY bw bz p=>?_
 have a8:=aH B p
 have hgs:=m9 (a:=a) (c:=c) (d:=d) (K:=L) (L:=o)
 refine L0<|i3 (R:=jH) (xs:=xs) (ys:=((pj a c d L o).flatten)) (vB 0) 1 1 (aj b a8 (fun x hx=>(aa (fun e=>(aX T b (by decide)) (e▸hx)) (aa (fun e=>(aX U b (by decide)) (e▸hx)) (aa (fun e=>(aZ.gx j b (by decide)) (e▸hx)) (aM (H x hx) az))))) (fun _ _ h=>h)) (aY).rd kL (fun _ _ _ _ h=>h) (by rw[nR];omega) (le (le (le (le (le Z.size a0) O.size) P.size) B.size) p.size) fun b0 b1 bB b2 V b3=>Pl 1<|nl<|bn<|tn<|go<|bA ((k:Int)+1)<|Pl 1<|nl<|?_
 have q:=ut (ap.mono (S':=(ob Bq++[])) p aB) V (ah il aB)
 have l:=aj b B (fun x hx=>(aa (fun e=>(aX T b (by decide)) (e▸hx)) (aa (fun e=>(aX U b (by decide)) (e▸hx)) (aa (fun e=>(aZ.gx j b (by decide)) (e▸hx)) (aM (H x hx) az))))) (fun _ _ h=>h)
 exact fM ((k+1),aK,(L++o),aO,aQ,aU,(xs++((pj a c d L o).flatten)),b0,b1) ⟨(ut a5 (ut (ap.mono (S':=(i :: (D :: (C :: (ob Ah++(ob Bq++[])))))) a8 (ac im (ac im (ac im (ah il aB))))) V (ah il aB)) (ac (nr ab) (ac (nr ad) (ac (nr Y) (ah (aT (aZ.row a1) lr) (ah (aT G lr) aB)))))),(le (le (le (le (le a0 O.size) P.size) B.size) p.size) V.size),(aZ.upd v q (aM (tQ (aZ.cells v) l (by decide)) az) (aM (aZ.gx v l (by decide)) az) (fun x hx=>(aM ((wy a7) x hx) az))),(ej.mk (ap.blk q (aM (aX (ej.cell f) l (by decide)) az) (ej.cell f)) (ap.blk q (aM (aX (ej.cT f) l (by decide)) az) (ej.cT f)) (ap.blk q (aM (aX (ej.cF f) l (by decide)) az) (ej.cF f)) (ap.blk q (aM (aX (ej.cN f) l (by decide)) az) (ej.cN f)) (gK (by decide) _)),b2,(uU a7 (pX (aj (aZ.row v) p (fun x hx=>az) (fun _ _ h=>h))) b3),(by(try dsimp only);omega),(by(try dsimp only);exact wc (by omega) a2 u),(by(try dsimp only);exact tO a3),(by(try dsimp only);have y:=mL (ps:=ps) (k:=k) (by omega);simp only[List.length_append];omega),(by(try dsimp only);exact aN.1),(by(try dsimp only);rw[List.length_append,List.length_append,nR];have y:=m9 (a:=a) (c:=c) (d:=d) (K:=L) (L:=o);omega)⟩ (by omega)
 have aw:=of_decide_eq_false I
 refine xt<|tx<|tx<|bx<|tn<|ay 2<|rt<|rr (.slice Bq xs.length cq)<|?_
 rw[xe a2 (by omega),← a3]
 exact⟨_,rfl,G,F⟩
theorem wb{m:Md}{v:Value}{ps:List Pc}{w:World}{a c d:Int}(hk:a=0∨a=1∨a=2)(hc:c=0∨c=1∨c=2)(hd:d=0∨d=1)(h:jY m w v ps)(hps:ps.length≤200)(hsum:eR ps≤4000) : Calls Tryz.prog 42 #[.int .i64 a,.int .i64 c,.int .i64 d,v] w (Dd (iv a c d (XS.run (XS.zero a d) ps).2).flatten w):=by
  obtain⟨A,cp,rfl,_,_⟩:=h.shape
  exact vi hk hc hd h hps hsum
open Go.RowKit
def p9:b6:={ b6.zero with code:=7 }
open Go.RowKit
open Go.RowKit
theorem yF{w:World}{g:Nat}{cs:Array Value}{t:TypeId}{fr:Nat × Nat}{ps:List Pc}(hb:w.heap[g]? = some (.cells cs t fr))(hl:ps.length≤maxLen)(h:∀ j,j<ps.length→∃ v,(cs.toList.drop (j*2)).take 2=[v,.bool (ps.getD j Pc.z).tick]∧aR false w v (ps.getD j Pc.z).bytes) : jY false w (.slice (some ⟨g,0,none⟩) ps.length ps.length) ps:=by
  refine⟨_,_,rfl,Nat.le_refl _,hl,(fun e=>by cases e),fun hp=>⟨g,0,cs,t,fr,rfl,hb,(fun e=>by cases e),fun j x hj=>?_⟩⟩
  have hlt:=(List.getElem?_eq_some_iff.1 hj).1
  obtain⟨v,h1,h2⟩:=h j hlt
  have hx:ps.getD j Pc.z=x:=by rw[List.getD_eq_getElem?_getD,hj];rfl
  rw[hx] at h1 h2
  refine⟨[v,.bool x.tick],rfl,⟨v,rfl,h2⟩,fun i u hi=>?_⟩
  rw[← h1] at hi
  rw[List.getElem?_take] at hi
  split at hi
  · rw[List.getElem?_drop] at hi
    rw[Nat.zero_add,← Array.getElem?_toList]
    exact hi
  · cases hi
theorem BY{m m':Md}{w:World}{g:Nat}{t:TypeId}{fr:Nat × Nat}{v v':Value}{p p':Pc}(hb:w.heap[g]? = some (.cells #[v,.bool p.tick,v',.bool p'.tick] t fr))(h:aR m w v p.bytes)(h':aR m' w v' p'.bytes) : jY false w (.slice (some ⟨g,0,none⟩) 2 2) [p,p']:=by
  refine yF (ps:=[p,p']) hb (by unfold maxLen;simp) fun j hj=>?_
  match j,hj with
  | 0,_=>exact⟨v,rfl,aP.any h fun _ _ q=>q⟩
  | 1,_=>exact⟨v',rfl,aP.any h' fun _ _ q=>q⟩
theorem yO{n:Nat}{w0 w:World}{g:Nat}{cs:Array Value}{ps:List Pc}(hg:w0.heap.size≤g)(hb:w.heap[g]? = some (.cells cs 70 (0,0)))(hl:ps.length≤4)(hs:cs.toList.length=ps.length*2)(h:∀ j,j<ps.length→iu n w (ps.getD j Pc.z) ((cs.toList.drop (j*2)).take 2)) : iR n w0.heap.size w (.slice (some ⟨g,0,none⟩) ps.length ps.length) ps:=by
  refine⟨cs.toList,⟨hs,.inr ⟨g,ps.length,cs,rfl,hg,hb,Nat.le_refl _,by unfold maxLen;omega,by simpa using hs,by rw[List.take_of_length_le];exact Nat.le_of_eq hs⟩⟩,fun j x hj=>?_⟩
  have hlt:=(List.getElem?_eq_some_iff.1 hj).1
  have hx:ps.getD j Pc.z=x:=by rw[List.getD_eq_getElem?_getD,hj];rfl
  have k:=h j hlt
  rw[hx] at k
  have kl:((cs.toList.drop (j*2)).take 2).length=2:=by rw[List.length_take,List.length_drop];omega
  refine⟨_,kl,k,fun i u hi=>?_⟩
  rw[List.getElem?_take] at hi
  split at hi
  · rw[List.getElem?_drop] at hi;exact hi
  · cases hi
theorem x6{n:Nat}{w0 w:World}{g:Nat}{v0 v1:Value}{p0 p1:Pc}(hg:w0.heap.size≤g)(hb:w.heap[g]? = some (.cells #[v0,.bool p0.tick,v1,.bool p1.tick] 70 (0,0)))(h0:iu n w p0 [v0,.bool p0.tick])(h1:iu n w p1 [v1,.bool p1.tick]) : iR n w0.heap.size w (.slice (some ⟨g,0,none⟩) 2 2) [p0,p1]:=by
  refine yO (ps:=[p0,p1]) hg hb (by simp) rfl fun j hj=>?_
  match j,hj with
  | 0,_=>exact h0
  | 1,_=>exact h1
theorem uv{m:Md}{v:Value}{ps:List Pc}{w:World}(h:jY m w v ps)(hbb:∀ p,p∈ps→p.bytes.length≤140737488355328)(hps:ps.length≤4398046511104) : Calls Tryz.prog 33 #[v] w (bH (.bool (gR (ps.map Pc.bytes))) w):=by
  obtain⟨A,cp,rfl,_,_⟩:=h.shape
  exact qW h hps hbb
open Go.RowKit
theorem Ct{α:Type}{P:Prop}(x:α)(k:∀ r,x=r→P) : P:=k x rfl
theorem fm{m:Md}{v:Value}{ps:List Pc}{w:World}{a c d:Int}{r:List Int}(hX:(iv a c d (XS.run (XS.zero a d) ps).2).flatten=r)(hk:a=0∨a=1∨a=2)(hc:c=0∨c=1∨c=2)(hd:d=0∨d=1)(h:jY m w v ps)(hps:ps.length≤200)(hsum:eR ps≤4000) : Calls Tryz.prog 42 #[.int .i64 a,.int .i64 c,.int .i64 d,v] w (Dd r w):=by
  have k:=wb hk hc hd h hps hsum
  rw[hX] at k
  exact k
theorem C6:eQ 0 [1,7,65,226]=(⟨1,0,p9⟩,0):=by decide +kernel
theorem BN:(XS.r (SS.mk 0 [] false)).take [1,7,65,226] true=(XS.r (SS.mk 0 [] false),[⟨0,⟨1,0,p9⟩⟩]):=by
  have e1:(SS.mk 0 [] false).feed [1,7,65,226]=(SS.mk 0 [1,7,65,226] false,[]):=rfl
  have e2:(SS.mk 0 [1,7,65,226] false).tick=(SS.mk 0 [] false,[⟨0,⟨1,0,p9⟩⟩]):=by
    unfold SS.tick
    rw[if_neg (by decide),C6]
  show(XS.r ((SS.mk 0 [] false).feed [1,7,65,226]).1.tick.1,((SS.mk 0 [] false).feed [1,7,65,226]).2++((SS.mk 0 [] false).feed [1,7,65,226]).1.tick.2)=_
  rw[e1,e2]
  rfl
theorem C5:(XS.run (XS.zero 0 0) [Pc.mk [1,7,65,226] true,Pc.mk [1,7,65,226] true]).2=[⟨0,⟨1,0,p9⟩⟩,⟨0,⟨1,0,p9⟩⟩]:=by
  have g1:(XS.r (SS.mk 0 [] false)).run [Pc.mk [1,7,65,226] true]=(XS.r (SS.mk 0 [] false),[⟨0,⟨1,0,p9⟩⟩]):=(oa _ _).trans BN
  rw[show[Pc.mk [1,7,65,226] true,Pc.mk [1,7,65,226] true]=[Pc.mk [1,7,65,226] true]++[Pc.mk [1,7,65,226] true] from rfl,show(XS.zero 0 0)=XS.r (SS.mk 0 [] false) from rfl,kP,g1]
  show[_]++((XS.r (SS.mk 0 [] false)).run [Pc.mk [1,7,65,226] true]).2=_
  rw[g1]
  rfl
theorem BC:(iv 0 2 0 [⟨0,⟨1,0,p9⟩⟩,⟨0,⟨1,0,p9⟩⟩]).flatten=[0,0,0,0,0,2,1,7,0,1,0,0,0,2,1,7]:=by decide +kernel
theorem D3:(iv 0 2 0 (XS.run (XS.zero 0 0) [Pc.mk [1,7,65,226] true,Pc.mk [1,7,65,226] true]).2).flatten=[0,0,0,0,0,2,1,7,0,1,0,0,0,2,1,7]:=by rw[C5,BC]
theorem zt{w:World}:Calls Tryz.prog 41 #[] w (bH (.bool true) w):=by
 refine en 12 Tryz.func41 rfl<|au 1<|ng<|L0<|dv (m:=4) (e:=5) #[vB 1,vB 7,vB 65,vB 226] fun d G k l o=>?_
 have q:=dF k (xs:=[1,7,65,226]) (by as_aux_lemma=>kernel_rfl) (am (by omega) (am (by omega) (am (by omega) (am (by omega) aY)))) (by(try simp only[List.length_cons,List.length_nil]);omega) l
 refine Pl 1<|aL #[nS,.bool false] fun H I r s t=>aI s #[.slice (some ⟨d,0,none⟩) 4 4,.bool true] fun J f u=>ng<|L0<|cH f<|L0<|cH f<|L0<|dv (m:=2) (e:=70) #[.slice (some ⟨d,0,none⟩) 4 4,.bool true,.slice (some ⟨d,0,none⟩) 4 4,.bool true] fun v K L y z=>?_
 have g:=ud t (aH u z) r
 have i:=aj q g (fun x hx=>az) (fun _ _ h=>h)
 have B:=BY (p:=(Pc.mk ([1,7,65,226]) true)) (p':=(Pc.mk ([1,7,65,226]) true)) y (i).rd (i).rd
 refine aF (args:=#[vI 0,vI 2,vI 0,.slice (some ⟨v,0,none⟩) 2 2])<|e2 (fm D3 (show 0=0∨0=1∨0=2 by decide) (show 2=0∨2=1∨2=2 by decide) (show 0=0∨0=1 by decide) B (by decide) (by decide)) fun M N C D=>?_
 have j:=(C).rd
 obtain⟨E,F,rfl,O,P⟩:=aP.shape j
 refine Pl 1<|aS 1<|L0<|iq (.string (strOfNums ([0,0,0,0,0,2,1,7,0,1,0,0,0,2,1,7]))) (ck (A:=E) (n:=([0,0,0,0,0,2,1,7,0,1,0,0,0,2,1,7]).length) (c:=F) rfl (by kernel_rfl) Tryz.underlying27 Tryz.underlying5 Tryz.underlying9 j)<|L0<|iq (.bool true) (e8 (a:=(strOfNums ([0,0,0,0,0,2,1,7,0,1,0,0,0,2,1,7]))) (b:=⟨#[0,0,0,0,0,2,1,7,0,1,0,0,0,2,1,7]⟩) rfl (by kernel_rfl) (by kernel_rfl) (zi rfl (by decide)))<|al 1<|rt<|rr (.bool true)<|?_
 exact⟨rfl,(aH o (aH g D))⟩
open Go.RowKit
theorem sn{m m':Md}{A B:Option Addr}{c d:Nat}{xs ys:List Int}{w:World}(h1:aR m w (.slice A xs.length c) xs)(h2:aR m' w (.slice B ys.length d) ys) :
    Calls Tryz.prog 29 #[.slice A xs.length c,.slice B ys.length d] w (bH (.bool (decide (xs=ys))) w):=by
 exact en 10 Tryz.func29 rfl<|au 1<|aS 1<|L0<|iq (.string (strOfNums xs)) (ck (A:=A) (n:=xs.length) (c:=c) rfl (by kernel_rfl) Tryz.underlying27 Tryz.underlying5 Tryz.underlying9 h1)<|Pl 1<|L0<|iq (.string (strOfNums ys)) (ck (A:=B) (n:=ys.length) (c:=d) rfl (by kernel_rfl) Tryz.underlying27 Tryz.underlying5 Tryz.underlying9 h2)<|L0<|iq (.bool (decide (xs=ys))) (e8 (a:=(strOfNums xs)) (b:=(strOfNums ys)) rfl (by kernel_rfl) (by kernel_rfl) (iF h1 h2))<|Pl 1<|nl<|tn<|rt<|rr (.bool (decide (xs=ys)))<|⟨rfl,(ap.refl [] _)⟩
theorem mV{m m':Md}{a b:Value}{xs ys:List Int}{w:World}(h1:aR m w a xs)(h2:aR m' w b ys) : Calls Tryz.prog 29 #[a,b] w (bH (.bool (decide (xs=ys))) w):=by
  obtain⟨A,c,rfl,_,_⟩:=h1.shape
  obtain⟨B,d,rfl,_,_⟩:=h2.shape
  exact sn h1 h2
open Go.RowKit
open Go.RowKit
open Go.RowKit
deriving instance DecidableEq for Ev
open Go.RowKit
theorem ug{n:Nat}{A:Option Addr}{cp:Nat}{ps:List Pc}{w:World}(h:aP false 70 2 (iu n) w (.slice A ps.length cp) ps)(hn:n≤w.heap.size)(hps:ps.length≤1048576) : Calls Tryz.prog 43 #[.slice A ps.length cp] w (fun e w'=>∃ v,e = .returned v∧iR n w.heap.size w' v ps∧ap [] w w'):=by
 have hz:=aP.len h
 refine en 26 Tryz.func43 rfl<|au 1<|dl 1<|sq<|ay 1<|bk<|?_
 refine js (fun x=>[(0,.slice A ps.length cp),(2,nS),(3,.slice x.2.2.1 x.2.1.length x.2.2.2),(4,vI (x.1:Int))]) (fun(x:Nat × List Pc × Option Addr × Nat) w'=>ap [] w w'∧aJ w.heap.size 70 2 (iu n) w' (.slice x.2.2.1 x.2.1.length x.2.2.2) x.2.1∧(x.1≤ps.length)∧(x.2.1.length≤x.1)∧(x.2.1=ps.take x.1)) (fun x=>ps.length-x.1) (0,[],none,0) ⟨ap.refl _ _,(aJ.nil w.heap.size _ _ (iu n) _),(by(try dsimp only);omega),(by(try dsimp only);exact Nat.le_refl _),rfl⟩ ?_
 rintro⟨k,L,B,cq⟩ I ⟨l,J,K,M,N⟩
 refine ip [(0,.slice A ps.length cp),(2,nS),(3,.slice B L.length cq),(4,vI (k:Int))] ?_
 have c:aJ w.heap.size 70 2 (iu n) I (.slice B L.length cq) L:=J
 have X:k≤ps.length:=K
 have Y:L.length≤k:=M
 have o:L=ps.take k:=N
 refine sq<|ay 4<|cb ((decide ((k:Int)<(ps.length:Int)))) (fun d=>?_) (fun d=>?_)
 have O:=of_decide_eq_true d
 refine bU<|sq<|bk<|y5 (RdPn.elt h k (by omega)) fun q r Z a0 a1 s t u y P a2 b=>Rg 15 (fun w'=>w'.cell? ⟨q,r+k*2+0,none⟩=some (.slice s ((ps.getD k Pc.z).bytes.length) t)∧w'.cell? ⟨q,r+k*2+1,none⟩=some (.bool ((ps.getD k Pc.z).tick))) fun a3 C=>?_
 have D:=aH l C
 have f:=ub D y
 refine b9 ⟨(fc f b 0 rfl (by decide)),(fc f b 1 rfl (by decide))⟩ fun a=>Rt 0 a<|Rt 1 a<|Rt 2 a<|Ri 3 a 2 ps.length k (k:Int) rfl u (by omega)<|Rt 4 a<|Rl 5 a (fun _ hs=>hs.1)<|Rt 6 a<|Rt 7 a<|Ri 8 a 2 ps.length k (k:Int) rfl u (by omega)<|Rt 9 a<|Rl 10 a (fun _ hs=>hs.2)<|Rt 11 a<|R0 12 rfl<|dv (m:=1) (e:=70) #[.slice s ((ps.getD k Pc.z).bytes.length) t,.bool ((ps.getD k Pc.z).tick)] fun a4 a5 Q R g=>?_
 have i:=aH D g
 have S:=Dc (n:=n) (p:=(Pc.mk ((ps.getD k Pc.z).bytes) ((ps.getD k Pc.z).tick))) Q R (⟨_,rfl,kN.upd i (fun x hx=>by cases hx) P⟩)
 have j:=ub g f
 refine b9 ⟨(fc j b 0 rfl (by decide)),(fc j b 1 rfl (by decide))⟩ fun a6=>?_
 have E:=aH C g
 have F:=aj c E (fun x hx=>az) (iu.upd E (fun x hx=>by cases hx))
 refine R0 13 rfl<|i3 (xs:=L) (ys:=([Pc.mk ((ps.getD k Pc.z).bytes) ((ps.getD k Pc.z).tick)])) (.agg #[nS,.bool false]) 2 32 F (S).rd iu.ones (fun w' hv=>iu.upd hv (ah (fun x hx=>Nat.le_trans hn (Nat.le_trans lr (fD F x hx))) aB)) (by(try simp only[cl,aq]);omega) i.size fun T U a7 V G a8=>?_
 have H:=ap.blk G (aM (aD (ai y) lr c) az) j
 refine b9 ⟨(fc H b 0 rfl (by decide)),(fc H b 1 rfl (by decide))⟩ fun W=>Rt 14 W<|re<|bn<|tn<|go<|Pl 1<|bA ((k:Int)+1)<|Pl 1<|nl<|?_
 exact fM ((k+1),(L++[Pc.mk ((ps.getD k Pc.z).bytes) ((ps.getD k Pc.z).tick)]),T,U) ⟨(ut i G (ah (aT c lr) aB)),V,(by(try dsimp only);omega),(by(try dsimp only);simp only[cl];omega),(by(try dsimp only);exact zM o (by omega))⟩ (by omega)
 have O:=of_decide_eq_false d
 refine xt<|tx<|tx<|bx<|tn<|ay 2<|rt<|rr (.slice B L.length cq)<|?_
 have hs:L=ps:=by rw[o,List.take_of_length_le (by omega)]
 exact⟨_,rfl,by rw[← hs];exact c,l⟩
theorem jf{n:Nat}{v:Value}{ps:List Pc}{w:World}(h:aP false 70 2 (iu n) w v ps)(hn:n≤w.heap.size)(hps:ps.length≤1048576) : Calls Tryz.prog 43 #[v] w (fun e w'=>∃ v,e = .returned v∧iR n w.heap.size w' v ps∧ap [] w w'):=by
  obtain⟨A,cp,rfl,_,_⟩:=h.shape
  exact ug h hn hps
open Go.RowKit
theorem oT{w:World}{fr to_ at_:Int}{ans:Bool}(hfr:0≤fr∧fr<256)(hto:0≤to_∧to_<256)(hat:0≤at_∧at_<256){mA:Md}{A:Option Addr}{cpA:Nat}{ps:List Pc}(hA:jY mA w (.slice A ps.length cpA) ps)(hpb:∀ p,p∈ps→p.bytes.length≤140737488355328)(hpl:ps.length≤4398046511104) :
    Calls Tryz.prog 8 #[vB fr,vB to_,.bool ans,.slice A ps.length cpA,vB at_] w (bH (.bool true) w):=by
 have hzA:=aP.len hA
 refine en 81 Tryz.func8 rfl<|au 1<|ng<|aF<|m1 (@zt _) fun bY W=>Pl 1<|aS 1<|?_
 refine aF<|m1 (uv (jY.old hA W) hpb hpl) fun X aQ=>al 1<|sq<|ay 2<|?_
 have G:=aH W aQ
 refine cb ((!(gR (ps.map Pc.bytes)))) (fun H=>?_) (fun H=>?_)
 have I:(gR (ps.map Pc.bytes))=false:=by simpa using H
 exact ay 2<|bJ<|rr (.bool true)<|⟨rfl,G⟩
 have I:(gR (ps.map Pc.bytes))=true:=by simpa using H
 refine bU<|ay 1<|sq<|ay 1<|cb (ans) (fun aU=>?_) (fun aU=>?_)
 refine go<|Pl 1<|dl 1<|sq<|au 1<|nl<|tn<|bk<|?_
 obtain⟨hf1,hf2⟩:=vK I
 refine js (fun x=>[(0,vB fr),(1,vB to_),(3,.slice A ps.length cpA),(4,vB at_),(10,.bool false),(11,.bool true),(13,vI 1),(14,.slice x.2.2.1 x.2.1.length x.2.2.2),(15,vI (x.1:Int))]) (fun(x:Nat × List Pc × Option Addr × Nat) w'=>ap [] w w'∧X.heap.size≤w'.heap.size∧iR w.heap.size w.heap.size w' (.slice x.2.2.1 x.2.1.length x.2.2.2) x.2.1∧(x.1≤ps.length)∧(x.2.1.length≤2*x.1)∧(x.2.1=(ps.take x.1).flatMap (kD at_))) (fun x=>ps.length-x.1) (0,[],none,0) ⟨G,lr,(aJ.nil w.heap.size _ _ (iu w.heap.size) _),(by(try dsimp only);omega),(by(try dsimp only);exact Nat.le_refl _),rfl⟩ ?_
 rintro⟨k,Lc,B,cq⟩ aV ⟨h,aW,aX,aY,aZ,b0⟩
 refine ip [(0,vB fr),(1,vB to_),(3,.slice A ps.length cpA),(4,vB at_),(10,.bool false),(11,.bool true),(13,vI 1),(14,.slice B Lc.length cq),(15,vI (k:Int))] ?_
 have t:iR w.heap.size w.heap.size aV (.slice B Lc.length cq) Lc:=aX
 have bZ:k≤ps.length:=aY
 have c0:Lc.length≤2*k:=aZ
 have Y:Lc=(ps.take k).flatMap (kD at_):=b0
 refine sq<|ay 4<|cb ((decide ((k:Int)<(ps.length:Int)))) (fun J=>?_) (fun J=>?_)
 have b1:=of_decide_eq_true J
 refine bU<|sq<|bk<|au 2<|y5 (jY.elt hA k (by omega)) fun Z a0 c1 c2 c3 i d a1 a2 a3 c4 u=>?_
 have hpart:=jM (ps:=ps) (k:=k) (by omega)
 refine L0<|oO 2 ps.length k a1 (by omega)<|Pl 1<|?_
 have a4:=ub h a2
 refine L0<|m8 (p:=⟨Z,a0+k*2+0,none⟩) (v:=.slice i ((ps.getD k Pc.z).bytes.length) d) (fc a4 u 0 rfl (by decide))<|Pl 1<|aS 1<|bA at_<|Pl 2<|bA ((((ps.getD k Pc.z).bytes.length:Nat) : Int)+1)<|?_
 have c5:=sS (x:=at_) (y:=((((ps.getD k Pc.z).bytes.length:Nat) : Int)+1)) (by omega)
 refine L0<|iq (vI (at_%((((ps.getD k Pc.z).bytes.length:Nat) : Int)+1))) (sx rfl (by kernel_rfl) (by kernel_rfl) (by omega) (by omega))<|al 1<|Rg 17 (fun w'=>w'.cell? ⟨Z,a0+k*2+1,none⟩=some (.bool ((ps.getD k Pc.z).tick))) fun c6 K=>?_
 have a5:=ub K a4
 refine b9 (fc a5 u 1 rfl (by decide)) fun a=>Rt 0 a<|Rt 1 a<|Rt 2 a<|qN (th (P:=Tryz.prog) 27 5 1 Tryz.underlying27 rfl rfl i ((ps.getD k Pc.z).bytes.length) d (k:=(at_%((((ps.getD k Pc.z).bytes.length:Nat) : Int)+1))) (((at_%((((ps.getD k Pc.z).bytes.length:Nat) : Int)+1))).toNat) (by omega) (by omega) (by omega)) fun a6 hrun89 b2=>Rr 3 a (.slice a6 (((at_%((((ps.getD k Pc.z).bytes.length:Nat) : Int)+1))).toNat) d) (fun _ _=>fU (kl:=.i64) (k:=(at_%((((ps.getD k Pc.z).bytes.length:Nat) : Int)+1))) (A:=i) (n:=(ps.getD k Pc.z).bytes.length) (c:=d) rfl Tryz.underlying27 (by kernel_rfl) (by kernel_rfl) (hrun89 _ _))<|Rt 4 a<|Rt 5 a<|Rt 6 a<|qN (io (P:=Tryz.prog) 27 5 1 Tryz.underlying27 rfl rfl i ((ps.getD k Pc.z).bytes.length) d (lo:=(at_%((((ps.getD k Pc.z).bytes.length:Nat) : Int)+1))) (((at_%((((ps.getD k Pc.z).bytes.length:Nat) : Int)+1))).toNat) (by omega) (by omega)) fun a7 hrun92 b3=>Rr 7 a (.slice a7 (((ps.getD k Pc.z).bytes.length)-(((at_%((((ps.getD k Pc.z).bytes.length:Nat) : Int)+1))).toNat)) (d-(((at_%((((ps.getD k Pc.z).bytes.length:Nat) : Int)+1))).toNat))) (fun _ _=>e7 (kl:=.i64) (k:=(at_%((((ps.getD k Pc.z).bytes.length:Nat) : Int)+1))) (A:=i) (n:=(ps.getD k Pc.z).bytes.length) (c:=d) rfl Tryz.underlying27 (by kernel_rfl) (by kernel_rfl) (hrun92 _ _))<|Rt 8 a<|Rt 9 a<|Ri 10 a 2 ps.length k (k:Int) rfl a1 (by omega)<|Rt 11 a<|Rl 12 a (fun _ hs=>hs)<|Rt 13 a<|R0 14 rfl<|dv (m:=2) (e:=70) #[.slice a6 (((at_%((((ps.getD k Pc.z).bytes.length:Nat) : Int)+1))).toNat) d,.bool false,.slice a7 (((ps.getD k Pc.z).bytes.length)-(((at_%((((ps.getD k Pc.z).bytes.length:Nat) : Int)+1))).toNat)) (d-(((at_%((((ps.getD k Pc.z).bytes.length:Nat) : Int)+1))).toNat)),.bool ((ps.getD k Pc.z).tick)] fun c7 c8 b4 b5 L=>?_
 have M:=aH K L
 have C:=aH h M
 have b6:=x6 (n:=w.heap.size) (p0:=(Pc.mk (((ps.getD k Pc.z).bytes).take (((at_%((((ps.getD k Pc.z).bytes.length:Nat) : Int)+1))).toNat)) false)) (p1:=(Pc.mk (((ps.getD k Pc.z).bytes).drop (((at_%((((ps.getD k Pc.z).bytes.length:Nat) : Int)+1))).toNat)) ((ps.getD k Pc.z).tick))) b4 b5 (⟨_,rfl,kN.upd C (fun x hx=>by cases hx) (kN.of ((b2 _ _ _ _ _ a3)))⟩) (⟨_,rfl,kN.upd C (fun x hx=>by cases hx) (kN.of ((b3 _ _ _ _ _ a3)))⟩)
 have a8:=ub L a5
 refine b9 (fc a8 u 1 rfl (by decide)) fun c9=>?_
 have a9:=aj t M (fun x hx=>az) (iu.upd M (fun x hx=>by cases hx))
 refine R0 15 rfl<|i3 (xs:=Lc) (ys:=([Pc.mk (((ps.getD k Pc.z).bytes).take (((at_%((((ps.getD k Pc.z).bytes.length:Nat) : Int)+1))).toNat)) false,Pc.mk (((ps.getD k Pc.z).bytes).drop (((at_%((((ps.getD k Pc.z).bytes.length:Nat) : Int)+1))).toNat)) ((ps.getD k Pc.z).tick)])) (.agg #[nS,.bool false]) 2 32 a9 (b6).rd iu.ones (fun w' hv=>iu.upd hv (ah (fun x hx=>Nat.le_trans lr (fD a9 x hx)) aB)) (by(try simp only[cl,aq]);omega) C.size fun b7 b8 ca ba N cc=>?_
 refine b9 (fc (ap.blk N (aM (aD (ai a2) lr t) az) a8) u 1 rfl (by decide)) fun bb=>Rt 16 bb<|re<|bn<|tn<|go<|Pl 1<|bA ((k:Int)+1)<|Pl 1<|nl<|?_
 exact fM ((k+1),(Lc++[Pc.mk (((ps.getD k Pc.z).bytes).take (((at_%((((ps.getD k Pc.z).bytes.length:Nat) : Int)+1))).toNat)) false,Pc.mk (((ps.getD k Pc.z).bytes).drop (((at_%((((ps.getD k Pc.z).bytes.length:Nat) : Int)+1))).toNat)) ((ps.getD k Pc.z).tick)]),b7,b8) ⟨(ut C N (ah (aT t lr) aB)),(le (le (le aW K.size) L.size) N.size),ba,(by(try dsimp only);omega),(by(try dsimp only);simp only[cl];omega),(by(try dsimp only);exact mS (f:=kD at_) (by omega) Y)⟩ (by omega)
 have b1:=of_decide_eq_false J
 refine xt<|tx<|tx<|bx<|tn<|au 3<|L1<|Oe (vB (Int.tmod fr 3)) (vB (fr%3)) (congrArg (Value.int .u8) (Int.tmod_eq_emod_of_nonneg (by omega)))<|L1<|Oi (fr%3)<|Pl 1<|L1<|Oe (vB (Int.tmod to_ 3)) (vB (to_%3)) (congrArg (Value.int .u8) (Int.tmod_eq_emod_of_nonneg (by omega)))<|L1<|Oi (to_%3)<|Pl 2<|L1<|Oc<|e2 (jf (RdPn.old (jY.n hA) h) h.size (by omega)) fun cd ce bc bd=>?_
 have aa:=iR.any bc
 obtain⟨be,bf,rfl,cf,cg⟩:=aP.shape aa
 refine Ct ((iv (fr%3) (to_%3) 1 (XS.run (XS.zero (fr%3) 1) ps).2).flatten) fun j ab=>?_
 refine L1<|Oc (args:=#[vI (fr%3),vI (to_%3),vI 1,.slice be ps.length bf])<|e2 (fm ab (ke _) (ke _) (show 1=0∨1=1 by decide) aa (by omega) (by omega)) fun ch ci bg bh=>?_
 have ac:=(bg).rd
 obtain⟨bi,bj,rfl,cj,ck⟩:=aP.shape ac
 refine Pl 1<|L1<|Oe (vB (Int.tmod fr 3)) (vB (fr%3)) (congrArg (Value.int .u8) (Int.tmod_eq_emod_of_nonneg (by omega)))<|L1<|Oi (fr%3)<|Pl 1<|L1<|Oe (vB (Int.tmod to_ 3)) (vB (to_%3)) (congrArg (Value.int .u8) (Int.tmod_eq_emod_of_nonneg (by omega)))<|L1<|Oi (to_%3)<|Pl 2<|Ct ((iv (fr%3) (to_%3) 1 (XS.run (XS.zero (fr%3) 1) Lc).2).flatten) fun l ad=>?_
 have hLc:Lc=ps.flatMap (kD at_):=by rw[Y,List.take_of_length_le (by omega)]
 have O:=aH bd bh
 refine L1<|Oc (args:=#[vI (fr%3),vI (to_%3),vI 1,.slice B Lc.length cq])<|e2 (fm ad (ke _) (ke _) (show 1=0∨1=1 by decide) (iR.any (aj t O (fun x hx=>az) (iu.upd O (fun x hx=>by cases hx)))) (by omega) (by rw[hLc,kX (oW at_)];omega)) fun cm cn bl ae=>?_
 have af:=(bl).rd
 obtain⟨bm,bo,rfl,co,cp⟩:=aP.shape af
 refine L1<|Oc (args:=#[.slice bi j.length bj,.slice bm l.length bo])<|m1 (mV (xs:=j) (ys:=l) (aR.old ac ae) af) fun cr bp=>al 2<|rt<|rr (.bool (decide (j=l)))<|?_
 have hs:(decide (j=l))=true:=by have z:j=l:=(by rw[← ab,← ad,hLc,lm (ot at_)]);rw[z];simp
 rw[hs]
 exact⟨rfl,(aH h (aH O (aH ae bp)))⟩
 refine bU<|ay 1<|sq<|ay 1<|bk<|?_
 obtain⟨hf1,hf2⟩:=vK I
 refine js (fun x=>[(0,vB fr),(1,vB to_),(3,.slice A ps.length cpA),(4,vB at_),(10,.bool false),(11,.bool true),(13,vI 0),(14,.slice x.2.2.1 x.2.1.length x.2.2.2),(15,vI (x.1:Int))]) (fun(x:Nat × List Pc × Option Addr × Nat) w'=>ap [] w w'∧X.heap.size≤w'.heap.size∧iR w.heap.size w.heap.size w' (.slice x.2.2.1 x.2.1.length x.2.2.2) x.2.1∧(x.1≤ps.length)∧(x.2.1.length≤2*x.1)∧(x.2.1=(ps.take x.1).flatMap (kD at_))) (fun x=>ps.length-x.1) (0,[],none,0) ⟨G,lr,(aJ.nil w.heap.size _ _ (iu w.heap.size) _),(by(try dsimp only);omega),(by(try dsimp only);exact Nat.le_refl _),rfl⟩ ?_
 rintro⟨k,Lc,B,cq⟩ bq ⟨o,br,bs,bt,bu,bv⟩
 refine ip [(0,vB fr),(1,vB to_),(3,.slice A ps.length cpA),(4,vB at_),(10,.bool false),(11,.bool true),(13,vI 0),(14,.slice B Lc.length cq),(15,vI (k:Int))] ?_
 have D:iR w.heap.size w.heap.size bq (.slice B Lc.length cq) Lc:=bs
 have cs:k≤ps.length:=bt
 have ct:Lc.length≤2*k:=bu
 have ag:Lc=(ps.take k).flatMap (kD at_):=bv
 refine sq<|ay 4<|cb ((decide ((k:Int)<(ps.length:Int)))) (fun Q=>?_) (fun Q=>?_)
 have bw:=of_decide_eq_true Q
 refine bU<|sq<|bk<|au 2<|y5 (jY.elt hA k (by omega)) fun ak am cu cv cw q g an ao ar cx E=>?_
 have hpart:=jM (ps:=ps) (k:=k) (by omega)
 refine L0<|oO 2 ps.length k an (by omega)<|Pl 1<|?_
 have av:=ub o ao
 refine L0<|m8 (p:=⟨ak,am+k*2+0,none⟩) (v:=.slice q ((ps.getD k Pc.z).bytes.length) g) (fc av E 0 rfl (by decide))<|Pl 1<|aS 1<|bA at_<|Pl 2<|bA ((((ps.getD k Pc.z).bytes.length:Nat) : Int)+1)<|?_
 have cy:=sS (x:=at_) (y:=((((ps.getD k Pc.z).bytes.length:Nat) : Int)+1)) (by omega)
 refine L0<|iq (vI (at_%((((ps.getD k Pc.z).bytes.length:Nat) : Int)+1))) (sx rfl (by kernel_rfl) (by kernel_rfl) (by omega) (by omega))<|al 1<|Rg 17 (fun w'=>w'.cell? ⟨ak,am+k*2+1,none⟩=some (.bool ((ps.getD k Pc.z).tick))) fun cz R=>?_
 have aw:=ub R av
 refine b9 (fc aw E 1 rfl (by decide)) fun b=>Rt 0 b<|Rt 1 b<|Rt 2 b<|qN (th (P:=Tryz.prog) 27 5 1 Tryz.underlying27 rfl rfl q ((ps.getD k Pc.z).bytes.length) g (k:=(at_%((((ps.getD k Pc.z).bytes.length:Nat) : Int)+1))) (((at_%((((ps.getD k Pc.z).bytes.length:Nat) : Int)+1))).toNat) (by omega) (by omega) (by omega)) fun ax hrun224 bz=>Rr 3 b (.slice ax (((at_%((((ps.getD k Pc.z).bytes.length:Nat) : Int)+1))).toNat) g) (fun _ _=>fU (kl:=.i64) (k:=(at_%((((ps.getD k Pc.z).bytes.length:Nat) : Int)+1))) (A:=q) (n:=(ps.getD k Pc.z).bytes.length) (c:=g) rfl Tryz.underlying27 (by kernel_rfl) (by kernel_rfl) (hrun224 _ _))<|Rt 4 b<|Rt 5 b<|Rt 6 b<|qN (io (P:=Tryz.prog) 27 5 1 Tryz.underlying27 rfl rfl q ((ps.getD k Pc.z).bytes.length) g (lo:=(at_%((((ps.getD k Pc.z).bytes.length:Nat) : Int)+1))) (((at_%((((ps.getD k Pc.z).bytes.length:Nat) : Int)+1))).toNat) (by omega) (by omega)) fun aA hrun227 bB=>Rr 7 b (.slice aA (((ps.getD k Pc.z).bytes.length)-(((at_%((((ps.getD k Pc.z).bytes.length:Nat) : Int)+1))).toNat)) (g-(((at_%((((ps.getD k Pc.z).bytes.length:Nat) : Int)+1))).toNat))) (fun _ _=>e7 (kl:=.i64) (k:=(at_%((((ps.getD k Pc.z).bytes.length:Nat) : Int)+1))) (A:=q) (n:=(ps.getD k Pc.z).bytes.length) (c:=g) rfl Tryz.underlying27 (by kernel_rfl) (by kernel_rfl) (hrun227 _ _))<|Rt 8 b<|Rt 9 b<|Ri 10 b 2 ps.length k (k:Int) rfl an (by omega)<|Rt 11 b<|Rl 12 b (fun _ hs=>hs)<|Rt 13 b<|R0 14 rfl<|dv (m:=2) (e:=70) #[.slice ax (((at_%((((ps.getD k Pc.z).bytes.length:Nat) : Int)+1))).toNat) g,.bool false,.slice aA (((ps.getD k Pc.z).bytes.length)-(((at_%((((ps.getD k Pc.z).bytes.length:Nat) : Int)+1))).toNat)) (g-(((at_%((((ps.getD k Pc.z).bytes.length:Nat) : Int)+1))).toNat)),.bool ((ps.getD k Pc.z).tick)] fun cA cB bC bD S=>?_
 have T:=aH R S
 have F:=aH o T
 have bE:=x6 (n:=w.heap.size) (p0:=(Pc.mk (((ps.getD k Pc.z).bytes).take (((at_%((((ps.getD k Pc.z).bytes.length:Nat) : Int)+1))).toNat)) false)) (p1:=(Pc.mk (((ps.getD k Pc.z).bytes).drop (((at_%((((ps.getD k Pc.z).bytes.length:Nat) : Int)+1))).toNat)) ((ps.getD k Pc.z).tick))) bC bD (⟨_,rfl,kN.upd F (fun x hx=>by cases hx) (kN.of ((bz _ _ _ _ _ ar)))⟩) (⟨_,rfl,kN.upd F (fun x hx=>by cases hx) (kN.of ((bB _ _ _ _ _ ar)))⟩)
 have aC:=ub S aw
 refine b9 (fc aC E 1 rfl (by decide)) fun cC=>?_
 have aE:=aj D T (fun x hx=>az) (iu.upd T (fun x hx=>by cases hx))
 refine R0 15 rfl<|i3 (xs:=Lc) (ys:=([Pc.mk (((ps.getD k Pc.z).bytes).take (((at_%((((ps.getD k Pc.z).bytes.length:Nat) : Int)+1))).toNat)) false,Pc.mk (((ps.getD k Pc.z).bytes).drop (((at_%((((ps.getD k Pc.z).bytes.length:Nat) : Int)+1))).toNat)) ((ps.getD k Pc.z).tick)])) (.agg #[nS,.bool false]) 2 32 aE (bE).rd iu.ones (fun w' hv=>iu.upd hv (ah (fun x hx=>Nat.le_trans lr (fD aE x hx)) aB)) (by(try simp only[cl,aq]);omega) F.size fun bF bG cD bI U cE=>?_
 refine b9 (fc (ap.blk U (aM (aD (ai ao) lr D) az) aC) E 1 rfl (by decide)) fun bK=>Rt 16 bK<|re<|bn<|tn<|go<|Pl 1<|bA ((k:Int)+1)<|Pl 1<|nl<|?_
 exact fM ((k+1),(Lc++[Pc.mk (((ps.getD k Pc.z).bytes).take (((at_%((((ps.getD k Pc.z).bytes.length:Nat) : Int)+1))).toNat)) false,Pc.mk (((ps.getD k Pc.z).bytes).drop (((at_%((((ps.getD k Pc.z).bytes.length:Nat) : Int)+1))).toNat)) ((ps.getD k Pc.z).tick)]),bF,bG) ⟨(ut F U (ah (aT D lr) aB)),(le (le (le br R.size) S.size) U.size),bI,(by(try dsimp only);omega),(by(try dsimp only);simp only[cl];omega),(by(try dsimp only);exact mS (f:=kD at_) (by omega) ag)⟩ (by omega)
 have bw:=of_decide_eq_false Q
 refine xt<|tx<|tx<|bx<|tn<|au 3<|L1<|Oe (vB (Int.tmod fr 3)) (vB (fr%3)) (congrArg (Value.int .u8) (Int.tmod_eq_emod_of_nonneg (by omega)))<|L1<|Oi (fr%3)<|Pl 1<|L1<|Oe (vB (Int.tmod to_ 3)) (vB (to_%3)) (congrArg (Value.int .u8) (Int.tmod_eq_emod_of_nonneg (by omega)))<|L1<|Oi (to_%3)<|Pl 2<|L1<|Oc<|e2 (jf (RdPn.old (jY.n hA) o) o.size (by omega)) fun cF cG bL bM=>?_
 have aG:=iR.any bL
 obtain⟨bN,bO,rfl,cH,cI⟩:=aP.shape aG
 refine Ct ((iv (fr%3) (to_%3) 0 (XS.run (XS.zero (fr%3) 0) ps).2).flatten) fun r aI=>?_
 refine L1<|Oc (args:=#[vI (fr%3),vI (to_%3),vI 0,.slice bN ps.length bO])<|e2 (fm aI (ke _) (ke _) (show 0=0∨0=1 by decide) aG (by omega) (by omega)) fun cJ cK bP bQ=>?_
 have aK:=(bP).rd
 obtain⟨bR,bS,rfl,cL,cM⟩:=aP.shape aK
 refine Pl 1<|L1<|Oe (vB (Int.tmod fr 3)) (vB (fr%3)) (congrArg (Value.int .u8) (Int.tmod_eq_emod_of_nonneg (by omega)))<|L1<|Oi (fr%3)<|Pl 1<|L1<|Oe (vB (Int.tmod to_ 3)) (vB (to_%3)) (congrArg (Value.int .u8) (Int.tmod_eq_emod_of_nonneg (by omega)))<|L1<|Oi (to_%3)<|Pl 2<|Ct ((iv (fr%3) (to_%3) 0 (XS.run (XS.zero (fr%3) 0) Lc).2).flatten) fun s aL=>?_
 have hLc:Lc=ps.flatMap (kD at_):=by rw[ag,List.take_of_length_le (by omega)]
 have V:=aH bM bQ
 refine L1<|Oc (args:=#[vI (fr%3),vI (to_%3),vI 0,.slice B Lc.length cq])<|e2 (fm aL (ke _) (ke _) (show 0=0∨0=1 by decide) (iR.any (aj D V (fun x hx=>az) (iu.upd V (fun x hx=>by cases hx)))) (by omega) (by rw[hLc,kX (oW at_)];omega)) fun cN cO bT aN=>?_
 have aO:=(bT).rd
 obtain⟨bV,bW,rfl,cP,cQ⟩:=aP.shape aO
 refine L1<|Oc (args:=#[.slice bR r.length bS,.slice bV s.length bW])<|m1 (mV (xs:=r) (ys:=s) (aR.old aK aN) aO) fun cR bX=>al 2<|rt<|rr (.bool (decide (r=s)))<|?_
 have hs:(decide (r=s))=true:=by have z:r=s:=(by rw[← aI,← aL,hLc,lm (ot at_)]);rw[z];simp
 rw[hs]
 exact⟨rfl,(aH o (aH V (aH aN bX)))⟩
theorem nV{w:World}{fr to_ at_:Int}{ans:Bool}(hfr:0≤fr∧fr<256)(hto:0≤to_∧to_<256)(hat:0≤at_∧at_<256){mA:Md}{v:Value}{ps:List Pc}(hA:jY mA w v ps)(hpb:∀ p,p∈ps→p.bytes.length≤140737488355328)(hpl:ps.length≤4398046511104) : Calls Tryz.prog 8 #[.int .u8 fr,.int .u8 to_,.bool ans,v,.int .u8 at_] w (bH (.bool true) w):=by
  obtain⟨A0,cp0,rfl,_,_⟩:=hA.shape
  exact oT (ans:=ans) (hfr:=hfr) (hto:=hto) (hat:=hat) hA hpb hpl
open Go.RowKit
section
variable {H:Type}{enc:TypeId × Value→H}{P:Program}{w:World}{base:Nat}{spare:Nat→Bool}{held:Bool}
theorem oJ(b off:Nat)(sp:Option Nat)(n:Nat)(h:sp=none) : (⟨b,off,sp⟩ : Addr).add n=⟨b,off+n,none⟩:=iU b off n sp h
theorem tW{b off:Nat}{sp:Option Nat}{v:Value}(h:w.cell? ⟨b,off,sp⟩=some v) : sp=none:=by
  cases sp with
  | none=>rfl
  | some s =>
    unfold World.cell? at h
    simp at h
    split at h<;>cases h
theorem pY{α:Type}{Pd:DataW H→Prop}{R:World→α→List Value→Prop}{t e:TypeId}{sz fuel:Nat}{cs:List Value}{x:DataW H × List MemPlace}(ht:P.underlying t=some (.slice e))(hsz:P.cellsOf e=sz)(hp:0<sz)
    (hel:∀ n cs' y,cs'.length=sz→DataW.trod enc P w base spare held n e cs'=some y→Pd y.1→∃ x,R w x cs') (hP:∀ elems spare,x.1 = .slice elems spare→∀ d,d∈elems→Pd d) (h:DataW.trod enc P w base spare held fuel t cs=some x) : ∃ v xs,cs=[v]∧aP false e sz R w v xs:=by
  rcases Go.Deep.open_slice ht h with⟨rfl,_⟩|⟨a,len,cap,m,n,D,Pl,rfl,_,hl,hm,hmm,hxe,hx⟩
  · exact⟨_,[],rfl,aP.nil ..⟩
  have hlm:len≤m:=by rw[hmm];split<;>omega
  have key:∀ i:Fin len,∃ y:α × List Value,w.cells? base (a.add (i*sz)) sz=some y.2∧y.2.length=sz∧R w y.1 y.2:=fun i=>by
    obtain⟨cs',h1,h2⟩:=hx i (by omega)
    rw[hsz] at h1
    obtain⟨_,hlen,_⟩:=World.cells?_some h1
    obtain⟨y,hy⟩:=hel n cs' _ hlen h2 (hP _ _ (by rw[hxe]) _ (List.mem_map.2 ⟨i.1,List.mem_range.2 i.2,rfl⟩))
    exact⟨(y,cs'),h1,hlen,hy⟩
  obtain⟨f,hf⟩:=Classical.axiomOfChoice key
  refine⟨_,List.ofFn fun i=>(f i).1,rfl,some a,cap,by simp,by simpa using hl,hm,(fun h=>by cases h),fun hpos=>?_⟩
  have hpos':0<len:=by simpa using hpos
  obtain⟨b,off,sp⟩:=a
  have hsp:sp=none:=by
    obtain⟨h1,h2,_⟩:=hf ⟨0,hpos'⟩
    obtain⟨_,_,h3⟩:=World.cells?_some h1
    have h4:=h3 0 hp
    rw[List.getElem?_eq_getElem (by omega)] at h4
    cases sp with
    | none=>rfl
    | some s =>
      simp[Addr.add] at h4
      exact tW h4
  subst hsp
  have hc:∀ i:Fin len,∀ k u,(f i).2[k]? = some u→w.cell? ⟨b,off+i*sz+k,none⟩=some u:=fun i k u hu=>by
    obtain⟨h1,h2,_⟩:=hf i
    obtain⟨_,_,h3⟩:=World.cells?_some h1
    have hk:k<sz:=by have:=(List.getElem?_eq_some_iff.1 hu).1;omega
    have h4:=h3 k hk
    rw[oJ _ _ _ _ rfl,oJ _ _ _ _ rfl] at h4
    rw[h4,hu]
  have h0:∃ u,w.cell? ⟨b,off+0*sz+0,none⟩=some u:=by
    obtain⟨_,h2,_⟩:=hf ⟨0,hpos'⟩
    exact⟨_,hc ⟨0,hpos'⟩ 0 _ (List.getElem?_eq_getElem (by omega))⟩
  obtain⟨u,hu⟩:=h0
  unfold World.cell? at hu
  split at hu
  · rename_i cells t' fr hb
    refine⟨b,off,cells,t',fr,rfl,hb,fun h=>(by cases h),fun j y hj=>?_⟩
    have hjl:j<len:=by have:=(List.getElem?_eq_some_iff.1 hj).1;simpa using this
    have hy:(f ⟨j,hjl⟩).1=y:=by
      rw[List.getElem?_ofFn] at hj
      simpa [hjl] using hj
    obtain⟨_,h2,h3⟩:=hf ⟨j,hjl⟩
    refine⟨(f ⟨j,hjl⟩).2,h2,by rw[← hy];exact h3,fun i u hi=>?_⟩
    have:=hc ⟨j,hjl⟩ i u hi
    rw[be hb] at this
    exact this
  · cases hu
theorem zx{α:Type}{R:World→α→List Value→Prop}{t e:TypeId}{sz fuel:Nat}{cs:List Value}{x:DataW H × List MemPlace}(ht:P.underlying t=some (.slice e))(hsz:P.cellsOf e=sz)(hp:0<sz)
    (hel:∀ n cs' y,cs'.length=sz→DataW.trod enc P w base spare held n e cs'=some y→∃ x,R w x cs') (h:DataW.trod enc P w base spare held fuel t cs=some x) : ∃ v xs,cs=[v]∧aP false e sz R w v xs :=
  pY (Pd:=fun _=>True) ht hsz hp (fun n cs' y h1 h2 _=>hel n cs' y h1 h2) (fun _ _ _ _ _=>trivial) h
end
section
variable {H:Type}{enc:TypeId × Value→H}{w:World}{base:Nat}{spare:Nat→Bool}{held:Bool}{n:Nat}{y:DataW H × List MemPlace}
theorem Cd{cs:List Value}(h:DataW.trod enc Tryz.prog w base spare held n 5 cs=some y) : ∃ x,jH w x cs:=by
  obtain⟨k,rfl,_,hw⟩:=DataW.trod_int Tryz.underlying5 h
  exact⟨k,rfl,uy hw⟩
theorem zJ{cs:List Value}(h:DataW.trod enc Tryz.prog w base spare held n 4 cs=some y) : ∃ x,sP w x cs:=by
  obtain⟨k,rfl,_⟩:=DataW.trod_bool Tryz.underlying4 h
  exact⟨k,rfl⟩
theorem BT{cs:List Value}(h:DataW.trod enc Tryz.prog w base spare held n 27 cs=some y) : ∃ v xs,cs=[v]∧aR false w v xs:=zx Tryz.underlying27 (by kernel_rfl) (by decide) (fun _ _ _ _ h=>Cd h) h
end
open Go.RowKit
theorem Ci{cs:List Value}{o:Nat}{v:Value}(h:(cs.drop o).take 1=[v]) : cs.drop o=v :: cs.drop (o+1):=by
  cases hd:cs.drop o with
  | nil=>rw[hd] at h;cases h
  | cons a l =>
    rw[hd] at h
    have h1:a=v:=by simpa using h
    rw[h1,← List.drop_drop,hd]
    rfl
theorem vR{cs:List Value}{n:Nat}(h:cs.length=n) : cs.drop n=[]:=by rw[← h];simp
section
variable {H:Type}{enc:TypeId × Value→H}{w:World}{base:Nat}{spare:Nat→Bool}{held:Bool}{n:Nat}{y:DataW H × List MemPlace}
end
end Go.Proofs.YtdkhbcefkfgbdaaGreat
namespace Go.Proofs.YtdkhbcefkfgbdaaGreat
open Go.WideShapes
def DG (w:World)(b:List Int)(cs:List Value) : Prop:=∃ v,cs=[v]∧aR false w v b∧b.length≤140737488355328
section
variable {H:Type}{enc:TypeId × Value→H}{w:World}{base:Nat}{spare:Nat→Bool}{held:Bool}{n:Nat}{y:DataW H × List MemPlace}
theorem AR{cs:List Value}(h:DataW.trod enc Tryz.prog w base spare held n 27 cs=some y)(hp:∀ e2 s2,y.1 = .slice e2 s2→e2.length≤140737488355328) : ∃ b,DG w b cs:=by
  obtain⟨v,xs,hc,hr⟩:=BT h
  refine⟨xs,v,hc,hr,?_⟩
  obtain⟨A,c,hv,_,_⟩:=hr.shape
  rcases DataW.trod_slice Tryz.underlying27 h with⟨h1,_⟩|⟨a,len,cap,elems,rest,m,_,h1,h2,_,_,_,h3,_⟩
  · rw[hc] at h1
    simp only[List.cons.injEq,and_true] at h1
    rw[h1] at hv
    injection hv with _ h4 _
    omega
  · rw[hc] at h1
    simp only[List.cons.injEq,and_true] at h1
    rw[h1] at hv
    injection hv with _ h4 _
    have:=hp _ _ (by rw[h2])
    rw[List.length_map] at this
    omega
end
theorem i9{H:Type}{P:Program}{e:TypeId}{d:DataW H}{k:Nat}(hk:k∈d.weights P e) : ∀ {l:List (DataW H)},d∈l→k∈DataW.weightsAll P e l
  | [],h=>by cases h
  | x :: r,h=>by
    simp only[DataW.weightsAll,List.mem_append]
    rcases List.mem_cons.1 h with rfl|h
    · exact .inl hk
    · exact .inr (i9 hk h)
end Go.Proofs.YtdkhbcefkfgbdaaGreat
namespace Go.Proofs.YtdkhbcefkfgbdaaGreat
open Go.WideShapes
theorem aP.ety{α:Type}{e e':TypeId}{sz:Nat}{R:World→α→List Value→Prop}{w:World}{v:Value}{xs:List α}(h:aP false e sz R w v xs) : aP false e' sz R w v xs:=by
  obtain⟨A,c,hv,h1,h2,h0,h3⟩:=h
  exact⟨A,c,hv,h1,h2,h0,fun hp=>by
    obtain⟨b,off,cells,t,fr,hA,hb,_,hx⟩:=h3 hp
    exact⟨b,off,cells,t,fr,hA,hb,(fun e=>by cases e),hx⟩⟩
def DC (w:World)(p:Pc)(cs:List Value) : Prop:=∃ v,cs=[v,.bool p.tick]∧aR false w v p.bytes∧p.bytes.length≤140737488355328
section
variable {H:Type}{enc:TypeId × Value→H}{w:World}{base:Nat}{spare:Nat→Bool}{held:Bool}{n:Nat}{y:DataW H × List MemPlace}
theorem ye{cs:List Value}(h:DataW.trod enc Tryz.prog w base spare held n 69 cs=some y)(hp:∀ l,y.1 = .agg l→∀ e2 s2,l[0]? = some (.slice e2 s2)→e2.length≤140737488355328) : ∃ p,DC w p cs:=by
  obtain⟨xs,m,rfl,hy,hlen,hxs,hf⟩:=DataW.trod_struct Tryz.underlying69 h
  rw[show Tryz.prog.cellsOf 69=2 from by kernel_rfl] at hlen
  replace hxs:xs.length=2:=hxs.trans (by kernel_rfl)
  obtain⟨y0,g0⟩ : ∃ y,xs[0]? = some y:=⟨_,List.getElem?_eq_getElem (show 0<xs.length by omega)⟩
  have f0:DataW.trod enc Tryz.prog w base spare held m 27 ((cs.drop 0).take (Tryz.prog.cellsOf 27))=xs[0]?:=hf 0 _ rfl
  rw[g0] at f0
  rw[show Tryz.prog.cellsOf 27=1 from by kernel_rfl] at f0
  obtain⟨b,v,e0,r0,r1⟩:=AR f0 fun e2 s2 he=>hp _ (by rw[hy]) e2 s2 (by rw[List.getElem?_map,g0];exact congrArg some he)
  obtain⟨y1,g1⟩ : ∃ y,xs[1]? = some y:=⟨_,List.getElem?_eq_getElem (show 1<xs.length by omega)⟩
  have f1:DataW.trod enc Tryz.prog w base spare held m 4 ((cs.drop 1).take (Tryz.prog.cellsOf 4))=xs[1]?:=hf 1 _ rfl
  rw[g1] at f1
  rw[show Tryz.prog.cellsOf 4=1 from by kernel_rfl] at f1
  obtain⟨t,e1⟩:=zJ f1
  have e1:(cs.drop 1).take 1=[.bool t]:=e1
  have hcs:cs=[v,.bool t]:=by
    show cs.drop 0=_
    rw[Ci e0,Ci e1,vR hlen]
  exact⟨⟨b,t⟩,v,hcs,r0,r1⟩
theorem yp{cs:List Value}(h:DataW.trod enc Tryz.prog w base spare held n 56 cs=some y)(hp:∀ elems sp,y.1 = .slice elems sp→(∀ d,d∈elems→∀ l,d = .agg l→∀ e2 s2,l[0]? = some (.slice e2 s2)→e2.length≤140737488355328)∧elems.length≤4398046511104) :
    ∃ v ps,cs=[v]∧jY false w v ps∧(∀ p,p∈ps→p.bytes.length≤140737488355328)∧ps.length≤4398046511104:=by
  obtain⟨v,xs,hc,hr⟩:=pY (R:=DC) (sz:=2) (Pd:=fun d=>∀ l,d = .agg l→∀ e2 s2,l[0]? = some (.slice e2 s2)→e2.length≤140737488355328) Tryz.underlying56 (by kernel_rfl) (by decide) (fun _ _ _ _ h hp=>ye h hp) (fun elems sp he=>(hp elems sp he).1) h
  refine⟨v,xs,hc,aP.ety (aP.any (R':=Dw false) hr (fun _ _ ⟨v,h1,h2,_⟩=>⟨v,h1,h2⟩)),fun x hx=>?_,?_⟩
  · obtain⟨A,c,rfl,_,_⟩:=hr.shape
    obtain⟨j,hj⟩:=List.getElem?_of_mem hx
    have hl:=(List.getElem?_eq_some_iff.1 hj).1
    obtain⟨_,_,_,_,_,_,_,_,_,⟨_,_,_,h4⟩,_⟩:=aP.elt hr Pc.z j hl
    rw[List.getD_eq_getElem?_getD,hj] at h4
    exact h4
  · obtain⟨A,c,hv,_,_⟩:=hr.shape
    rcases DataW.trod_slice Tryz.underlying56 h with⟨h1,_⟩|⟨a,len,cap,elems,rest,m,_,h1,h2,_,_,_,h3,_⟩
    · rw[hc] at h1
      simp only[List.cons.injEq,and_true] at h1
      rw[h1] at hv
      injection hv with _ h4 _
      omega
    · rw[hc] at h1
      simp only[List.cons.injEq,and_true] at h1
      rw[h1] at hv
      injection hv with _ h4 _
      have:=(hp _ _ (by rw[h2])).2
      rw[List.length_map] at this
      omega
end
theorem yD{H:Type}{ts:List TypeId}{ds:List (DataW H)}(h:(DataW.weightsEach Tryz.prog ts ds).all (·≤reachBytes)=true){j:Nat}{d:DataW H}(ht:ts[j]? = some 56)(hd:ds[j]? = some d) :
    ∀ elems sp,d = .slice elems sp→(∀ d2,d2∈elems→∀ l,d2 = .agg l→∀ e2 s2,l[0]? = some (.slice e2 s2)→e2.length≤140737488355328)∧elems.length≤4398046511104:=by
  rintro elems sp rfl
  refine⟨?_,?_⟩
  · rintro d2 hm l rfl e2 s2 h3
    obtain⟨r,rfl⟩ : ∃ r,l = .slice e2 s2 :: r:=by
      cases l with
      | nil=>cases h3
      | cons x r=>exact⟨r,by rw[List.getElem?_cons_zero] at h3;injection h3 with h3;rw[h3]⟩
    have hw:(e2.length+s2.length)*Tryz.prog.bytesOf 5∈(DataW.slice elems sp).weights Tryz.prog 56:=by
      simp only[DataW.weights,Tryz.underlying56,List.mem_cons,List.mem_append]
      refine .inr (.inl (i9 ?_ hm))
      simp only[DataW.weights,Tryz.underlying69,List.map_cons,List.map_nil,DataW.weightsEach,List.mem_append]
      refine .inl ?_
      simp only[DataW.weights,Tryz.underlying27,List.mem_cons]
      exact .inl trivial
    have h2:=List.all_eq_true.1 h _ (DataW.weights_mem_each ht hd _ hw)
    have h3:(e2.length+s2.length)*Tryz.prog.bytesOf 5≤reachBytes:=by simpa using h2
    rw[show Tryz.prog.bytesOf 5=1 from by kernel_rfl] at h3
    have h4:reachBytes<2 ^ 47:=reachBytes_lt
    omega
  · have h2:=sized_slice h ht hd Tryz.underlying56
    rw[show Tryz.prog.bytesOf 69=32 from by kernel_rfl] at h2
    have h4:reachBytes<2 ^ 47:=reachBytes_lt
    omega
end Go.Proofs.YtdkhbcefkfgbdaaGreat
