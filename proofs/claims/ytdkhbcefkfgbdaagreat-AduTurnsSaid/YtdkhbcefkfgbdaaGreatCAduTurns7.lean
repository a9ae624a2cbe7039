/- Contracts of functions, part CAduTurns7. -/
import Derived.Test.YtdkhbcefkfgbdaaGreatCAduTurns1
import Derived.Test.YtdkhbcefkfgbdaaGreatCAduTurns2
import Derived.Test.YtdkhbcefkfgbdaaGreatCAduTurns3
import Derived.Test.YtdkhbcefkfgbdaaGreatCAduTurns4
import Derived.Test.YtdkhbcefkfgbdaaGreatCAduTurns5
import Derived.Test.YtdkhbcefkfgbdaaGreatCAduTurns6
import Derived.Deep.Slices
import Derived.ChangeArms
import Derived.WideShapes
set_option linter.unusedVariables false
set_option linter.unusedSimpArgs false
set_option maxRecDepth 100000
set_option maxHeartbeats 4000000
namespace Go.Proofs.YtdkhbcefkfgbdaaGreat
open Go.RowKit
variable {A:Option Addr}{B:Int→aT→List Int}{E a c dir k t u:Int}{M X:aT}{b l:List Int}{cp:Nat}{cs:Array Value}{m:Md}{v:Value}{w:World}{x:SL}
theorem jD{parse:Int→Int→List Int→aT × Int}{lay:Int→aT→List Int}   (hX:parse dir M.code (lay dir M)=(X,E))(hE:((E != 0)||(!(decide (X=M))))=true) : bA parse lay dir M=none:=by
  unfold bA
  rw[hX,if_neg]
  intro h
  injection h with h1 h2
  rw[h1,h2] at hE
  simp at hE
theorem lO(dir c:Int) : ∀ (L:List dt),(∀ r,r∈L→r.words.length≤1024)→(dE dir c L).length≤2064*L.length
  | [],_=>by simp[dE]
  | r :: L,h=>by
    have h1:=h r (by simp)
    have h2:=lO dir c L fun x hx=>h x (by simp[hx])
    simp only[dE,mE]
    repeat' split
    all_goals simp only[bV,aB]
    all_goals omega
theorem ib(hf:bi M)(dir:Int) : (er dir M).length≤1048000∧(ea dir M).length≤1048000∧(fk dir M).length≤1048000∧(gz dir M).length≤1048000∧(eW dir M).length≤1048000:=by
  have hp:(bZ M.bits).length≤1024:=by
    have:=hf.bits
    simp only[bZ,List.length_map,List.length_range,eo]
    omega
  have h1:=hf.words
  have h2:=hf.data
  have h3:=hf.objects
  have h4:=nY M.objects hf.objv
  have h5:=lO dir M.code M.recs hf.recw
  have h6:=hf.recs
  refine⟨?_,?_,?_,?_,?_⟩
  · unfold er
    repeat' split
    all_goals simp only[bV,aB]
    all_goals omega
  · unfold ea
    repeat' split
    all_goals simp only[bV,aB]
    all_goals omega
  · unfold fk
    repeat' split
    all_goals simp only[bV,aB]
    all_goals omega
  · unfold gz
    repeat' split
    all_goals simp only[bV]
    all_goals omega
  · unfold eW
    simp only[bV]
    omega
theorem kK(h:aI m w cs.toList M)(hf:bi M) : Calls Tryz.prog 121 #[vI dir,.agg cs] w (e8 (bA (aj aO) er dir M) w):=by
 have hM:=h
 have hlen:=(ib hf dir).1
 refine fE h fun Aw kw Ab kb Ad kd Ar kr Ao ko e hw hbt hd hr ho _ _ _ _ _ _ _ _ _ _ q0 q1 q2 q3 q4 q5 q6 q7 q8 q9 T U V W X Y Z=>?_
 subst e
 refine en 31 Tryz.func121 rfl<|sg<|L0<|da (mG M.code M.fail M.addr M.count M.value M.and_ M.or_ M.addr2 M.sub M.status M.events M.messages (.slice Aw M.words.length kw) (.slice Ab M.bits.length kb) (.slice Ad M.data.length kd) (.slice Ar M.recs.length kr) M.mei M.kind M.level M.more M.next (.slice Ao M.objects.length ko)) fun a0 a1 a2 l g=>Pl 2<|aM 1<|L0<|bO l<|?_
 have n:=aI.old hM g
 refine ay<|e9 (tR (dir:=dir) n hf) fun D E F o a3 a4 p=>Pl 1<|aM 2<|?_
 have q:=ub p l
 refine aE q 0<|Pl 1<|pr (aj aO dir M.code (er dir M)) fun a i j=>?_
 have r:Calls _ _ _ _ (cV _ _ (aj aO dir M.code (er dir M)) F):=kJ (dir:=dir) (c:=M.code) q0 (o).rd (by omega)
 rw[j] at r
 refine ay<|e2 (r) fun G a5 H s=>?_
 have t:=ax o s (fun x hx=>aF) (fun _ _ h=>h)
 have b:=cG.rdt H (t).rd
 refine Pl 3<|aK mZ fun a6 a7 I J L=>aG (hz:=(by rw[b.size];exact aQ)) (hv:=b.size) (h1:=b.one) J (G) fun a8 N O=>Pl 1<|ng<|L0<|bO (hz:=(by rw[b.size];exact aQ)) N<|?_
 have k:=ud L O I
 have u:=aJ s k
 refine L0<|bO (ub u q)<|?_
 have v:=aJ p u
 refine ay<|m1 (dj (A:=a) (B:=M) (aI.upd b k aN) (aI.old n v)) fun a9 y=>ah 1<|sq<|ak 3<|cu 3 [26] 29 (((i != 0)||(!(decide (a=M))))) (fun K z=>?_) ?_
 refine bl 26 ((i != 0)) (fun d=>?_) (fun d=>?_)
 have P:=az d
 exact Pl 3<|ce z true (by rw[d];rfl)
 have P:=aA d
 exact Pl 3<|ce z (!(decide (a=M))) (by rw[d];rfl)
 refine nt<|?_
 have C:=aJ g (aJ v y)
 refine cb (((i != 0)||(!(decide (a=M))))) (fun f=>?_) (fun f=>?_)
 refine aD 2<|aV<|rr (.tuple #[nS,vI 1])<|cU (jD j f) ?_
 exact⟨rfl,C⟩
 have Q:=(bT f).1
 have R:=(bT f).2
 have S:(decide (a=M))=true:=by simpa using R
 refine bo<|aD 3<|rt<|rr (.tuple #[.slice D ((er dir M).length) E,vI 0])<|cU (jk j Q S) ?_
 exact⟨_,rfl,(b7.weaken (ax t (aJ k y) (fun x hx=>aF) (fun _ _ h=>h)) g.size),C⟩
theorem lU(h:aI m w cs.toList M)(hf:bi M) : Calls Tryz.prog 122 #[vI dir,.agg cs] w (e8 (bA (aj aW) ea dir M) w):=by
 have hM:=h
 have hlen:=(ib hf dir).2.1
 refine fE h fun Aw kw Ab kb Ad kd Ar kr Ao ko e hw hbt hd hr ho _ _ _ _ _ _ _ _ _ _ q0 q1 q2 q3 q4 q5 q6 q7 q8 q9 T U V W X Y Z=>?_
 subst e
 refine en 31 Tryz.func122 rfl<|sg<|L0<|da (mG M.code M.fail M.addr M.count M.value M.and_ M.or_ M.addr2 M.sub M.status M.events M.messages (.slice Aw M.words.length kw) (.slice Ab M.bits.length kb) (.slice Ad M.data.length kd) (.slice Ar M.recs.length kr) M.mei M.kind M.level M.more M.next (.slice Ao M.objects.length ko)) fun a0 a1 a2 l g=>Pl 2<|aM 1<|L0<|bO l<|?_
 have n:=aI.old hM g
 refine ay<|e9 (vR (dir:=dir) n hf) fun D E F o a3 a4 p=>Pl 1<|aM 2<|?_
 have q:=ub p l
 refine aE q 0<|Pl 1<|pr (aj aW dir M.code (ea dir M)) fun a i j=>?_
 have r:Calls _ _ _ _ (cV _ _ (aj aW dir M.code (ea dir M)) F):=lK (dir:=dir) (c:=M.code) q0 (o).rd (by omega)
 rw[j] at r
 refine ay<|e2 (r) fun G a5 H s=>?_
 have t:=ax o s (fun x hx=>aF) (fun _ _ h=>h)
 have b:=cG.rdt H (t).rd
 refine Pl 3<|aK mZ fun a6 a7 I J L=>aG (hz:=(by rw[b.size];exact aQ)) (hv:=b.size) (h1:=b.one) J (G) fun a8 N O=>Pl 1<|ng<|L0<|bO (hz:=(by rw[b.size];exact aQ)) N<|?_
 have k:=ud L O I
 have u:=aJ s k
 refine L0<|bO (ub u q)<|?_
 have v:=aJ p u
 refine ay<|m1 (dj (A:=a) (B:=M) (aI.upd b k aN) (aI.old n v)) fun a9 y=>ah 1<|sq<|ak 3<|cu 3 [26] 29 (((i != 0)||(!(decide (a=M))))) (fun K z=>?_) ?_
 refine bl 26 ((i != 0)) (fun d=>?_) (fun d=>?_)
 have P:=az d
 exact Pl 3<|ce z true (by rw[d];rfl)
 have P:=aA d
 exact Pl 3<|ce z (!(decide (a=M))) (by rw[d];rfl)
 refine nt<|?_
 have C:=aJ g (aJ v y)
 refine cb (((i != 0)||(!(decide (a=M))))) (fun f=>?_) (fun f=>?_)
 refine aD 2<|aV<|rr (.tuple #[nS,vI 1])<|cU (jD j f) ?_
 exact⟨rfl,C⟩
 have Q:=(bT f).1
 have R:=(bT f).2
 have S:(decide (a=M))=true:=by simpa using R
 refine bo<|aD 3<|rt<|rr (.tuple #[.slice D ((ea dir M).length) E,vI 0])<|cU (jk j Q S) ?_
 exact⟨_,rfl,(b7.weaken (ax t (aJ k y) (fun x hx=>aF) (fun _ _ h=>h)) g.size),C⟩
theorem lW(h:aI m w cs.toList M)(hf:bi M) : Calls Tryz.prog 123 #[vI dir,.agg cs] w (e8 (bA (aj bf) fk dir M) w):=by
 have hM:=h
 have hlen:=(ib hf dir).2.2.1
 refine fE h fun Aw kw Ab kb Ad kd Ar kr Ao ko e hw hbt hd hr ho _ _ _ _ _ _ _ _ _ _ q0 q1 q2 q3 q4 q5 q6 q7 q8 q9 T U V W X Y Z=>?_
 subst e
 refine en 31 Tryz.func123 rfl<|sg<|L0<|da (mG M.code M.fail M.addr M.count M.value M.and_ M.or_ M.addr2 M.sub M.status M.events M.messages (.slice Aw M.words.length kw) (.slice Ab M.bits.length kb) (.slice Ad M.data.length kd) (.slice Ar M.recs.length kr) M.mei M.kind M.level M.more M.next (.slice Ao M.objects.length ko)) fun a0 a1 a2 l g=>Pl 2<|aM 1<|L0<|bO l<|?_
 have n:=aI.old hM g
 refine ay<|e9 (vK (dir:=dir) n hf) fun D E F o a3 a4 p=>Pl 1<|aM 2<|?_
 have q:=ub p l
 refine aE q 0<|Pl 1<|pr (aj bf dir M.code (fk dir M)) fun a i j=>?_
 have r:Calls _ _ _ _ (cV _ _ (aj bf dir M.code (fk dir M)) F):=lQ (dir:=dir) (c:=M.code) q0 (o).rd (by omega)
 rw[j] at r
 refine ay<|e2 (r) fun G a5 H s=>?_
 have t:=ax o s (fun x hx=>aF) (fun _ _ h=>h)
 have b:=cG.rdt H (t).rd
 refine Pl 3<|aK mZ fun a6 a7 I J L=>aG (hz:=(by rw[b.size];exact aQ)) (hv:=b.size) (h1:=b.one) J (G) fun a8 N O=>Pl 1<|ng<|L0<|bO (hz:=(by rw[b.size];exact aQ)) N<|?_
 have k:=ud L O I
 have u:=aJ s k
 refine L0<|bO (ub u q)<|?_
 have v:=aJ p u
 refine ay<|m1 (dj (A:=a) (B:=M) (aI.upd b k aN) (aI.old n v)) fun a9 y=>ah 1<|sq<|ak 3<|cu 3 [26] 29 (((i != 0)||(!(decide (a=M))))) (fun K z=>?_) ?_
 refine bl 26 ((i != 0)) (fun d=>?_) (fun d=>?_)
 have P:=az d
 exact Pl 3<|ce z true (by rw[d];rfl)
 have P:=aA d
 exact Pl 3<|ce z (!(decide (a=M))) (by rw[d];rfl)
 refine nt<|?_
 have C:=aJ g (aJ v y)
 refine cb (((i != 0)||(!(decide (a=M))))) (fun f=>?_) (fun f=>?_)
 refine aD 2<|aV<|rr (.tuple #[nS,vI 1])<|cU (jD j f) ?_
 exact⟨rfl,C⟩
 have Q:=(bT f).1
 have R:=(bT f).2
 have S:(decide (a=M))=true:=by simpa using R
 refine bo<|aD 3<|rt<|rr (.tuple #[.slice D ((fk dir M).length) E,vI 0])<|cU (jk j Q S) ?_
 exact⟨_,rfl,(b7.weaken (ax t (aJ k y) (fun x hx=>aF) (fun _ _ h=>h)) g.size),C⟩
theorem kA(h:aI m w cs.toList M)(hf:bi M) : Calls Tryz.prog 124 #[vI dir,.agg cs] w (e8 (bA (aj bh) eW dir M) w):=by
 have hM:=h
 have hlen:=(ib hf dir).2.2.2.2
 refine fE h fun Aw kw Ab kb Ad kd Ar kr Ao ko e hw hbt hd hr ho _ _ _ _ _ _ _ _ _ _ q0 q1 q2 q3 q4 q5 q6 q7 q8 q9 T U V W X Y Z=>?_
 subst e
 refine en 31 Tryz.func124 rfl<|sg<|L0<|da (mG M.code M.fail M.addr M.count M.value M.and_ M.or_ M.addr2 M.sub M.status M.events M.messages (.slice Aw M.words.length kw) (.slice Ab M.bits.length kb) (.slice Ad M.data.length kd) (.slice Ar M.recs.length kr) M.mei M.kind M.level M.more M.next (.slice Ao M.objects.length ko)) fun a0 a1 a2 l g=>Pl 2<|aM 1<|L0<|bO l<|?_
 have n:=aI.old hM g
 refine ay<|e9 (rB (dir:=dir) n hf) fun D E F o a3 a4 p=>Pl 1<|aM 2<|?_
 have q:=ub p l
 refine aE q 0<|Pl 1<|pr (aj bh dir M.code (eW dir M)) fun a i j=>?_
 have r:Calls _ _ _ _ (cV _ _ (aj bh dir M.code (eW dir M)) F):=kP (dir:=dir) (c:=M.code) q0 (o).rd (by omega)
 rw[j] at r
 refine ay<|e2 (r) fun G a5 H s=>?_
 have t:=ax o s (fun x hx=>aF) (fun _ _ h=>h)
 have b:=cG.rdt H (t).rd
 refine Pl 3<|aK mZ fun a6 a7 I J L=>aG (hz:=(by rw[b.size];exact aQ)) (hv:=b.size) (h1:=b.one) J (G) fun a8 N O=>Pl 1<|ng<|L0<|bO (hz:=(by rw[b.size];exact aQ)) N<|?_
 have k:=ud L O I
 have u:=aJ s k
 refine L0<|bO (ub u q)<|?_
 have v:=aJ p u
 refine ay<|m1 (dj (A:=a) (B:=M) (aI.upd b k aN) (aI.old n v)) fun a9 y=>ah 1<|sq<|ak 3<|cu 3 [26] 29 (((i != 0)||(!(decide (a=M))))) (fun K z=>?_) ?_
 refine bl 26 ((i != 0)) (fun d=>?_) (fun d=>?_)
 have P:=az d
 exact Pl 3<|ce z true (by rw[d];rfl)
 have P:=aA d
 exact Pl 3<|ce z (!(decide (a=M))) (by rw[d];rfl)
 refine nt<|?_
 have C:=aJ g (aJ v y)
 refine cb (((i != 0)||(!(decide (a=M))))) (fun f=>?_) (fun f=>?_)
 refine aD 2<|aV<|rr (.tuple #[nS,vI 1])<|cU (jD j f) ?_
 exact⟨rfl,C⟩
 have Q:=(bT f).1
 have R:=(bT f).2
 have S:(decide (a=M))=true:=by simpa using R
 refine bo<|aD 3<|rt<|rr (.tuple #[.slice D ((eW dir M).length) E,vI 0])<|cU (jk j Q S) ?_
 exact⟨_,rfl,(b7.weaken (ax t (aJ k y) (fun x hx=>aF) (fun _ _ h=>h)) g.size),C⟩
theorem mD(h:aI m w cs.toList M)(hf:bi M) : Calls Tryz.prog 125 #[vI dir,.agg cs] w (e8 (bA (aj bP) gz dir M) w):=by
 have hM:=h
 have hlen:=(ib hf dir).2.2.2.1
 refine fE h fun Aw kw Ab kb Ad kd Ar kr Ao ko e hw hbt hd hr ho _ _ _ _ _ _ _ _ _ _ q0 q1 q2 q3 q4 q5 q6 q7 q8 q9 T U V W X Y Z=>?_
 subst e
 refine en 31 Tryz.func125 rfl<|sg<|L0<|da (mG M.code M.fail M.addr M.count M.value M.and_ M.or_ M.addr2 M.sub M.status M.events M.messages (.slice Aw M.words.length kw) (.slice Ab M.bits.length kb) (.slice Ad M.data.length kd) (.slice Ar M.recs.length kr) M.mei M.kind M.level M.more M.next (.slice Ao M.objects.length ko)) fun a0 a1 a2 l g=>Pl 2<|aM 1<|L0<|bO l<|?_
 have n:=aI.old hM g
 refine ay<|e9 (xj (dir:=dir) n hf) fun D E F o a3 a4 p=>Pl 1<|aM 2<|?_
 have q:=ub p l
 refine aE q 0<|Pl 1<|pr (aj bP dir M.code (gz dir M)) fun a i j=>?_
 have r:Calls _ _ _ _ (cV _ _ (aj bP dir M.code (gz dir M)) F):=mU (dir:=dir) (c:=M.code) q0 (o).rd (by omega)
 rw[j] at r
 refine ay<|e2 (r) fun G a5 H s=>?_
 have t:=ax o s (fun x hx=>aF) (fun _ _ h=>h)
 have b:=cG.rdt H (t).rd
 refine Pl 3<|aK mZ fun a6 a7 I J L=>aG (hz:=(by rw[b.size];exact aQ)) (hv:=b.size) (h1:=b.one) J (G) fun a8 N O=>Pl 1<|ng<|L0<|bO (hz:=(by rw[b.size];exact aQ)) N<|?_
 have k:=ud L O I
 have u:=aJ s k
 refine L0<|bO (ub u q)<|?_
 have v:=aJ p u
 refine ay<|m1 (dj (A:=a) (B:=M) (aI.upd b k aN) (aI.old n v)) fun a9 y=>ah 1<|sq<|ak 3<|cu 3 [26] 29 (((i != 0)||(!(decide (a=M))))) (fun K z=>?_) ?_
 refine bl 26 ((i != 0)) (fun d=>?_) (fun d=>?_)
 have P:=az d
 exact Pl 3<|ce z true (by rw[d];rfl)
 have P:=aA d
 exact Pl 3<|ce z (!(decide (a=M))) (by rw[d];rfl)
 refine nt<|?_
 have C:=aJ g (aJ v y)
 refine cb (((i != 0)||(!(decide (a=M))))) (fun f=>?_) (fun f=>?_)
 refine aD 2<|aV<|rr (.tuple #[nS,vI 1])<|cU (jD j f) ?_
 exact⟨rfl,C⟩
 have Q:=(bT f).1
 have R:=(bT f).2
 have S:(decide (a=M))=true:=by simpa using R
 refine bo<|aD 3<|rt<|rr (.tuple #[.slice D ((gz dir M).length) E,vI 0])<|cU (jk j Q S) ?_
 exact⟨_,rfl,(b7.weaken (ax t (aJ k y) (fun x hx=>aF) (fun _ _ h=>h)) g.size),C⟩
def rL (M:aT) : List Int:=[(M.code+128)%256,M.fail]
def gg (M:aT) : Option (List Int):=if decide (128≤M.code) then none else bA (fun _ _ b=>fg b) (fun _ M=>rL M) 0 M
theorem nh(h:aI m w cs.toList M) : Calls Tryz.prog 120 #[.agg cs] w (e8 (gg M) w):=by
 have hM:=h
 refine fE h fun Aw kw Ab kb Ad kd Ar kr Ao ko e hw hbt hd hr ho _ _ _ _ _ _ _ _ _ _ q0 q1 q2 q3 q4 q5 q6 q7 q8 q9 U V W X Y Z a0=>?_
 subst e
 refine en 32 Tryz.func120 rfl<|sg<|L0<|da (mG M.code M.fail M.addr M.count M.value M.and_ M.or_ M.addr2 M.sub M.status M.events M.messages (.slice Aw M.words.length kw) (.slice Ab M.bits.length kb) (.slice Ad M.data.length kd) (.slice Ar M.recs.length kr) M.mei M.kind M.level M.more M.next (.slice Ao M.objects.length ko)) fun a1 a2 a3 g j=>ah 2<|sq<|ak 1<|aE g 0<|Pl 1<|nl<|tn<|cb ((decide (128≤M.code))) (fun a=>?_) (fun a=>?_)
 have z:=of_decide_eq_true a
 refine aD 2<|aV<|rr (.tuple #[nS,vI 1])<|cU (show gg M=none by unfold gg;rw[a];rfl) ?_
 exact⟨rfl,j⟩
 have z:=of_decide_eq_false a
 refine bo<|ak 1<|aE g 0<|Pl 2<|aE g 1<|L0<|d9 (m:=2) (e:=5) #[vB ((M.code+128)%256),vB M.fail] fun C D E F G=>?_
 have o:=cL E (xs:=[((M.code+128)%256),M.fail]) (by as_aux_lemma=>kernel_rfl) (ap (by omega) (ap (by omega) aR)) (by(try simp only[List.length_cons,List.length_nil]);omega) F
 refine Pl 1<|aM 1<|?_
 have a4:rL M=[((M.code+128)%256),M.fail]:=rfl
 refine pr (fg (rL M)) fun c k l=>?_
 have p:Calls _ _ _ _ (cV _ _ (fg (rL M)) D):=nG (o).rd (show(2:Nat)≤1048576 from by decide)
 rw[l] at p
 refine ay<|e2 (p) fun H a5 I q=>?_
 have r:=ax o q (fun x hx=>aF) (fun _ _ h=>h)
 have d:=cG.rdt I (r).rd
 refine Pl 3<|aK mZ fun a6 a7 J L N=>aG (hz:=(by rw[d.size];exact aQ)) (hv:=d.size) (h1:=d.one) L (H) fun a8 O P=>Pl 1<|ng<|L0<|bO (hz:=(by rw[d.size];exact aQ)) O<|?_
 have n:=ud N P J
 have s:=aJ G (aJ q n)
 refine L0<|bO (ub s g)<|?_
 have t:=aJ j s
 refine ay<|m1 (dj (A:=c) (B:=M) (aI.upd d n aN) (aI.old hM t)) fun a9 u=>ah 1<|sq<|ak 3<|cu 3 [27] 30 (((k != 0)||(!(decide (c=M))))) (fun K v=>?_) ?_
 refine bl 27 ((k != 0)) (fun f=>?_) (fun f=>?_)
 have Q:=az f
 exact Pl 3<|ce v true (by rw[f];rfl)
 have Q:=aA f
 exact Pl 3<|ce v (!(decide (c=M))) (by rw[f];rfl)
 refine nt<|?_
 have y:=aJ t u
 refine cb (((k != 0)||(!(decide (c=M))))) (fun i=>?_) (fun i=>?_)
 refine aD 2<|aV<|rr (.tuple #[nS,vI 1])<|cU (show gg M=bA (fun _ _ b=>fg b) (fun _ M=>rL M) 0 M by unfold gg;rw[a];rfl) ?_
 refine cU (jD l i) ?_
 exact⟨rfl,y⟩
 have R:=(bT i).1
 have S:=(bT i).2
 have T:(decide (c=M))=true:=by simpa using S
 refine bo<|aD 3<|rt<|rr (.tuple #[.slice (some ⟨C,0,none⟩) 2 2,vI 0])<|cU (show gg M=bA (fun _ _ b=>fg b) (fun _ M=>rL M) 0 M by unfold gg;rw[a];rfl) ?_
 refine cU (jk l R T) ?_
 exact⟨_,rfl,(b7.weaken (ax r (aJ n u) (fun x hx=>aF) (fun _ _ h=>h)) j.size),y⟩
end Go.Proofs.YtdkhbcefkfgbdaaGreat
namespace Go.Proofs.YtdkhbcefkfgbdaaGreat
theorem vm(hd:dir=0∨dir=1)(hc:M.code=1∨M.code=2∨M.code=5∨M.code=15) : er dir M=cM dir M:=by
  unfold er cM
  rcases hd with rfl|rfl<;>rcases hc with h|h|h|h<;>rw[h]<;>rfl
theorem zi(hd:dir=0∨dir=1)(hc:M.code=3∨M.code=4∨M.code=6∨M.code=16∨M.code=22∨M.code=23∨M.code=24) : ea dir M=cy dir M:=by
  unfold ea cy
  rw[show 2*(M.words.length:Int)+2=2+2*(M.words.length:Int) from by omega]
  rcases hd with rfl|rfl<;>rcases hc with h|h|h|h|h|h|h<;>rw[h]<;>rfl
theorem yw(hd:dir=0∨dir=1) : fk dir M=ci dir M:=by
  unfold fk ci
  rw[show(M.data.length:Int)+6=6+(M.data.length:Int) from by omega]
  rfl
theorem zD:gz dir M=dD dir M:=by
  unfold gz dD
  split
  · rename_i h
    rw[ag h]
  · rfl
theorem nO(dir c:Int) : ∀ L:List dt,dE dir c L=cP dir c L
  | []=>rfl
  | r :: L=>by
    show mE dir c r++dE dir c L=fZ dir c r++cP dir c L
    rw[nO dir c L]
    unfold mE fZ
    rw[show 2*(r.words.length:Int)+1=1+2*(r.words.length:Int) from by omega]
theorem um:eW dir M=dn dir M:=by
  rw[lI]
  unfold eW
  rw[nO]
def f9 (dir:Int)(M:aT) : Option (List Int) :=
  match bA (aj aO) er dir M with
  | some l=>some l
  | none=>match bA (aj aW) ea dir M with
    | some l=>some l
    | none=>match bA (aj bf) fk dir M with
      | some l=>some l
      | none=>match bA (aj bh) eW dir M with
        | some l=>some l
        | none=>bA (aj bP) gz dir M
def dN (dir:Int)(M:aT) : Option (List Int) :=
  match gg M with
  | some l=>some l
  | none=>match f9 dir M with
    | some l=>some ([M.code]++l)
    | none=>none
theorem EB{form:Int→Int→ai→Option (ai × aT)}    (hd:dir=0∨dir=1)(hf:∀ C,form dir M.code C=none) : bA (aj form) B dir M=none:=by
  cases h:bA (aj form) B dir M with
  | none=>rfl
  | some l =>
    have h1:=(dF h).1
    rw[nk hd (hf _)] at h1
    injection h1 with _ h2
    cases h2
theorem se{parse:Int→Int→List Int→aT × Int}{lay:Int→aT→List Int}    (h:bA parse lay dir M=some l)(he:B dir M=lay dir M) : bA parse B dir M=some l:=by
  unfold bA at h ⊢
  rw[he]
  exact h
theorem fR(hc:0≤M.code∧M.code<256)(h:db dir M=some l) : dir=0∨dir=1:=by
  rcases ia hc h with⟨_,rfl,_⟩|⟨_,hk,_,l',h4,_⟩
  · exact .inr rfl
  · by_cases hd:dir=0∨dir=1
    · exact hd
    · have h5:=(lA h4).2
      exfalso
      have no:∀ form b,aj form dir (([M.code]++l').getD 0 0) b=(M,0)→False:=fun form b hp=>by
        unfold aj at hp
        rw[if_neg hd] at hp
        injection hp with _ h2
        cases h2
      unfold ic at h5
      split at h5
      · exact no _ _ h5
      · exact no _ _ h5
      · exact no _ _ h5
      · exact no _ _ h5
      · exact no _ _ h5
      · injection h5 with _ h2
        cases h2
theorem uD(hc:0≤M.code∧M.code<256)(hf:0≤M.fail∧M.fail<256)(h:db dir M=some l) : dN dir M=some l:=by
  have hd:=fR hc h
  rcases ia hc h with⟨h1,rfl,h2,h3,h4,rfl,h5⟩|⟨h1,h2,h3,l',h4,h5,rfl⟩
  · have k:gg M=some [M.code+128,M.fail]:=by
      unfold gg
      rw[if_neg (by simp only[decide_eq_true_eq];omega)]
      have hb:rL M=[M.code+128,M.fail]:=by unfold rL;rw[show(M.code+128)%256=M.code+128 from by omega]
      refine fF hb ?_
      have hb:(M.code+128-128)%256=M.code:=by omega
      have jf:decide (M.code+128<128)=false:=by simp;omega
      show fg [M.code+128,M.fail]=(M,0)
      unfold fg
      simp only[List.length_cons,List.length_nil,List.getD_cons_zero,List.getD_cons_succ,hb,jf,h2,h3]
      show(hY M.code M.fail,(0:Int))=(M,0)
      rw[← h4]
    unfold dN
    rw[k]
  · have k:gg M=none:=by
      cases hw:gg M with
      | none=>rfl
      | some l2 =>
        unfold gg at hw
        split at hw
        · cases hw
        · have h6:=(dF hw).1
          obtain⟨h7,_,_,h8,_⟩:=vc h6
          have h9:=rc h8
          have a:M.fail=l2.getD 1 0:=by rw[h7];rfl
          rw[← a,h1] at h9
          cases h9
    have no:∀ (form:Int→Int→ai→Option (ai × aT)) (B:Int→aT→List Int),(∀ C,form dir M.code C=none)→bA (aj form) B dir M=none:=fun form B hf=>EB hd hf
    have kc:f9 dir M=some l':=by
      unfold f9
      rcases iC M.code with⟨hk,hf⟩|⟨hk,hf⟩|⟨hk,hf⟩|⟨hk,hf⟩|⟨hk,hf⟩|⟨hk,hf⟩<;>rw[hf] at h4
      · have h4:bA (aj aO) cM dir M=some l':=h4
        rw[se h4 (vm hd hk)]
      · have h4:bA (aj aW) cy dir M=some l':=h4
        rw[no aO _ (fun C=>by rcases hk with h | h | h | h | h | h | h<;>rw[h]<;>rfl),se h4 (zi hd hk)]
      · have h4:bA (aj bf) ci dir M=some l':=h4
        rw[no aO _ (fun C=>by rcases hk with h | h | h | h | h<;>rw[h]<;>rfl),no aW _ (fun C=>by rcases hk with h | h | h | h | h<;>rw[h]<;>rfl),se h4 (yw hd)]
      · have h4:bA (aj bh) dn dir M=some l':=h4
        rw[no aO _ (fun C=>by rcases hk with h | h<;>rw[h]<;>rfl),no aW _ (fun C=>by rcases hk with h | h<;>rw[h]<;>rfl),no bf _ (fun C=>by rcases hk with h | h<;>rw[h]<;>rfl),se h4 um]
      · have h4:bA (aj bP) dD dir M=some l':=h4
        rw[no aO _ (fun C=>by rw[hk]<;>rfl),no aW _ (fun C=>by rw[hk]<;>rfl),no bf _ (fun C=>by rw[hk]<;>rfl),no bh _ (fun C=>by rw[hk]<;>rfl),se h4 zD]
      · exact absurd hf h2
    unfold dN
    rw[k,kc]
theorem yh(h:cw dir b=(M,0)) : dir=0∨dir=1:=by
  unfold cw at h
  split at h
  · injection h with _ h
    cases h
  · rename_i hh
    simp only[Bool.and_eq_true,bne_iff_ne,ne_eq] at hh
    omega
theorem vX(hc:0≤M.code∧M.code<256)(hf:0≤M.fail∧M.fail<256)(hk:dN dir M=none) : db dir M=none:=by
  cases h:db dir M with
  | none=>rfl
  | some l=>rw[uD hc hf h] at hk;cases hk
theorem iq(hc:0≤M.code∧M.code<256)(hf:0≤M.fail∧M.fail<256)(hk:dN dir M=some b)(hX:cw dir b=(X,E))(hE:((E != 0)||(!(decide (X=M))))=true) : db dir M=none:=by
  cases h:db dir M with
  | none=>rfl
  | some l =>
    rw[uD hc hf h] at hk
    injection hk with hk
    subst hk
    rw[qj (fR hc h) hc hf h] at hX
    injection hX with h1 h2
    subst h1 h2
    simp at hE
theorem jA(hr:∀ x,x∈b→0≤x∧x<256)(hX:cw dir b=(X,E))(hE:(E != 0)=false)(h:decide (X=M)=true) : db dir M=some b:=by
  have h1:X=M:=by simpa using h
  have h2:E=0:=by simpa using hE
  subst h1 h2
  exact kV (yh hX) hr hX
open Go.RowKit
theorem y4{p:Int→Int→List Int→aT × Int}     (h:bA p B dir M=some l)(hB:(B dir M).length≤1048000) : l.length≤1048000:=by
  rw[(dF h).2]
  exact hB
theorem xO(h:gg M=some l) : l.length≤1048000:=by
  unfold gg at h
  split at h
  · cases h
  · rw[(dF h).2]
    exact(show 2≤1048000 from by decide)
theorem nW(h:aI m w cs.toList M)(hf:bi M) : Calls Tryz.prog 86 #[vI dir,.agg cs] w (e8 (db dir M) w):=by
 have hM:=h
 obtain⟨d2,d3,d4,d5,d6⟩:=ib hf dir
 refine fE h fun Aw kw Ab kb Ad kd Ar kr Ao ko e hw hbt hd hr ho _ _ _ _ _ _ _ _ _ _ q0 q1 q2 q3 q4 q5 q6 q7 q8 q9 f4 f5 f6 f7 f8 fa fb=>?_
 subst e
 refine en 79 Tryz.func86 rfl<|sg<|L0<|da (mG M.code M.fail M.addr M.count M.value M.and_ M.or_ M.addr2 M.sub M.status M.events M.messages (.slice Aw M.words.length kw) (.slice Ab M.bits.length kb) (.slice Ad M.data.length kd) (.slice Ar M.recs.length kr) M.mei M.kind M.level M.more M.next (.slice Ao M.objects.length ko)) fun fc fd ff Z d=>Pl 2<|ng<|L0<|bO Z<|?_
 rcases a:gg M with _|r
 have a0:=aI.old hM d
 have b8:=nh a0
 rw[a] at b8
 refine ay<|m1 b8 fun fg g=>ah 5<|sq<|aD 2<|c1<|ak 1<|?_
 have a1:=ub g Z
 refine L0<|bO a1<|?_
 have ba:=aJ d g
 rcases b:bA (aj aO) er dir M with _|k
 have a2:=aI.old a0 g
 have bb:=kK (dir:=dir) a2 hf
 rw[b] at bb
 refine ay<|m1 bb fun fh i=>ah 5<|sq<|aD 2<|c1<|go<|Pl 1<|?_
 have a3:=ub i a1
 refine L0<|bO a3<|?_
 have bc:=aJ ba i
 rcases c:bA (aj aW) ea dir M with _|l
 have a4:=aI.old a2 i
 have bd:=lU (dir:=dir) a4 hf
 rw[c] at bd
 refine ay<|m1 bd fun fi n=>ah 5<|sq<|aD 2<|c1<|go<|Pl 1<|?_
 have a5:=ub n a3
 refine L0<|bO a5<|?_
 have be:=aJ bc n
 rcases f:bA (aj bf) fk dir M with _|o
 have a6:=aI.old a4 n
 have bg:=lW (dir:=dir) a6 hf
 rw[f] at bg
 refine ay<|m1 bg fun fj s=>ah 5<|sq<|aD 2<|c1<|go<|Pl 1<|?_
 have a7:=ub s a5
 refine L0<|bO a7<|?_
 have bj:=aJ be s
 rcases j:bA (aj bh) eW dir M with _|p
 have a8:=aI.old a6 s
 have bk:=kA (dir:=dir) a8 hf
 rw[j] at bk
 refine ay<|m1 bk fun fl u=>ah 5<|sq<|aD 2<|c1<|go<|Pl 1<|?_
 have a9:=ub u a7
 refine L0<|bO a9<|?_
 have bm:=aJ bj u
 rcases t:bA (aj bP) gz dir M with _|q
 have bn:=mD (dir:=dir) (aI.old a8 u) hf
 rw[t] at bn
 refine ay<|m1 bn fun fm bp=>ah 5<|go<|Pl 1<|?_
 refine aE (ub bp a9) 0<|L0<|d9 (m:=1) (e:=5) #[vB M.code] fun fn fo d7 d8 bq=>?_
 have br:=cL d7 (xs:=[M.code]) (by as_aux_lemma=>kernel_rfl) (ap (by omega) aR) (by(try simp only[List.length_cons,List.length_nil]);omega) d8
 refine Pl 1<|L0<|bS b9 (xs:=([M.code])) (ys:=([])) (vB 0) 1 br (aS.nil true 5 _ _ _) (by(try simp only[bV,aB]);omega) bq.size fun fp fq fr fs dc=>ah 1<|sq<|aD 2<|c1<|aD 2<|aV<|rr (.tuple #[nS,vI 1])<|?_
 have hk:dN dir M=none:=by unfold dN f9;simp only[a,b,c,f,j,t]
 refine cU (vX q0 q1 hk) ?_
 exact⟨rfl,(aJ bm (aJ bp (ut bq dc (aq (aU br lr) aC))))⟩
 have bs:=aI.old a8 u
 have bt:=mD (dir:=dir) bs hf
 rw[t] at bt
 refine ay<|e9 bt fun ft fu fv dd fw fx aa=>?_
 have fy:q.length≤1048000:=y4 t d5
 refine ah 5<|go<|Pl 1<|?_
 have bu:=ub aa a9
 refine aE bu 0<|L0<|d9 (m:=1) (e:=5) #[vB M.code] fun fz fA de df ab=>?_
 have bv:=cL de (xs:=[M.code]) (by as_aux_lemma=>kernel_rfl) (ap (by omega) aR) (by(try simp only[List.length_cons,List.length_nil]);omega) df
 refine Pl 1<|?_
 refine L0<|bS b9 (xs:=([M.code])) (ys:=q) (vB 0) 1 bv ((ax dd ab (fun x hx=>aF) (fun _ _ h=>h))).rd (by(try simp only[bV,aB]);omega) ab.size fun dg dh di bw dk=>ah 1<|sq<|aD 2<|c0<|bo<|sq<|go<|Pl 2<|pr (cw dir ([M.code]++q)) fun v ac ad=>?_
 have bx:Calls _ _ _ _ (cV _ _ (cw dir ([M.code]++q)) di):=fe (dir:=dir) (bw).rd (by(try simp only[bV]);omega)
 rw[ad] at bx
 refine ay<|e2 (bx) fun dl fB dm bz=>?_
 have bB:=ax bw bz (fun x hx=>aF) (fun _ _ h=>h)
 have y:=cG.rdt dm (bB).rd
 refine Pl 3<|aK mZ fun fC fD dn dp dq=>aG (hz:=(by rw[y.size];exact aQ)) (hv:=y.size) (h1:=y.one) dp (dl) fun fF dr ds=>Pl 1<|ng<|L0<|bO (hz:=(by rw[y.size];exact aQ)) dr<|?_
 have ae:=ud dq ds dn
 have bC:=ut ab (aJ dk (aJ bz ae)) (aq (aU bv lr) aC)
 refine L0<|bO (ub bC bu)<|?_
 have bD:=aJ aa bC
 refine ay<|m1 (dj (A:=v) (B:=M) (aI.upd y ae aN) (aI.old bs bD)) fun fG bE=>ah 1<|sq<|ak 3<|cu 3 [74] 77 (((ac != 0)||(!(decide (v=M))))) (fun K bF=>?_) ?_
 refine bl 74 ((ac != 0)) (fun z=>?_) (fun z=>?_)
 have dt:=az z
 exact Pl 3<|ce bF true (by rw[z];rfl)
 have dt:=aA z
 exact Pl 3<|ce bF (!(decide (v=M))) (by rw[z];rfl)
 refine nt<|?_
 have bG:=aJ bm (aJ bD bE)
 refine cb (((ac != 0)||(!(decide (v=M))))) (fun T=>?_) (fun T=>?_)
 refine aD 2<|aV<|rr (.tuple #[nS,vI 1])<|?_
 have hk:dN dir M=some ([M.code]++q):=by unfold dN f9;simp only[a,b,c,f,j,t]
 refine cU (iq q0 q1 hk ad T) ?_
 exact⟨rfl,bG⟩
 have du:=(bT T).1
 have dv:=(bT T).2
 have dw:(decide (v=M))=true:=by simpa using dv
 refine bo<|aD 3<|rt<|rr (.tuple #[.slice dg (([M.code]++q).length) dh,vI 0])<|?_
 have hk:dN dir M=some ([M.code]++q):=by unfold dN f9;simp only[a,b,c,f,j,t]
 have bH:=ax bB (aJ ae bE) (fun x hx=>aF) (fun _ _ h=>h)
 refine cU (jA (aX.range (bH).rd) ad du dw) ?_
 exact⟨_,rfl,(b7.weaken bH (le (le (le (le (le (le d.size g.size) i.size) n.size) s.size) u.size) aa.size)),bG⟩
 have bI:=aI.old a6 s
 have bJ:=kA (dir:=dir) bI hf
 rw[j] at bJ
 refine ay<|e9 bJ fun fH fI fJ dx fK fL af=>?_
 have fM:p.length≤1048000:=y4 j d6
 refine ah 5<|sq<|aD 2<|c0<|bo<|go<|Pl 1<|?_
 have bK:=ub af a7
 refine aE bK 0<|L0<|d9 (m:=1) (e:=5) #[vB M.code] fun fN fO dy dz ag=>?_
 have bL:=cL dy (xs:=[M.code]) (by as_aux_lemma=>kernel_rfl) (ap (by omega) aR) (by(try simp only[List.length_cons,List.length_nil]);omega) dz
 refine Pl 1<|?_
 refine L0<|bS b9 (xs:=([M.code])) (ys:=p) (vB 0) 1 bL ((ax dx ag (fun x hx=>aF) (fun _ _ h=>h))).rd (by(try simp only[bV,aB]);omega) ag.size fun dA dB dC bM dD=>ah 1<|sq<|aD 2<|c0<|bo<|sq<|go<|Pl 2<|pr (cw dir ([M.code]++p)) fun C ai al=>?_
 have bN:Calls _ _ _ _ (cV _ _ (cw dir ([M.code]++p)) dC):=fe (dir:=dir) (bM).rd (by(try simp only[bV]);omega)
 rw[al] at bN
 refine ay<|e2 (bN) fun dE fP dF bQ=>?_
 have bR:=ax bM bQ (fun x hx=>aF) (fun _ _ h=>h)
 have D:=cG.rdt dF (bR).rd
 refine Pl 3<|aK mZ fun fQ fR dG dH dI=>aG (hz:=(by rw[D.size];exact aQ)) (hv:=D.size) (h1:=D.one) dH (dE) fun fS dJ dK=>Pl 1<|ng<|L0<|bO (hz:=(by rw[D.size];exact aQ)) dJ<|?_
 have am:=ud dI dK dG
 have bU:=ut ag (aJ dD (aJ bQ am)) (aq (aU bL lr) aC)
 refine L0<|bO (ub bU bK)<|?_
 have bW:=aJ af bU
 refine ay<|m1 (dj (A:=C) (B:=M) (aI.upd D am aN) (aI.old bI bW)) fun fT bX=>ah 1<|sq<|ak 3<|cu 3 [74] 77 (((ai != 0)||(!(decide (C=M))))) (fun K bY=>?_) ?_
 refine bl 74 ((ai != 0)) (fun E=>?_) (fun E=>?_)
 have dL:=az E
 exact Pl 3<|ce bY true (by rw[E];rfl)
 have dL:=aA E
 exact Pl 3<|ce bY (!(decide (C=M))) (by rw[E];rfl)
 refine nt<|?_
 have bZ:=aJ bj (aJ bW bX)
 refine cb (((ai != 0)||(!(decide (C=M))))) (fun U=>?_) (fun U=>?_)
 refine aD 2<|aV<|rr (.tuple #[nS,vI 1])<|?_
 have hk:dN dir M=some ([M.code]++p):=by unfold dN f9;simp only[a,b,c,f,j]
 refine cU (iq q0 q1 hk al U) ?_
 exact⟨rfl,bZ⟩
 have dM:=(bT U).1
 have dO:=(bT U).2
 have dP:(decide (C=M))=true:=by simpa using dO
 refine bo<|aD 3<|rt<|rr (.tuple #[.slice dA (([M.code]++p).length) dB,vI 0])<|?_
 have hk:dN dir M=some ([M.code]++p):=by unfold dN f9;simp only[a,b,c,f,j]
 have c2:=ax bR (aJ am bX) (fun x hx=>aF) (fun _ _ h=>h)
 refine cU (jA (aX.range (c2).rd) al dM dP) ?_
 exact⟨_,rfl,(b7.weaken c2 (le (le (le (le (le d.size g.size) i.size) n.size) s.size) af.size)),bZ⟩
 have c3:=aI.old a4 n
 have c4:=lW (dir:=dir) c3 hf
 rw[f] at c4
 refine ay<|e9 c4 fun fU fV fW dQ fX fY an=>?_
 have fZ:o.length≤1048000:=y4 f d4
 refine ah 5<|sq<|aD 2<|c0<|bo<|sq<|sq<|go<|ah 2<|c0<|bo<|go<|Pl 1<|?_
 have c5:=ub an a5
 refine aE c5 0<|L0<|d9 (m:=1) (e:=5) #[vB M.code] fun g0 g1 dR dS ao=>?_
 have c6:=cL dR (xs:=[M.code]) (by as_aux_lemma=>kernel_rfl) (ap (by omega) aR) (by(try simp only[List.length_cons,List.length_nil]);omega) dS
 refine Pl 1<|?_
 refine L0<|bS b9 (xs:=([M.code])) (ys:=o) (vB 0) 1 c6 ((ax dQ ao (fun x hx=>aF) (fun _ _ h=>h))).rd (by(try simp only[bV,aB]);omega) ao.size fun dT dU dV c7 dW=>ah 1<|sq<|aD 2<|c0<|bo<|sq<|go<|Pl 2<|pr (cw dir ([M.code]++o)) fun F ar au=>?_
 have c8:Calls _ _ _ _ (cV _ _ (cw dir ([M.code]++o)) dV):=fe (dir:=dir) (c7).rd (by(try simp only[bV]);omega)
 rw[au] at c8
 refine ay<|e2 (c8) fun dX g2 dY c9=>?_
 have ca:=ax c7 c9 (fun x hx=>aF) (fun _ _ h=>h)
 have G:=cG.rdt dY (ca).rd
 refine Pl 3<|aK mZ fun g3 g4 dZ e0 e1=>aG (hz:=(by rw[G.size];exact aQ)) (hv:=G.size) (h1:=G.one) e0 (dX) fun g5 e3 e4=>Pl 1<|ng<|L0<|bO (hz:=(by rw[G.size];exact aQ)) e3<|?_
 have av:=ud e1 e4 dZ
 have cc:=ut ao (aJ dW (aJ c9 av)) (aq (aU c6 lr) aC)
 refine L0<|bO (ub cc c5)<|?_
 have cd:=aJ an cc
 refine ay<|m1 (dj (A:=F) (B:=M) (aI.upd G av aN) (aI.old c3 cd)) fun g6 cf=>ah 1<|sq<|ak 3<|cu 3 [74] 77 (((ar != 0)||(!(decide (F=M))))) (fun K cg=>?_) ?_
 refine bl 74 ((ar != 0)) (fun H=>?_) (fun H=>?_)
 have e5:=az H
 exact Pl 3<|ce cg true (by rw[H];rfl)
 have e5:=aA H
 exact Pl 3<|ce cg (!(decide (F=M))) (by rw[H];rfl)
 refine nt<|?_
 have ch:=aJ be (aJ cd cf)
 refine cb (((ar != 0)||(!(decide (F=M))))) (fun V=>?_) (fun V=>?_)
 refine aD 2<|aV<|rr (.tuple #[nS,vI 1])<|?_
 have hk:dN dir M=some ([M.code]++o):=by unfold dN f9;simp only[a,b,c,f]
 refine cU (iq q0 q1 hk au V) ?_
 exact⟨rfl,ch⟩
 have e6:=(bT V).1
 have e7:=(bT V).2
 have eb:(decide (F=M))=true:=by simpa using e7
 refine bo<|aD 3<|rt<|rr (.tuple #[.slice dT (([M.code]++o).length) dU,vI 0])<|?_
 have hk:dN dir M=some ([M.code]++o):=by unfold dN f9;simp only[a,b,c,f]
 have ci:=ax ca (aJ av cf) (fun x hx=>aF) (fun _ _ h=>h)
 refine cU (jA (aX.range (ci).rd) au e6 eb) ?_
 exact⟨_,rfl,(b7.weaken ci (le (le (le (le d.size g.size) i.size) n.size) an.size)),ch⟩
 have cj:=aI.old a2 i
 have ck:=lU (dir:=dir) cj hf
 rw[c] at ck
 refine ay<|e9 ck fun g7 g8 g9 ec ga gb aw=>?_
 have gc:l.length≤1048000:=y4 c d3
 refine ah 5<|sq<|aD 2<|c0<|bo<|sq<|sq<|go<|ah 2<|c0<|bo<|sq<|aD 2<|c0<|bo<|go<|Pl 1<|?_
 have cl:=ub aw a3
 refine aE cl 0<|L0<|d9 (m:=1) (e:=5) #[vB M.code] fun gd ge ed ee aH=>?_
 have cm:=cL ed (xs:=[M.code]) (by as_aux_lemma=>kernel_rfl) (ap (by omega) aR) (by(try simp only[List.length_cons,List.length_nil]);omega) ee
 refine Pl 1<|?_
 refine L0<|bS b9 (xs:=([M.code])) (ys:=l) (vB 0) 1 cm ((ax ec aH (fun x hx=>aF) (fun _ _ h=>h))).rd (by(try simp only[bV,aB]);omega) aH.size fun ef eg eh cn ei=>ah 1<|sq<|aD 2<|c0<|bo<|sq<|go<|Pl 2<|pr (cw dir ([M.code]++l)) fun I aL aM=>?_
 have co:Calls _ _ _ _ (cV _ _ (cw dir ([M.code]++l)) eh):=fe (dir:=dir) (cn).rd (by(try simp only[bV]);omega)
 rw[aM] at co
 refine ay<|e2 (co) fun ej gf ek cp=>?_
 have cq:=ax cn cp (fun x hx=>aF) (fun _ _ h=>h)
 have J:=cG.rdt ek (cq).rd
 refine Pl 3<|aK mZ fun gh gi el em eo=>aG (hz:=(by rw[J.size];exact aQ)) (hv:=J.size) (h1:=J.one) em (ej) fun gj ep eq=>Pl 1<|ng<|L0<|bO (hz:=(by rw[J.size];exact aQ)) ep<|?_
 have aP:=ud eo eq el
 have cr:=ut aH (aJ ei (aJ cp aP)) (aq (aU cm lr) aC)
 refine L0<|bO (ub cr cl)<|?_
 have ct:=aJ aw cr
 refine ay<|m1 (dj (A:=I) (B:=M) (aI.upd J aP aN) (aI.old cj ct)) fun gk cv=>ah 1<|sq<|ak 3<|cu 3 [74] 77 (((aL != 0)||(!(decide (I=M))))) (fun K cx=>?_) ?_
 refine bl 74 ((aL != 0)) (fun L=>?_) (fun L=>?_)
 have es:=az L
 exact Pl 3<|ce cx true (by rw[L];rfl)
 have es:=aA L
 exact Pl 3<|ce cx (!(decide (I=M))) (by rw[L];rfl)
 refine nt<|?_
 have cy:=aJ bc (aJ ct cv)
 refine cb (((aL != 0)||(!(decide (I=M))))) (fun W=>?_) (fun W=>?_)
 refine aD 2<|aV<|rr (.tuple #[nS,vI 1])<|?_
 have hk:dN dir M=some ([M.code]++l):=by unfold dN f9;simp only[a,b,c]
 refine cU (iq q0 q1 hk aM W) ?_
 exact⟨rfl,cy⟩
 have et:=(bT W).1
 have eu:=(bT W).2
 have ev:(decide (I=M))=true:=by simpa using eu
 refine bo<|aD 3<|rt<|rr (.tuple #[.slice ef (([M.code]++l).length) eg,vI 0])<|?_
 have hk:dN dir M=some ([M.code]++l):=by unfold dN f9;simp only[a,b,c]
 have cz:=ax cq (aJ aP cv) (fun x hx=>aF) (fun _ _ h=>h)
 refine cU (jA (aX.range (cz).rd) aM et ev) ?_
 exact⟨_,rfl,(b7.weaken cz (le (le (le d.size g.size) i.size) aw.size)),cy⟩
 have cA:=aI.old a0 g
 have cB:=kK (dir:=dir) cA hf
 rw[b] at cB
 refine ay<|e9 cB fun gl gm gn ew gp gq aY=>?_
 have gr:k.length≤1048000:=y4 b d2
 refine ah 5<|sq<|aD 2<|c0<|bo<|sq<|sq<|go<|ah 2<|c0<|bo<|sq<|aD 2<|c0<|bo<|sq<|aD 2<|c0<|bo<|go<|Pl 1<|?_
 have cC:=ub aY a1
 refine aE cC 0<|L0<|d9 (m:=1) (e:=5) #[vB M.code] fun gs gt ex ey aZ=>?_
 have cD:=cL ex (xs:=[M.code]) (by as_aux_lemma=>kernel_rfl) (ap (by omega) aR) (by(try simp only[List.length_cons,List.length_nil]);omega) ey
 refine Pl 1<|?_
 refine L0<|bS b9 (xs:=([M.code])) (ys:=k) (vB 0) 1 cD ((ax ew aZ (fun x hx=>aF) (fun _ _ h=>h))).rd (by(try simp only[bV,aB]);omega) aZ.size fun ez eA eB cE eC=>ah 1<|sq<|aD 2<|c0<|bo<|sq<|go<|Pl 2<|pr (cw dir ([M.code]++k)) fun N b0 b1=>?_
 have cF:Calls _ _ _ _ (cV _ _ (cw dir ([M.code]++k)) eB):=fe (dir:=dir) (cE).rd (by(try simp only[bV]);omega)
 rw[b1] at cF
 refine ay<|e2 (cF) fun eD gu eE cH=>?_
 have cI:=ax cE cH (fun x hx=>aF) (fun _ _ h=>h)
 have O:=cG.rdt eE (cI).rd
 refine Pl 3<|aK mZ fun gv gw eF eG eH=>aG (hz:=(by rw[O.size];exact aQ)) (hv:=O.size) (h1:=O.one) eG (eD) fun gx eI eJ=>Pl 1<|ng<|L0<|bO (hz:=(by rw[O.size];exact aQ)) eI<|?_
 have b2:=ud eH eJ eF
 have cJ:=ut aZ (aJ eC (aJ cH b2)) (aq (aU cD lr) aC)
 refine L0<|bO (ub cJ cC)<|?_
 have cK:=aJ aY cJ
 refine ay<|m1 (dj (A:=N) (B:=M) (aI.upd O b2 aN) (aI.old cA cK)) fun gy cM=>ah 1<|sq<|ak 3<|cu 3 [74] 77 (((b0 != 0)||(!(decide (N=M))))) (fun K cN=>?_) ?_
 refine bl 74 ((b0 != 0)) (fun P=>?_) (fun P=>?_)
 have eK:=az P
 exact Pl 3<|ce cN true (by rw[P];rfl)
 have eK:=aA P
 exact Pl 3<|ce cN (!(decide (N=M))) (by rw[P];rfl)
 refine nt<|?_
 have cO:=aJ ba (aJ cK cM)
 refine cb (((b0 != 0)||(!(decide (N=M))))) (fun X=>?_) (fun X=>?_)
 refine aD 2<|aV<|rr (.tuple #[nS,vI 1])<|?_
 have hk:dN dir M=some ([M.code]++k):=by unfold dN f9;simp only[a,b]
 refine cU (iq q0 q1 hk b1 X) ?_
 exact⟨rfl,cO⟩
 have eL:=(bT X).1
 have eM:=(bT X).2
 have eN:(decide (N=M))=true:=by simpa using eM
 refine bo<|aD 3<|rt<|rr (.tuple #[.slice ez (([M.code]++k).length) eA,vI 0])<|?_
 have hk:dN dir M=some ([M.code]++k):=by unfold dN f9;simp only[a,b]
 have cP:=ax cI (aJ b2 cM) (fun x hx=>aF) (fun _ _ h=>h)
 refine cU (jA (aX.range (cP).rd) b1 eL eN) ?_
 exact⟨_,rfl,(b7.weaken cP (le (le d.size g.size) aY.size)),cO⟩
 have cQ:=aI.old hM d
 have cR:=nh cQ
 rw[a] at cR
 refine ay<|e9 cR fun eO eP eQ cS gA gB eR=>?_
 have gC:r.length≤1048000:=xO a
 refine ah 5<|sq<|aD 2<|c0<|bo<|sq<|sq<|go<|ah 2<|c0<|bo<|ak 2<|pr (cw dir r) fun Q b3 b4=>?_
 have cT:Calls _ _ _ _ (cV _ _ (cw dir r) eQ):=fe (dir:=dir) (cS).rd (by(try simp only[bV]);omega)
 rw[b4] at cT
 refine ay<|e2 (cT) fun eS gD eT cW=>?_
 have cX:=ax cS cW (fun x hx=>aF) (fun _ _ h=>h)
 have R:=cG.rdt eT (cX).rd
 refine Pl 3<|aK mZ fun gE gF eU eV eX=>aG (hz:=(by rw[R.size];exact aQ)) (hv:=R.size) (h1:=R.one) eV (eS) fun gG eY eZ=>Pl 1<|ng<|L0<|bO (hz:=(by rw[R.size];exact aQ)) eY<|?_
 have b5:=ud eX eZ eU
 have b6:=aJ eR (aJ cW b5)
 refine L0<|bO (ub b6 Z)<|?_
 refine ay<|m1 (dj (A:=Q) (B:=M) (aI.upd R b5 aN) (aI.old cQ b6)) fun gH cY=>ah 1<|sq<|ak 3<|cu 3 [74] 77 (((b3 != 0)||(!(decide (Q=M))))) (fun K cZ=>?_) ?_
 refine bl 74 ((b3 != 0)) (fun S=>?_) (fun S=>?_)
 have f0:=az S
 exact Pl 3<|ce cZ true (by rw[S];rfl)
 have f0:=aA S
 exact Pl 3<|ce cZ (!(decide (Q=M))) (by rw[S];rfl)
 refine nt<|?_
 have d0:=aJ d (aJ b6 cY)
 refine cb (((b3 != 0)||(!(decide (Q=M))))) (fun Y=>?_) (fun Y=>?_)
 refine aD 2<|aV<|rr (.tuple #[nS,vI 1])<|?_
 have hk:dN dir M=some r:=by unfold dN f9;simp only[a]
 refine cU (iq q0 q1 hk b4 Y) ?_
 exact⟨rfl,d0⟩
 have f1:=(bT Y).1
 have f2:=(bT Y).2
 have f3:(decide (Q=M))=true:=by simpa using f2
 refine bo<|aD 3<|rt<|rr (.tuple #[.slice eO r.length eP,vI 0])<|?_
 have hk:dN dir M=some r:=by unfold dN f9;simp only[a]
 have d1:=ax cX (aJ b5 cY) (fun x hx=>aF) (fun _ _ h=>h)
 refine cU (jA (aX.range (d1).rd) b4 f1 f3) ?_
 exact⟨_,rfl,(b7.weaken d1 d.size),d0⟩
open Go.RowKit
theorem iT(hX:db dir M=none)(h:aI m w cs.toList M)(hf:bi M) : Calls Tryz.prog 86 #[.int .i64 dir,.agg cs] w (fun e w'=>e = .returned (.tuple #[.slice none 0 0,.int .i64 1])∧aH [] w w'):=by
  have:=nW (dir:=dir) h hf
  rw[hX] at this
  exact this
theorem iZ(hX:db dir M=some l)(h:aI m w cs.toList M)(hf:bi M) : Calls Tryz.prog 86 #[.int .i64 dir,.agg cs] w (fun e w'=>∃ v,e = .returned (.tuple #[v,.int .i64 0])∧eB w.heap.size w' v l∧aH [] w w'):=by
  have:=nW (dir:=dir) h hf
  rw[hX] at this
  exact this
theorem uf{P:List Int→cF × Int}{r:Option (List Int)}  {F:cF}   (hs:∀ l,r=some l→l=b)(hrt:∀ l,r=some l→P l=(⟨u,t,M⟩,0))(hX:P b=(F,E))(hE:(((E != 0)||(!(decide (F.msg=M))))||(!((F.unit==u)&&(F.tid==t))))=true) : r=none:=by
  cases h:r with
  | none=>rfl
  | some l =>
    have h1:=hrt l h
    rw[hs l h,hX] at h1
    injection h1 with h1 h2
    subst h1 h2
    simp at hE
theorem xV{F:cF}   (hE:(((E != 0)||(!(decide (F.msg=M))))||(!((F.unit==u)&&(F.tid==t))))=false) : E=0∧F=⟨u,t,M⟩:=by
  obtain⟨u',t',M'⟩:=F
  simp only[Bool.or_eq_false_iff,Bool.not_eq_false',Bool.and_eq_true,beq_iff_eq,bne_eq_false_iff_eq,decide_eq_true_eq] at hE
  obtain⟨⟨h1,h2⟩,h3,h4⟩:=hE
  have h2:M'=M:=h2
  have h3:u'=u:=h3
  have h4:t'=t:=h4
  subst h2 h3 h4
  exact⟨h1,rfl⟩
theorem lq{x y:Option (List Int)}(h:x=y)  {e:Ending}{w':World}(k:e8 y w e w') : e8 x w e w':=by rw[h];exact k
open Go.RowKit
theorem Cn(hsl:aX m w (.slice A b.length cp) b)(hb:b.length≤1048576) : Calls Tryz.prog 126 #[.slice A b.length cp] w (jQ (b++co (cn 65535 b)) w):=by
 refine en 17 Tryz.func126 rfl<|ak 1<|aM 1<|ay<|m1 (Ch (b:=b) hsl) fun y a=>?_
 have z:=ie b (s:=65535) (by decide) (aX.range hsl)
 refine Pl 1<|ng<|L0<|d9 (m:=0) (e:=5) #[] fun l B n eP c=>?_
 have f:=cL n (xs:=[]) (by as_aux_lemma=>kernel_rfl) aR (by(try simp only[List.length_cons,List.length_nil]);omega) eP
 refine Pl 1<|?_
 have g:=aJ a c
 refine L0<|bS b9 (xs:=([])) (ys:=b) (vB 0) 1 f (aX.old hsl g) (by(try simp only[bV,aB]);omega) c.size fun i C D j k=>Pl 1<|L0<|Oe (vW (Int.tmod (cn 65535 b) 256)) (vW ((cn 65535 b)%256)) (congrArg (Value.int .u16) (Int.tmod_eq_emod_of_nonneg (by omega)))<|Pl 2<|L0<|Oe (vW (IntKind.u16.wrap (Int.tdiv (cn 65535 b) 256))) (vW ((cn 65535 b)/256)) (congrArg (Value.int .u16) (mr (by omega) (by omega)))<|Pl 1<|L0<|d9 (m:=2) (e:=5) #[vB (((cn 65535 b)%256)%256),vB (((cn 65535 b)/256)%256)] fun E F o p d=>?_
 have q:=cL o (xs:=[(((cn 65535 b)%256)%256),(((cn 65535 b)/256)%256)]) (by as_aux_lemma=>kernel_rfl) (ap (by omega) (ap (by omega) aR)) (by(try simp only[List.length_cons,List.length_nil]);omega) p
 refine L0<|bS b9 (xs:=([]++b)) (ys:=([(((cn 65535 b)%256)%256),(((cn 65535 b)/256)%256)])) (vB 0) 1 (ax j d (fun x hx=>aF) (fun _ _ h=>h)) (q).rd (by(try simp only[bV,aB]);omega) (le (le c.size k.size) d.size) fun r t G u v=>ah 1<|rt<|rr (.slice r ((([]++b)++[(((cn 65535 b)%256)%256),(((cn 65535 b)/256)%256)]).length) t)<|?_
 have hs:b++co (cn 65535 b)=(([]++b)++[(((cn 65535 b)%256)%256),(((cn 65535 b)/256)%256)]):=by show _++[_,_]=_++[_,_];rw[List.nil_append];congr 2;omega
 rw[hs]
 exact⟨_,rfl,(b7.weaken u a.size),(ut g (ut (aH.mono (S':=(ob (some ⟨l,0,none⟩)++(ob i++[]))) k (aq il aC)) (ut (aH.mono (S':=(ob i++[])) d aC) v (aq il aC)) (aq il aC)) (aq (aU f a.size) (aq (aU j a.size) aC)))⟩
theorem Dt(h:aX m w v b)(hb:b.length≤1048576) : Calls Tryz.prog 126 #[v] w (jQ (b++co (cn 65535 b)) w):=by
  obtain⟨A,cp,rfl,_,_⟩:=h.shape
  exact Cn h hb
theorem qY(hbu:0≤u∧u<256)(hbt:0≤t∧t<65536)(hsl:aX m w (.slice A b.length cp) b)(hb:b.length≤253) : Calls Tryz.prog 87 #[.agg #[vB u,vW t],.slice A b.length cp] w (jQ (jd u b) w):=by
 refine en 11 Tryz.func87 rfl<|sg<|L0<|da #[vB u,vW t] fun q r s h a=>Pl 1<|aM 1<|aE h 0<|L0<|d9 (m:=1) (e:=5) #[vB u] fun v x i j c=>?_
 have d:=cL i (xs:=[u]) (by as_aux_lemma=>kernel_rfl) (ap (by omega) aR) (by(try simp only[List.length_cons,List.length_nil]);omega) j
 refine Pl 1<|?_
 have f:=aJ a c
 refine L0<|bS b9 (xs:=([u])) (ys:=b) (vB 0) 1 d (aX.old hsl f) (by(try simp only[bV,aB]);omega) c.size fun y z B k g=>ay<|e9 (Dt (k).rd (by(try simp only[bV]);omega)) fun l n C o D E p=>ah 1<|rt<|rr (.slice l ((([u]++b)++co (cn 65535 ([u]++b))).length) n)<|?_
 exact⟨_,rfl,(b7.weaken o (le (le a.size c.size) g.size)),(ut f (aJ g p) (aq (aU d a.size) aC))⟩
theorem tK(hbu:0≤u∧u<256)(hbt:0≤t∧t<65536)(h:aX m w v b)(hb:b.length≤253) : Calls Tryz.prog 87 #[.agg #[.int .u8 u,.int .u16 t],v] w (jQ (jd u b) w):=by
  obtain⟨A,cp,rfl,_,_⟩:=h.shape
  exact qY hbu hbt h hb
theorem nA(h:aI m w (f8 M x).toList M)(hf:bi M)(hbu:0≤u∧u<256)(hbt:0≤t∧t<65536) : Calls Tryz.prog 60 #[vI dir,.agg (dH u t M x)] w (e8 (fP dir u t M) w):=by
 obtain⟨hc,hd⟩:=h.rngs
 refine en 50 Tryz.func60 rfl<|sg<|L0<|da (dH u t M x) fun V W X n b=>Pl 2<|aM 2<|L0<|nZ n 2 22<|wo (db dir M) (fun hW=>?_) (fun l hW=>?_)
 refine ay<|m1 (iT hW (aI.old h b) hf) fun Y F=>ah 5<|sq<|aD 2<|c1<|ak 2<|nl<|tn<|aV<|rr (.tuple #[nS,vI 1])<|lq (show fP dir u t M=none by unfold fP;rw[hW]) ?_
 exact⟨rfl,(aJ b F)⟩
 have hlw:=pY hc hW
 have o:=aI.old h b
 refine ay<|e9 (iZ hW o hf) fun Z a0 a1 G a2 a3 f=>ah 5<|sq<|aD 2<|c0<|bo<|sq<|go<|Pl 1<|?_
 have p:=ub f n
 refine L0<|nZ p 0 2<|Pl 1<|ay<|e9 (tK (u:=u) (t:=t) hbu hbt (G).rd hlw) fun H I a4 q a5 a6 J=>Pl 1<|aM 2<|?_
 have hlb:((jd u l)).length≤1048576:=by rw[gx];omega
 refine pr (ec dir (jd u l)) fun a c g=>?_
 refine ay<|e2 (kT g (q).rd hlb) fun x42 a7 L r=>?_
 obtain⟨N,a8,a9⟩:=L
 have s:=ax q r (fun x hx=>aF) (fun _ _ h=>h)
 have O:=cG.rdt N (s).rd
 refine Pl 3<|aK #[vB 0,vW 0,vB 0,vB 0,vW 0,vW 0,vW 0,vW 0,vW 0,vW 0,vW 0,vW 0,vW 0,vW 0,nS,nS,nS,nS,vB 0,vB 0,vB 0,vB 0,vB 0,nS] fun aa ab Q R S=>aG R (dH a.unit a.tid a.msg x42) fun ac v T=>Pl 1<|aM 1<|L0<|nZ v 2 22<|Pl 1<|?_
 have i:=ud S T Q
 have y:=aJ J (aJ r i)
 have z:=ub y p
 refine L0<|nZ z 2 22<|?_
 have A:=aJ f y
 refine ay<|m1 (dj (aI.upd O i aN) (aI.old o A)) fun ad e=>ah 1<|sq<|ak 3<|cu 3 [38] 41 (((c != 0)||(!(decide (a.msg=M))))) (fun K B=>?_) ?_
 refine bl 38 ((c != 0)) (fun d=>?_) (fun d=>?_)
 have U:=az d
 exact Pl 3<|ce B true (by rw[d];rfl)
 have U:=aA d
 exact Pl 3<|ce B (!(decide (a.msg=M))) (by rw[d];rfl)
 refine Pl 1<|cu 6 [42] 48 ((((c != 0)||(!(decide (a.msg=M))))||(!((a.unit==u)&&(a.tid==t))))) (fun K C=>?_) ?_
 refine bl 42 (((c != 0)||(!(decide (a.msg=M))))) (fun j=>?_) (fun j=>?_)
 exact Pl 6<|ce C true (by rw[j];rfl)
 refine Pl 1<|?_
 refine L1<|nZ (ub e v) 0 2<|Pl 1<|?_
 exact L1<|nZ (ub e z) 0 2<|L1<|gt (.bool (!((a.unit==u)&&(a.tid==t)))) (iS a.unit a.tid u t rfl (by kernel_rfl) (by kernel_rfl) rfl)<|Pl 1<|ce C (!((a.unit==u)&&(a.tid==t))) (by rw[j];rfl)
 refine nt<|?_
 have D:=aJ b (aJ A e)
 refine cb ((((c != 0)||(!(decide (a.msg=M))))||(!((a.unit==u)&&(a.tid==t))))) (fun k=>?_) (fun k=>?_)
 refine aD 2<|aV<|rr (.tuple #[nS,vI 1])<|lq (uf (P:=ec dir) (fun l2 h=>by obtain⟨_,l3,k1,k2,_⟩:=jC h;rw[hW] at k1;injection k1 with k1;subst k1;exact k2) (fun l2 h=>Dh (fR hc hW) hc hd h) g k) ?_
 exact⟨rfl,D⟩
 refine bo<|aD 3<|rt<|rr (.tuple #[.slice H ((jd u l).length) I,vI 0])<|?_
 obtain⟨hE0,hF0⟩:=xV k
 subst hE0 hF0
 have E:=ax s (aJ i e) (fun x hx=>aF) (fun _ _ h=>h)
 refine lq ((yS (fR hc hW) (aX.range (E).rd) g rfl rfl).1) ?_
 exact⟨_,rfl,(b7.weaken E (le b.size f.size)),D⟩
theorem pO(h:aI m w (f8 M x).toList M)(hf:bi M)(hbu:0≤u∧u<256)(hbt:0≤t∧t<65536)(hX:fP dir u t M=none) : Calls Tryz.prog 60 #[.int .i64 dir,.agg (dH u t M x)] w (fun e w'=>e = .returned (.tuple #[.slice none 0 0,.int .i64 1])∧aH [] w w'):=by
  have k:=nA (dir:=dir) h hf hbu hbt
  rw[hX] at k
  exact k
theorem qD(h:aI m w (f8 M x).toList M)(hf:bi M)(hbu:0≤u∧u<256)(hbt:0≤t∧t<65536)  (hX:fP dir u t M=some l) : Calls Tryz.prog 60 #[.int .i64 dir,.agg (dH u t M x)] w (fun e w'=>∃ v,e = .returned (.tuple #[v,.int .i64 0])∧eB w.heap.size w' v l∧aH [] w w'):=by
  have k:=nA (dir:=dir) h hf hbu hbt
  rw[hX] at k
  exact k
open Go.RowKit
theorem D7{x y:Int}(hx:0≤x∧x<256)(hy:0<y) : IntKind.u8.wrap (Int.tdiv x y)=x/y:=by
  rw[Int.tdiv_eq_ediv_of_nonneg hx.1]
  refine u8_in ⟨Int.ediv_nonneg hx.1 (Int.le_of_lt hy),?_⟩
  have:=Int.ediv_le_self y hx.1
  omega
theorem C5(hc:0≤c∧c<16) : Calls Tryz.prog 190 #[vB c] w (cc (vB (dB c)) w):=by
 refine en 9 Tryz.func190 rfl<|aD 1<|sq<|aD 2<|cb ((decide (c<10))) (fun a=>?_) (fun a=>?_)
 have b:=of_decide_eq_true a
 refine aD 3<|aV<|rr (vB ((48+c)%256))<|?_
 have hs:dB c=((48+c)%256):=by unfold dB;split<;>omega
 rw[hs]
 exact⟨rfl,(aH.refl [] _)⟩
 have b:=of_decide_eq_false a
 refine bo<|aD 3<|rt<|rr (vB ((55+c)%256))<|?_
 have hs:dB c=((55+c)%256):=by unfold dB;split<;>omega
 rw[hs]
 exact⟨rfl,(aH.refl [] _)⟩
theorem Cq(hsl:aX m w (.slice A b.length cp) b)(hl:b.length≤1024) : Calls Tryz.prog 128 #[.slice A b.length cp] w (cc (.string (strOfNums (dp b))) w):=by
 have hb:=aX.range hsl
 refine en 28 Tryz.func128 rfl<|ak 1<|cN 1<|sq<|aD 1<|bk<|je (fun x=>[(0,.slice A b.length cp),(2,.string ⟨#[]⟩),(3,.string (strOfNums x.2)),(4,vI (x.1:Int))]) (fun(x:Nat × List Int) w'=>aH [] w w'∧(x.1≤b.length)∧(x.2=dp (b.take x.1))) (fun x=>b.length-x.1) (0,[]) ⟨aH.refl _ _,(by(try dsimp only);omega),rfl⟩ ?_
 rintro⟨k,L⟩ G ⟨g,s,t⟩
 refine ji [(0,.slice A b.length cp),(2,.string ⟨#[]⟩),(3,.string (strOfNums L)),(4,vI (k:Int))] ?_
 have H:k≤b.length:=s
 have I:L=dp (b.take k):=t
 have hL:L=dp (b.take k):=by assumption
 have hLn:L.length=2*k:=by rw[hL,eb,List.length_take];omega
 have hLb:dz L:=by rw[hL];exact jI fun x hx=>hb x (List.mem_of_mem_take hx)
 refine sq<|aD 4<|cb ((decide ((k:Int)<(b.length:Int)))) (fun h=>?_) (fun h=>?_)
 have u:=of_decide_eq_true h
 refine bo<|sq<|bk<|?_
 refine ft (aX.at_ (aX.old hsl g) k (by omega)) fun v y j f J=>Rg 17 (fun w'=>w'.cell? ⟨v,y+k,none⟩=some (vB (b.getD k 0))) fun K l=>bp (uc l f) fun d=>Rt 0 d<|Rt 1 d<|Rt 2 d<|lL 3 d b.length k (k:Int) rfl j (by omega)<|Rl 4 d (fun _ hs=>hs)<|Rr 5 d (vB ((b.getD k 0)/16)) (fun _ _=>bW (vB (IntKind.u8.wrap (Int.tdiv (b.getD k 0) 16))) (by kernel_rfl) (congrArg (Value.int .u8) (D7 (by omega) (by omega))))<|Rt 7 d<|Rt 8 d<|lL 9 d b.length k (k:Int) rfl j (by omega)<|Rl 10 d (fun _ hs=>hs)<|Rr 11 d (vB ((b.getD k 0)%16)) (fun _ _=>bW (vB (Int.tmod (b.getD k 0) 16)) (by kernel_rfl) (congrArg (Value.int .u8) (Int.tmod_eq_emod_of_nonneg (by omega))))<|?_
 have M:=ik (n:=((b.getD k 0)/16)) (by omega)
 refine R0 6 rfl<|Oc<|m1 (C5 (c:=((b.getD k 0)/16)) (w:=_) (by omega)) fun N z=>?_
 have o:=aJ l z
 refine bp (uc o f) fun O=>?_
 have P:=ik (n:=((b.getD k 0)%16)) (by omega)
 refine R0 12 rfl<|Oc<|m1 (C5 (c:=((b.getD k 0)%16)) (w:=_) (by omega)) fun Q B=>?_
 have p:=aJ o B
 refine bp (uc p f) fun R=>R0 13 rfl<|d9 (m:=2) (e:=5) #[vB (dB ((b.getD k 0)/16)),vB (dB ((b.getD k 0)%16))] fun C S D E F=>?_
 have q:=cL D (xs:=[(dB ((b.getD k 0)/16)),(dB ((b.getD k 0)%16))]) (by as_aux_lemma=>kernel_rfl) (ap (by omega) (ap (by omega) aR)) (by(try simp only[List.length_cons,List.length_nil]);omega) E
 have i:=aJ p F
 refine bp (uc i f) fun T=>R0 14 rfl<|gt (.string (strOfNums ([(dB ((b.getD k 0)/16)),(dB ((b.getD k 0)%16))]))) (cS (A:=some ⟨C,0,none⟩) (n:=2) (c:=2) rfl (by kernel_rfl) Tryz.underlying27 Tryz.underlying5 Tryz.underlying9 (q).rd)<|bp (uc i f) fun r=>?_
 have U:dz (L++[(dB ((b.getD k 0)/16)),(dB ((b.getD k 0)%16))]):=gD hLb (aX.range (q).rd)
 refine Rr 15 r (.string (strOfNums (L++[(dB ((b.getD k 0)/16)),(dB ((b.getD k 0)%16))]))) (fun _ _=>jp (a:=(strOfNums L)) (b:=(strOfNums ([(dB ((b.getD k 0)/16)),(dB ((b.getD k 0)%16))]))) (xs:=L) (ys:=([(dB ((b.getD k 0)/16)),(dB ((b.getD k 0)%16))])) rfl (by kernel_rfl) (by kernel_rfl) rfl rfl (by simp only[bV];omega))<|Rt 16 r<|re<|bn<|tn<|go<|Pl 1<|bq ((k:Int)+1)<|Pl 1<|nl<|?_
 exact gL ((k+1),(L++[(dB ((b.getD k 0)/16)),(dB ((b.getD k 0)%16))])) ⟨(aJ g i),(by(try dsimp only);omega),(by(try dsimp only);rw[pE b k (by omega),← hL,List.append_assoc];rfl)⟩ (by omega)
 have u:=of_decide_eq_false h
 refine xt<|tx<|tx<|bx<|tn<|aD 2<|rt<|rr (.string (strOfNums L))<|?_
 have hs:dp b=L:=by rw[hL,show k=b.length by omega,List.take_length]
 rw[hs]
 exact⟨rfl,g⟩
theorem DC(h:aX m w v b)(hl:b.length≤1024) : Calls Tryz.prog 128 #[v] w (cc (.string (strOfNums (dp b))) w):=by
  obtain⟨A,cp,rfl,_,_⟩:=h.shape
  exact Cq h hl
def C6 (l:List Int)(w:World)(e:Ending)(w':World) : Prop:=∃ v,e = .returned v∧hH w.heap.size w' v l∧aH [] w w'
theorem rH(hbu:0≤u∧u<256)(hbt:0≤t∧t<65536)(hsl:aX m w (.slice A b.length cp) b)(hb:b.length≤253) : Calls Tryz.prog 89 #[.agg #[vB u,vW t],.slice A b.length cp] w (C6 (mX u b) w):=by
 refine en 21 Tryz.func89 rfl<|sg<|L0<|da #[vB u,vW t] fun O P Q s c=>Pl 1<|aM 1<|aE s 0<|L0<|d9 (m:=1) (e:=5) #[vB u] fun v R y z d=>?_
 have l:=cL y (xs:=[u]) (by as_aux_lemma=>kernel_rfl) (ap (by omega) aR) (by(try simp only[List.length_cons,List.length_nil]);omega) z
 refine Pl 1<|?_
 have n:=aJ c d
 refine L0<|bS b9 (xs:=([u])) (ys:=b) (vB 0) 1 l (aX.old hsl n) (by(try simp only[bV,aB]);omega) d.size fun f B S g i=>Pl 1<|aM 2<|ay (args:=#[.slice f (([u]++b).length) B])<|m1 (uX (g).rd) fun T j=>?_
 have U:=jK ([u]++b)
 refine L0<|d9 (m:=1) (e:=5) #[vB (cE ([u]++b))] fun V W C D k=>?_
 have E:=cL C (xs:=[(cE ([u]++b))]) (by as_aux_lemma=>kernel_rfl) (ap (by omega) aR) (by(try simp only[List.length_cons,List.length_nil]);omega) D
 have o:=aJ j k
 refine L0<|bS b9 (xs:=([u]++b)) (ys:=([(cE ([u]++b))])) (vB 0) 1 (ax g o (fun x hx=>aF) (fun _ _ h=>h)) (E).rd (by(try simp only[bV,aB]);omega) (le (le (le d.size i.size) j.size) k.size) fun F G X p q=>Pl 1<|aM 1<|ay (args:=#[.slice F ((([u]++b)++[(cE ([u]++b))]).length) G])<|m1 (DC (p).rd (by simp only[bV];omega)) fun Y r=>?_
 have H:dz (dp (([u]++b)++[(cE ([u]++b))])):=jI (aX.range (p).rd)
 have I:dz ([58]++(dp (([u]++b)++[(cE ([u]++b))]))):=gD (by decide) H
 refine L0<|gt (.string (strOfNums ([58]++(dp (([u]++b)++[(cE ([u]++b))]))))) (jp (a:=⟨#[58]⟩) (b:=(strOfNums (dp (([u]++b)++[(cE ([u]++b))])))) (xs:=([58])) (ys:=(dp (([u]++b)++[(cE ([u]++b))]))) rfl (by kernel_rfl) (by kernel_rfl) rfl rfl (by simp only[eb,List.length_append,List.length_cons,List.length_nil];omega))<|?_
 have J:dz (([58]++(dp (([u]++b)++[(cE ([u]++b))])))++[13,10]):=gD I (by decide)
 refine L0<|gt (.string (strOfNums (([58]++(dp (([u]++b)++[(cE ([u]++b))])))++[13,10]))) (jp (a:=(strOfNums ([58]++(dp (([u]++b)++[(cE ([u]++b))]))))) (b:=⟨#[13,10]⟩) (xs:=([58]++(dp (([u]++b)++[(cE ([u]++b))])))) (ys:=([13,10])) rfl (by kernel_rfl) (by kernel_rfl) rfl rfl (by simp only[eb,List.length_append,List.length_cons,List.length_nil];omega))<|L0<|EQ (xs:=(([58]++(dp (([u]++b)++[(cE ([u]++b))])))++[13,10])) Tryz.underlying9 Tryz.underlying27 Tryz.underlying5 J (by simp only[eb,List.length_append,List.length_cons,List.length_nil];omega) fun K L Z M N=>ah 1<|rt<|rr (.slice K ((([58]++(dp (([u]++b)++[(cE ([u]++b))])))++[13,10]).length) L)<|?_
 exact⟨_,rfl,M.weaken (le (le (le (le (le (le c.size d.size) i.size) j.size) k.size) q.size) r.size),(ut n (ut (aH.mono (S':=(ob (some ⟨v,0,none⟩)++(ob f++[]))) i (aq il aC)) (ut (aH.mono (S':=(ob f++[])) o aC) (aJ q (aJ r N)) (aq il aC)) (aq il aC)) (aq (aU l c.size) (aq (aU g c.size) aC)))⟩
theorem tO(hbu:0≤u∧u<256)(hbt:0≤t∧t<65536)(h:aX m w v b)(hb:b.length≤253) : Calls Tryz.prog 89 #[.agg #[.int .u8 u,.int .u16 t],v] w (C6 (mX u b) w):=by
  obtain⟨A,cp,rfl,_,_⟩:=h.shape
  exact rH hbu hbt h hb
theorem nV(h:aI m w (f8 M x).toList M)(hf:bi M)(hbu:0≤u∧u<256)(hbt:0≤t∧t<65536) : Calls Tryz.prog 61 #[vI dir,.agg (dH u t M x)] w (mt (fQ dir u t M) w):=by
 obtain⟨hc,hd⟩:=h.rngs
 refine en 50 Tryz.func61 rfl<|sg<|L0<|da (dH u t M x) fun W X Y o b=>Pl 2<|aM 2<|L0<|nZ o 2 22<|wo (db dir M) (fun hW=>?_) (fun l hW=>?_)
 refine ay<|m1 (iT hW (aI.old h b) hf) fun Z F=>ah 5<|sq<|aD 2<|c1<|ak 2<|nl<|tn<|aV<|rr (.tuple #[nS,vI 1])<|tG (show fQ dir u t M=none by unfold fQ;rw[hW]) ?_
 exact⟨rfl,(aJ b F)⟩
 have hlw:=pY hc hW
 have p:=aI.old h b
 refine ay<|e9 (iZ hW p hf) fun a0 a1 a2 q a3 a4 g=>?_
 have hby:∀ l2,db dir M=some l2→dz l2:=fun l2 h2=>by rw[hW] at h2;injection h2 with h2;subst h2;exact aX.range (q).rd
 refine ah 5<|sq<|aD 2<|c0<|bo<|ak 1<|?_
 have r:=ub g o
 refine L0<|nZ r 0 2<|Pl 1<|ay<|e2 (tO (u:=u) (t:=t) hbu hbt (q).rd hlw) fun a5 a6 e G=>?_
 rcases hH.shape e with⟨H,I,rfl⟩
 rcases aS.shape (e).rd with⟨_,_,i,J,L⟩
 injection i with _ _ i
 rw[← i] at J L
 refine Pl 1<|aM 2<|?_
 have hlb:((mX u l)).length≤1048576:=by rw[rz];omega
 refine pr (eD dir (mX u l)) fun a c j=>?_
 refine ay<|e2 (kv j (e).rd hlb) fun x42 a7 N O=>?_
 obtain⟨Q,a8,a9⟩:=N
 refine Pl 3<|aK #[vB 0,vW 0,vB 0,vB 0,vW 0,vW 0,vW 0,vW 0,vW 0,vW 0,vW 0,vW 0,vW 0,vW 0,nS,nS,nS,nS,vB 0,vB 0,vB 0,vB 0,vB 0,nS] fun aa ab R S T=>aG S (dH a.unit a.tid a.msg x42) fun ac s U=>Pl 1<|aM 1<|L0<|nZ s 2 22<|Pl 1<|?_
 have v:=ud T U R
 have y:=aJ O v
 have z:=aJ G y
 have A:=ub z r
 refine L0<|nZ A 2 22<|?_
 have B:=aJ g z
 refine ay<|m1 (dj (aI.upd Q v aN) (aI.old p B)) fun ad f=>ah 1<|sq<|ak 3<|cu 3 [38] 41 (((c != 0)||(!(decide (a.msg=M))))) (fun K C=>?_) ?_
 refine bl 38 ((c != 0)) (fun d=>?_) (fun d=>?_)
 have V:=az d
 exact Pl 3<|ce C true (by rw[d];rfl)
 have V:=aA d
 exact Pl 3<|ce C (!(decide (a.msg=M))) (by rw[d];rfl)
 refine Pl 1<|cu 6 [42] 48 ((((c != 0)||(!(decide (a.msg=M))))||(!((a.unit==u)&&(a.tid==t))))) (fun K D=>?_) ?_
 refine bl 42 (((c != 0)||(!(decide (a.msg=M))))) (fun k=>?_) (fun k=>?_)
 exact Pl 6<|ce D true (by rw[k];rfl)
 refine Pl 1<|?_
 refine L1<|nZ (ub f s) 0 2<|Pl 1<|?_
 exact L1<|nZ (ub f A) 0 2<|L1<|gt (.bool (!((a.unit==u)&&(a.tid==t)))) (iS a.unit a.tid u t rfl (by kernel_rfl) (by kernel_rfl) rfl)<|Pl 1<|ce D (!((a.unit==u)&&(a.tid==t))) (by rw[k];rfl)
 refine nt<|?_
 have E:=aJ b (aJ B f)
 refine cb ((((c != 0)||(!(decide (a.msg=M))))||(!((a.unit==u)&&(a.tid==t))))) (fun n=>?_) (fun n=>?_)
 refine aD 2<|aV<|rr (.tuple #[nS,vI 1])<|tG (uf (P:=eD dir) (fun l2 h=>by obtain⟨_,l3,k1,k2,_⟩:=jO h;rw[hW] at k1;injection k1 with k1;subst k1;exact k2) (fun l2 h=>CP (fR hc hW) hbu hc hd hby h) j n) ?_
 exact⟨rfl,E⟩
 refine bo<|aD 3<|rt<|rr (.tuple #[.slice (some ⟨H,0,none⟩) ((mX u l).length) I,vI 0])<|?_
 obtain⟨hE0,hF0⟩:=xV n
 subst hE0 hF0
 refine tG ((xP (fR hc hW) j rfl rfl).1) ?_
 exact⟨_,rfl,((hH.old e (aJ y f)).weaken (le b.size g.size)),E⟩
theorem qu(h:aI m w (f8 M x).toList M)(hf:bi M)(hbu:0≤u∧u<256)(hbt:0≤t∧t<65536)(hX:fQ dir u t M=none) : Calls Tryz.prog 61 #[.int .i64 dir,.agg (dH u t M x)] w (fun e w'=>e = .returned (.tuple #[.slice none 0 0,.int .i64 1])∧aH [] w w'):=by
  have k:=nV (dir:=dir) h hf hbu hbt
  rw[hX] at k
  exact k
theorem qI(h:aI m w (f8 M x).toList M)(hf:bi M)(hbu:0≤u∧u<256)(hbt:0≤t∧t<65536)  (hX:fQ dir u t M=some l) : Calls Tryz.prog 61 #[.int .i64 dir,.agg (dH u t M x)] w (fun e w'=>∃ v,e = .returned (.tuple #[v,.int .i64 0])∧hH w.heap.size w' v l∧aH [] w w'):=by
  have k:=nV (dir:=dir) h hf hbu hbt
  rw[hX] at k
  exact k
open Go.RowKit
theorem qG(hbu:0≤u∧u<256)(hbt:0≤t∧t<65536)(hsl:aX m w (.slice A b.length cp) b)(hb:b.length≤253) : Calls Tryz.prog 90 #[.agg #[vB u,vW t],.slice A b.length cp] w (jQ (mh t 0 ((b.length:Int)+1) u b) w):=by
 refine en 21 Tryz.func90 rfl<|sg<|L0<|da #[vB u,vW t] fun E F G g d=>Pl 1<|aM 1<|aE g 1<|Pl 2<|bq ((b.length:Int)+1)<|Pl 1<|L0<|d9 (m:=3) (e:=37) #[vW t,vW 0,vW (((b.length:Int)+1)%65536)] fun H I o p a=>?_
 have q:=eJ o (xs:=[t,0,(((b.length:Int)+1)%65536)]) (by as_aux_lemma=>kernel_rfl) (ap (by omega) (ap (by omega) (ap (by omega) aR))) (by(try simp only[List.length_cons,List.length_nil]);omega) p
 refine ay<|e9 (i6 (xs:=[t,0,(((b.length:Int)+1)%65536)]) (q).rd (by(try simp only[bV]);omega)) fun r J K i L M f=>Pl 1<|aM 2<|?_
 have j:=aJ a f
 refine aE (ub j g) 0<|L0<|d9 (m:=1) (e:=5) #[vB u] fun N O s v c=>?_
 have y:=cL s (xs:=[u]) (by as_aux_lemma=>kernel_rfl) (ap (by omega) aR) (by(try simp only[List.length_cons,List.length_nil]);omega) v
 refine L0<|bS b9 (xs:=(aP ([t,0,(((b.length:Int)+1)%65536)]))) (ys:=([u])) (vB 0) 1 (ax i c (fun x hx=>aF) (fun _ _ h=>h)) (y).rd (by(try simp only[bV,aB]);omega) (le f.size c.size) fun P Q R k l=>Pl 1<|?_
 have n:=aJ d (ut j (ut (aH.mono (S':=(ob r++[])) c aC) l (aq il aC)) (aq (aU i a.size) aC))
 refine L0<|bS b9 (xs:=((aP ([t,0,(((b.length:Int)+1)%65536)]))++[u])) (ys:=b) (vB 0) 1 k (aX.old hsl n) (by(try simp only[bV,aB]);omega) (le (le f.size c.size) l.size) fun z B S C D=>ah 1<|rt<|rr (.slice z ((((aP ([t,0,(((b.length:Int)+1)%65536)]))++[u])++b).length) B)<|?_
 rw[show mh t 0 ((b.length:Int)+1) u b=(aP [t,0,((b.length:Int)+1)%65536]++[u])++b from by unfold mh;rw[show((b.length:Int)+1)%65536=(b.length:Int)+1 from by omega]]
 exact⟨_,rfl,(b7.weaken C (le d.size a.size)),(ut n D (aq (aU k (le d.size a.size)) aC))⟩
theorem sl(hbu:0≤u∧u<256)(hbt:0≤t∧t<65536)(h:aX m w v b)(hb:b.length≤253) : Calls Tryz.prog 90 #[.agg #[.int .u8 u,.int .u16 t],v] w (jQ (mh t 0 ((b.length:Int)+1) u b) w):=by
  obtain⟨A,cp,rfl,_,_⟩:=h.shape
  exact qG hbu hbt h hb
theorem lY(h:aI m w (f8 M x).toList M)(hf:bi M)(hbu:0≤u∧u<256)(hbt:0≤t∧t<65536) : Calls Tryz.prog 62 #[vI dir,.agg (dH u t M x)] w (e8 (ey dir u t M) w):=by
 obtain⟨hc,hd⟩:=h.rngs
 refine en 50 Tryz.func62 rfl<|sg<|L0<|da (dH u t M x) fun V W X n b=>Pl 2<|aM 2<|L0<|nZ n 2 22<|wo (db dir M) (fun hW=>?_) (fun l hW=>?_)
 refine ay<|m1 (iT hW (aI.old h b) hf) fun Y F=>ah 5<|sq<|aD 2<|c1<|ak 2<|nl<|tn<|aV<|rr (.tuple #[nS,vI 1])<|lq (show ey dir u t M=none by unfold ey;rw[hW]) ?_
 exact⟨rfl,(aJ b F)⟩
 have hlw:=pY hc hW
 have o:=aI.old h b
 refine ay<|e9 (iZ hW o hf) fun Z a0 a1 G a2 a3 f=>ah 5<|sq<|aD 2<|c0<|bo<|sq<|go<|Pl 1<|?_
 have p:=ub f n
 refine L0<|nZ p 0 2<|Pl 1<|ay<|e9 (sl (u:=u) (t:=t) hbu hbt (G).rd hlw) fun H I a4 q a5 a6 J=>Pl 1<|aM 2<|?_
 have hlb:((mh t 0 ((l.length:Int)+1) u l)).length≤1048576:=by rw[mB];omega
 refine pr (dq dir (mh t 0 ((l.length:Int)+1) u l)) fun a c g=>?_
 refine ay<|e2 (jU g (q).rd hlb) fun x42 a7 L r=>?_
 obtain⟨N,a8,a9⟩:=L
 have s:=ax q r (fun x hx=>aF) (fun _ _ h=>h)
 have O:=cG.rdt N (s).rd
 refine Pl 3<|aK #[vB 0,vW 0,vB 0,vB 0,vW 0,vW 0,vW 0,vW 0,vW 0,vW 0,vW 0,vW 0,vW 0,vW 0,nS,nS,nS,nS,vB 0,vB 0,vB 0,vB 0,vB 0,nS] fun aa ab Q R S=>aG R (dH a.unit a.tid a.msg x42) fun ac v T=>Pl 1<|aM 1<|L0<|nZ v 2 22<|Pl 1<|?_
 have i:=ud S T Q
 have y:=aJ J (aJ r i)
 have z:=ub y p
 refine L0<|nZ z 2 22<|?_
 have A:=aJ f y
 refine ay<|m1 (dj (aI.upd O i aN) (aI.old o A)) fun ad e=>ah 1<|sq<|ak 3<|cu 3 [38] 41 (((c != 0)||(!(decide (a.msg=M))))) (fun K B=>?_) ?_
 refine bl 38 ((c != 0)) (fun d=>?_) (fun d=>?_)
 have U:=az d
 exact Pl 3<|ce B true (by rw[d];rfl)
 have U:=aA d
 exact Pl 3<|ce B (!(decide (a.msg=M))) (by rw[d];rfl)
 refine Pl 1<|cu 6 [42] 48 ((((c != 0)||(!(decide (a.msg=M))))||(!((a.unit==u)&&(a.tid==t))))) (fun K C=>?_) ?_
 refine bl 42 (((c != 0)||(!(decide (a.msg=M))))) (fun j=>?_) (fun j=>?_)
 exact Pl 6<|ce C true (by rw[j];rfl)
 refine Pl 1<|?_
 refine L1<|nZ (ub e v) 0 2<|Pl 1<|?_
 exact L1<|nZ (ub e z) 0 2<|L1<|gt (.bool (!((a.unit==u)&&(a.tid==t)))) (iS a.unit a.tid u t rfl (by kernel_rfl) (by kernel_rfl) rfl)<|Pl 1<|ce C (!((a.unit==u)&&(a.tid==t))) (by rw[j];rfl)
 refine nt<|?_
 have D:=aJ b (aJ A e)
 refine cb ((((c != 0)||(!(decide (a.msg=M))))||(!((a.unit==u)&&(a.tid==t))))) (fun k=>?_) (fun k=>?_)
 refine aD 2<|aV<|rr (.tuple #[nS,vI 1])<|lq (uf (P:=dq dir) (fun l2 h=>by obtain⟨l3,k1,k2,_⟩:=iI h;rw[hW] at k1;injection k1 with k1;subst k1;exact k2) (fun l2 h=>Bc (fR hc hW) hc hd hbt h) g k) ?_
 exact⟨rfl,D⟩
 refine bo<|aD 3<|rt<|rr (.tuple #[.slice H ((mh t 0 ((l.length:Int)+1) u l).length) I,vI 0])<|?_
 obtain⟨hE0,hF0⟩:=xV k
 subst hE0 hF0
 have E:=ax s (aJ i e) (fun x hx=>aF) (fun _ _ h=>h)
 refine lq ((wJ (fR hc hW) (aX.range (E).rd) g rfl rfl).1) ?_
 exact⟨_,rfl,(b7.weaken E (le b.size f.size)),D⟩
theorem ol(h:aI m w (f8 M x).toList M)(hf:bi M)(hbu:0≤u∧u<256)(hbt:0≤t∧t<65536)(hX:ey dir u t M=none) : Calls Tryz.prog 62 #[.int .i64 dir,.agg (dH u t M x)] w (fun e w'=>e = .returned (.tuple #[.slice none 0 0,.int .i64 1])∧aH [] w w'):=by
  have k:=lY (dir:=dir) h hf hbu hbt
  rw[hX] at k
  exact k
theorem o5(h:aI m w (f8 M x).toList M)(hf:bi M)(hbu:0≤u∧u<256)(hbt:0≤t∧t<65536)  (hX:ey dir u t M=some l) : Calls Tryz.prog 62 #[.int .i64 dir,.agg (dH u t M x)] w (fun e w'=>∃ v,e = .returned (.tuple #[v,.int .i64 0])∧eB w.heap.size w' v l∧aH [] w w'):=by
  have k:=lY (dir:=dir) h hf hbu hbt
  rw[hX] at k
  exact k
open Go.RowKit
theorem s0(h:aI m w (f8 M x).toList M)(hf:bi M)(hbu:0≤u∧u<256)(hbt:0≤t∧t<65536) : Calls Tryz.prog 60 #[.int .i64 dir,.agg (dH u t M x)] w (sU (fP dir u t M) w):=by
  cases hX:fP dir u t M with
  | none =>
    refine(pO h hf hbu hbt hX).mono ?_
    rintro e w' ⟨rfl,hu⟩
    exact⟨_,_,rfl,⟨rfl,rfl⟩,hu⟩
  | some l =>
    refine(qD h hf hbu hbt hX).mono ?_
    rintro e w' ⟨v,rfl,ho,hu⟩
    exact⟨_,_,rfl,⟨rfl,fd.of ho⟩,hu⟩
theorem qP(h:aI m w (f8 M x).toList M)(hf:bi M)(hbu:0≤u∧u<256)(hbt:0≤t∧t<65536) : Calls Tryz.prog 61 #[.int .i64 dir,.agg (dH u t M x)] w (sU (fQ dir u t M) w):=by
  cases hX:fQ dir u t M with
  | none =>
    refine(qu h hf hbu hbt hX).mono ?_
    rintro e w' ⟨rfl,hu⟩
    exact⟨_,_,rfl,⟨rfl,rfl⟩,hu⟩
  | some l =>
    refine(qI h hf hbu hbt hX).mono ?_
    rintro e w' ⟨v,rfl,ho,hu⟩
    exact⟨_,_,rfl,⟨rfl,fd.ofF ho⟩,hu⟩
theorem pK(h:aI m w (f8 M x).toList M)(hf:bi M)(hbu:0≤u∧u<256)(hbt:0≤t∧t<65536) : Calls Tryz.prog 62 #[.int .i64 dir,.agg (dH u t M x)] w (sU (ey dir u t M) w):=by
  cases hX:ey dir u t M with
  | none =>
    refine(ol h hf hbu hbt hX).mono ?_
    rintro e w' ⟨rfl,hu⟩
    exact⟨_,_,rfl,⟨rfl,rfl⟩,hu⟩
  | some l =>
    refine(o5 h hf hbu hbt hX).mono ?_
    rintro e w' ⟨v,rfl,ho,hu⟩
    exact⟨_,_,rfl,⟨rfl,fd.of ho⟩,hu⟩
theorem nH(h:aI m w (f8 M x).toList M)(hf:bi M)(hbu:0≤u∧u<256)(hbt:0≤t∧t<65536) : Calls Tryz.prog 28 #[vI k,vI dir,.agg (dH u t M x)] w (sU (gC k dir u t M) w):=by
 refine en 30 Tryz.func28 rfl<|sg<|L0<|da (dH u t M x) fun B C D e a=>ah 2<|sq<|aD 1<|bk<|aD 2<|cb ((k==0)) (fun b=>?_) (fun b=>?_)
 have f:=ag b
 refine ak 1<|L0<|bO e<|?_
 refine ay<|zZ (s0 (dir:=dir) (aI.old h a) hf hbu hbt) fun g i E j l=>ah 4<|rt<|br<|tr<|rr (.tuple #[g,vI i])<|?_
 have hs:gC k dir u t M=fP dir u t M:=by unfold gC;simp only[b,cond_true,cond_false]
 rw[hs]
 exact⟨_,_,rfl,j.wk a.size,(aJ a l)⟩
 have f:=am b
 refine aD 2<|cb ((k==1)) (fun c=>?_) (fun c=>?_)
 have n:=ag c
 refine ak 1<|L0<|bO e<|?_
 refine ay<|zZ (qP (dir:=dir) (aI.old h a) hf hbu hbt) fun o p F q r=>ah 4<|rt<|br<|tr<|rr (.tuple #[o,vI p])<|?_
 have hs:gC k dir u t M=fQ dir u t M:=by unfold gC;simp only[b,c,cond_true,cond_false]
 rw[hs]
 exact⟨_,_,rfl,q.wk a.size,(aJ a r)⟩
 have n:=am c
 refine aD 2<|cb ((k==2)) (fun d=>?_) (fun d=>?_)
 have s:=ag d
 refine ak 1<|L0<|bO e<|?_
 refine ay<|zZ (pK (dir:=dir) (aI.old h a) hf hbu hbt) fun v y G z A=>ah 4<|rt<|br<|tr<|rr (.tuple #[v,vI y])<|?_
 have hs:gC k dir u t M=ey dir u t M:=by unfold gC;simp only[b,c,d,cond_true,cond_false]
 rw[hs]
 exact⟨_,_,rfl,z.wk a.size,(aJ a A)⟩
 have s:=am d
 refine sk<|bn<|tn<|aD 2<|rt<|rr (.tuple #[nS,vI 1])<|?_
 have hs:gC k dir u t M=none:=by unfold gC;simp only[b,c,d,cond_true,cond_false]
 rw[hs]
 exact⟨_,_,rfl,⟨rfl,rfl⟩,a⟩
theorem kE(h:aI m w (f8 M x).toList M)(hf:bi M)(hbu:0≤u∧u<256)(hbt:0≤t∧t<65536)(hX:gC k dir u t M=none) : Calls Tryz.prog 28 #[.int .i64 k,.int .i64 dir,.agg (dH u t M x)] w (fun e w'=>e = .returned (.tuple #[.slice none 0 0,.int .i64 1])∧aH [] w w'):=by
  refine(nH h hf hbu hbt).mono ?_
  rw[hX]
  rintro e w' ⟨v,n,rfl,⟨rfl,rfl⟩,hu⟩
  exact⟨rfl,hu⟩
theorem l0(h:aI m w (f8 M x).toList M)(hf:bi M)(hbu:0≤u∧u<256)(hbt:0≤t∧t<65536)(hX:gC k dir u t M=some l) : Calls Tryz.prog 28 #[.int .i64 k,.int .i64 dir,.agg (dH u t M x)] w (fun e w'=>∃ v,e = .returned (.tuple #[v,.int .i64 0])∧fd w.heap.size w' v l∧aH [] w w'):=by
  refine(nH h hf hbu hbt).mono ?_
  rw[hX]
  rintro e w' ⟨v,n,rfl,⟨rfl,ho⟩,hu⟩
  exact⟨v,rfl,ho,hu⟩
open Go.RowKit
theorem uw(h:k<0∨2<k) : (l6 k==0)=true:=by
  have e0:(k==0)=false:=by simp;omega
  have e1:(k==1)=false:=by simp;omega
  have e2:(k==2)=false:=by simp;omega
  rw[yn e0 e1 e2]
  rfl
theorem Bp(h:((((decide (a<0))||(decide (2<a)))||(decide (c<0)))||(decide (2<c)))=true) : eU a c dir b=(none,1):=by
  simp only[Bool.or_eq_true,decide_eq_true_eq] at h
  have h:(l6 a==0 || l6 c==0)=true:=by
    by_cases ha:a<0∨2<a
    · rw[uw ha];rfl
    · rw[uw (k:=c) (by omega),Bool.or_true]
  unfold eU
  rw[h]
  rfl
theorem jq(h:((((decide (a<0))||(decide (2<a)))||(decide (c<0)))||(decide (2<c)))=false) : (l6 a==0 || l6 c==0)=false:=by
  simp only[Bool.or_eq_false_iff,decide_eq_false_iff_not] at h
  rw[rb (k:=a) (by omega),rb (k:=c) (by omega)]
  rfl
theorem u4(hsl:aX m w (.slice A b.length cp) b)(hb:b.length≤1048576) : Calls Tryz.prog 31 #[.int .i64 a,.int .i64 c,.int .i64 dir,.slice A b.length cp] w (PT (eU a c dir b) w):=by
 refine en 46 Tryz.func31 rfl<|sg<|Pl 2<|nt<|sq<|sg<|Pl 3<|cu 3 [14] 17 (((decide (a<0))||(decide (2<a)))) (fun K z=>?_) ?_
 refine bl 14 ((decide (a<0))) (fun k=>?_) (fun k=>?_)
 have M:=of_decide_eq_true k
 exact Pl 3<|ce z true (by rw[k];rfl)
 have M:=of_decide_eq_false k
 exact Pl 3<|ce z (decide (2<a)) (by rw[k];rfl)
 refine Pl 1<|cu 3 [18] 21 ((((decide (a<0))||(decide (2<a)))||(decide (c<0)))) (fun K B=>?_) ?_
 refine bl 18 (((decide (a<0))||(decide (2<a)))) (fun r=>?_) (fun r=>?_)
 exact Pl 3<|ce B true (by rw[r];rfl)
 exact Pl 3<|ce B (decide (c<0)) (by rw[r];rfl)
 refine Pl 1<|cu 3 [22] 25 (((((decide (a<0))||(decide (2<a)))||(decide (c<0)))||(decide (2<c)))) (fun K C=>?_) ?_
 refine bl 22 ((((decide (a<0))||(decide (2<a)))||(decide (c<0)))) (fun s=>?_) (fun s=>?_)
 exact Pl 3<|ce C true (by rw[s];rfl)
 exact Pl 3<|ce C (decide (2<c)) (by rw[s];rfl)
 refine nt<|cb (((((decide (a<0))||(decide (2<a)))||(decide (c<0)))||(decide (2<c)))) (fun f=>?_) (fun f=>?_)
 refine sg<|Pl 2<|nt<|rt<|tr<|rr (.tuple #[.slice none 0 0,.int .i64 1])<|?_
 rw[Bp f]
 exact⟨_,rfl,rfl,(aH.refl [] _)⟩
 have h:=(bT f).1
 have l:=(bT f).2
 have i:=(bT h).1
 have n:=(bT h).2
 have q16aaa:=(bT i).1
 have q16aab:=(bT i).2
 refine bo<|sg<|Pl 3<|?_
 refine pr (jh a dir b) fun d t e=>?_
 refine L0<|Oc<|e2 (pP e hsl (by omega)) fun x20 a8 N D=>?_
 obtain⟨E,a9,aa⟩:=N
 refine Pl 3<|L0<|Do kX fun ab ac u O P=>L0<|gk O (dH d.unit d.tid d.msg x20) fun ad F Q=>Pl 1<|nt<|sq<|sg<|Pl 2<|nt<|?_
 have v:=ud P Q u
 have o:=aJ D v
 refine cb ((t != 0)) (fun g=>?_) (fun g=>?_)
 have R:=az g
 refine sg<|Pl 3<|nt<|rt<|tr<|rr (.tuple #[.slice none 0 0,.int .i64 t])<|?_
 have hs:eU a c dir b=(none,t):=by
   unfold eU
   rw[jq f,e]
   simp only[h,i,q16aaa,q16aab,n,l,g,cond_true,cond_false]
 rw[hs]
 exact⟨_,rfl,rfl,o⟩
 have R:=aA g
 refine bo<|sq<|sg<|Pl 2<|nt<|cb ((c != 2)) (fun j=>?_) (fun j=>?_)
 have S:=az j
 refine go<|Pl 2<|L0<|cm F 1 (dH d.unit 0 d.msg x20) fun ae T G=>ng<|Pl 2<|L0<|bO T<|?_
 have H:=aI.old E (ud v G u)
 have y:=ud o G (le D.size u)
 refine wo (gC c dir d.unit 0 d.msg) (fun p=>?_) (fun I p=>?_)
 refine L0<|Oc<|m1 (kE H (fU (aX.range hsl) e).1 (by omega) (by omega) p) fun af U=>Pl 4<|nt<|rt<|rr (.tuple #[.slice none 0 0,.int .i64 1])<|?_
 have hs:eU a c dir b=(none,1):=by
   unfold eU
   rw[jq f,e]
   simp only[h,i,q16aaa,q16aab,n,l,g,j,cond_true,cond_false]
   rw[p]
 rw[hs]
 exact⟨_,rfl,rfl,(aJ y U)⟩
 refine L0<|Oc<|e2 (l0 H (fU (aX.range hsl) e).1 (by omega) (by omega) p) fun ag ah V W=>?_
 obtain⟨X,Y,rfl,Z,a0⟩:=fd.shape V
 refine Pl 4<|nt<|rt<|rr (.tuple #[.slice X I.length Y,.int .i64 0])<|?_
 have hs:eU a c dir b=(some I,0):=by
   unfold eU
   rw[jq f,e]
   simp only[h,i,q16aaa,q16aab,n,l,g,j,cond_true,cond_false]
   rw[p]
 rw[hs]
 exact⟨_,rfl,(show fd _ _ _ _ from⟨Z,_,_,_,rfl,fun x hx=>Nat.le_trans y.size (a0 x hx)⟩),(aJ y W)⟩
 have S:=aA j
 refine bo<|sg<|Pl 2<|L0<|bO F<|?_
 have J:=aI.old E v
 refine wo (gC c dir d.unit d.tid d.msg) (fun q=>?_) (fun L q=>?_)
 refine L0<|Oc<|m1 (kE J (fU (aX.range hsl) e).1 (by omega) (by omega) q) fun ai a1=>Pl 4<|nt<|rt<|rr (.tuple #[.slice none 0 0,.int .i64 1])<|?_
 have hs:eU a c dir b=(none,1):=by
   unfold eU
   rw[jq f,e]
   simp only[h,i,q16aaa,q16aab,n,l,g,j,cond_true,cond_false]
   rw[q]
 rw[hs]
 exact⟨_,rfl,rfl,(aJ o a1)⟩
 refine L0<|Oc<|e2 (l0 J (fU (aX.range hsl) e).1 (by omega) (by omega) q) fun aj ak a2 a3=>?_
 obtain⟨a4,a5,rfl,a6,a7⟩:=fd.shape a2
 refine Pl 4<|nt<|rt<|rr (.tuple #[.slice a4 L.length a5,.int .i64 0])<|?_
 have hs:eU a c dir b=(some L,0):=by
   unfold eU
   rw[jq f,e]
   simp only[h,i,q16aaa,q16aab,n,l,g,j,cond_true,cond_false]
   rw[q]
 rw[hs]
 exact⟨_,rfl,(show fd _ _ _ _ from⟨a6,_,_,_,rfl,fun x hx=>Nat.le_trans o.size (a7 x hx)⟩),(aJ o a3)⟩
theorem oM(h:aX m w v b)(hb:b.length≤1048576) : Calls Tryz.prog 31 #[.int .i64 a,.int .i64 c,.int .i64 dir,v] w (PT (eU a c dir b) w):=by
  obtain⟨A,cp,rfl,_,_⟩:=h.shape
  exact u4 h hb
theorem rW(h:aX m w v b)(hb:b.length≤1048576)(hX:eU a c dir b=(some l,E)) : Calls Tryz.prog 31 #[.int .i64 a,.int .i64 c,.int .i64 dir,v] w (fun e w'=>∃ v,e = .returned (.tuple #[v,.int .i64 E])∧fd w.heap.size w' v l∧aH [] w w'):=by
  have k:=oM (a:=a) (c:=c) (dir:=dir) h hb
  rw[hX] at k
  exact k
theorem qL(h:aX m w v b)(hb:b.length≤1048576)(hX:eU a c dir b=(none,E)) : Calls Tryz.prog 31 #[.int .i64 a,.int .i64 c,.int .i64 dir,v] w (fun e w'=>e = .returned (.tuple #[.slice none 0 0,.int .i64 E])∧aH [] w w'):=by
  refine(oM (a:=a) (c:=c) (dir:=dir) h hb).mono ?_
  rw[hX]
  rintro e w' ⟨v,rfl,rfl,hu⟩
  exact⟨rfl,hu⟩
open Go.RowKit
theorem si{mA:Md}  {cpA:Nat}  (hb:aX mA w (.slice A b.length cpA) b) :
    Calls Tryz.prog 6 #[.int .i64 a,.int .i64 c,.int .i64 dir,.slice A b.length cpA] w (cc (.bool true) w):=by
 refine en 46 Tryz.func6 rfl<|sg<|Pl 1<|ng<|L0<|Oc<|m1 (@BL _) fun F d=>Pl 1<|nt<|sq<|sq<|?_
 refine go<|Pl 3<|nt<|cb ((decide (700<((b.length:Nat) : Int)))) (fun f=>?_) (fun f=>?_)
 have o:=of_decide_eq_true f
 refine sg<|Pl 2<|nt<|rt<|tr<|rr (.bool true)<|?_
 exact⟨rfl,d⟩
 have o:=of_decide_eq_false f
 refine bo<|sg<|Pl 4<|?_
 have e:=aX.old hb d
 rcases hX:eU a c dir b with⟨_|l,E⟩
 refine L0<|Oc<|m1 (tS e (by omega) hX) fun G i=>Pl 5<|ng<|Pl 4<|?_
 refine L0<|Oc<|m1 (qL (aX.old e i) (by omega) hX) fun H p=>Pl 5<|ng<|Pl 7<|?_
 have j:=aJ d (aJ i p)
 refine bl 41 ((E==E)) (fun g=>?_) (fun g=>?_)
 have q:=ag g
 refine Pl 2<|L1<|Oc (args:=#[.slice none 0 0,.slice none 0 0])<|m1 (jL (xs:=([] : List Int)) (ys:=[]) (aS.nil true _ _ _ _) (aS.nil true _ _ _ _)) fun I r=>Pl 2<|nt<|rt<|rr (.bool (decide (([] : List Int)=[])))<|?_
 have hs:(decide (([] : List Int)=[]))=true:=by first | (simp;done) | (exfalso;simp_all)
 rw[hs]
 exact⟨rfl,(aJ j r)⟩
 have q:=am g
 refine Pl 5<|nt<|rt<|rr (.bool false)<|?_
 have hs:false=true:=by first | (simp;done) | (exfalso;simp_all)
 rw[hs]
 exact⟨rfl,j⟩
 refine L0<|Oc<|e2 (nX e (by omega) hX) fun J K s k=>?_
 obtain⟨t,u,rfl,v,L⟩:=fd.shape s
 refine Pl 5<|ng<|Pl 4<|?_
 refine L0<|Oc<|e2 (rW (aX.old e k) (by omega) hX) fun M N x m=>?_
 obtain⟨y,z,rfl,B,O⟩:=fd.shape x
 refine Pl 5<|ng<|Pl 7<|?_
 have n:=aJ d (aJ k m)
 refine bl 41 ((E==E)) (fun h=>?_) (fun h=>?_)
 have C:=ag h
 refine Pl 2<|?_
 refine L1<|Oc (args:=#[.slice t l.length u,.slice y l.length z])<|m1 (jL (xs:=l) (ys:=l) (aX.upd' v m aN) B) fun P D=>Pl 2<|nt<|rt<|rr (.bool (decide (l=l)))<|?_
 have hs:(decide (l=l))=true:=by first | (simp;done) | (exfalso;simp_all)
 rw[hs]
 exact⟨rfl,(aJ n D)⟩
 have C:=am h
 refine Pl 5<|nt<|rt<|rr (.bool false)<|?_
 have hs:false=true:=by first | (simp;done) | (exfalso;simp_all)
 rw[hs]
 exact⟨rfl,n⟩
theorem qk{mA:Md}{vA:Value}  (hb:aX mA w vA b) : Calls Tryz.prog 6 #[.int .i64 a,.int .i64 c,.int .i64 dir,vA] w (cc (.bool true) w):=by
  obtain⟨AA,cpA,rfl,_,_⟩:=hb.shape
  exact si hb
open Go.RowKit
section
variable {H:Type}{enc:TypeId × Value→H}{P:Program}{w:World}{base:Nat}{spare:Nat→Bool}{held:Bool}
theorem rP(b off:Nat)(sp:Option Nat)(n:Nat)(h:sp=none) : (⟨b,off,sp⟩ : Addr).add n=⟨b,off+n,none⟩:=kp b off n sp h
theorem we{b off:Nat}{sp:Option Nat}{v:Value}(h:w.cell? ⟨b,off,sp⟩=some v) : sp=none:=by
  cases sp with
  | none=>rfl
  | some s =>
    unfold World.cell? at h
    simp at h
    split at h<;>cases h
theorem xN{α:Type}{Pd:DataW H→Prop}{R:World→α→List Value→Prop}{t e:TypeId}{sz fuel:Nat}{cs:List Value}{x:DataW H × List MemPlace}(ht:P.underlying t=some (.slice e))(hsz:P.cellsOf e=sz)(hp:0<sz)
    (hel:∀ n cs' y,cs'.length=sz→DataW.trod enc P w base spare held n e cs'=some y→Pd y.1→∃ x,R w x cs') (hP:∀ elems spare,x.1 = .slice elems spare→∀ d,d∈elems→Pd d) (h:DataW.trod enc P w base spare held fuel t cs=some x) : ∃ v xs,cs=[v]∧aS false e sz R w v xs:=by
  rcases Go.Deep.open_slice ht h with⟨rfl,_⟩|⟨a,len,cap,m,n,D,Pl,rfl,_,hl,hm,hmm,hxe,hx⟩
  · exact⟨_,[],rfl,aS.nil ..⟩
  have hlm:len≤m:=by rw[hmm];split<;>omega
  have key:∀ i:Fin len,∃ y:α × List Value,w.cells? base (a.add (i*sz)) sz=some y.2∧y.2.length=sz∧R w y.1 y.2:=fun i=>by
    obtain⟨cs',h1,h2⟩:=hx i (by omega)
    rw[hsz] at h1
    obtain⟨_,hlen,_⟩:=World.cells?_some h1
    obtain⟨y,hy⟩:=hel n cs' _ hlen h2 (hP _ _ (by rw[hxe]) _ (List.mem_map.2 ⟨i.1,List.mem_range.2 i.2,rfl⟩))
    exact⟨(y,cs'),h1,hlen,hy⟩
  obtain⟨f,hf⟩:=Classical.axiomOfChoice key
  refine⟨_,List.ofFn fun i=>(f i).1,rfl,some a,cap,by simp,by simpa using hl,hm,(fun h=>by cases h),fun hpos=>?_⟩
  have hpos':0<len:=by simpa using hpos
  obtain⟨b,off,sp⟩:=a
  have hsp:sp=none:=by
    obtain⟨h1,h2,_⟩:=hf ⟨0,hpos'⟩
    obtain⟨_,_,h3⟩:=World.cells?_some h1
    have h4:=h3 0 hp
    rw[List.getElem?_eq_getElem (by omega)] at h4
    cases sp with
    | none=>rfl
    | some s =>
      simp[Addr.add] at h4
      exact we h4
  subst hsp
  have hc:∀ i:Fin len,∀ k u,(f i).2[k]? = some u→w.cell? ⟨b,off+i*sz+k,none⟩=some u:=fun i k u hu=>by
    obtain⟨h1,h2,_⟩:=hf i
    obtain⟨_,_,h3⟩:=World.cells?_some h1
    have hk:k<sz:=by have:=(List.getElem?_eq_some_iff.1 hu).1;omega
    have h4:=h3 k hk
    rw[rP _ _ _ _ rfl,rP _ _ _ _ rfl] at h4
    rw[h4,hu]
  have h0:∃ u,w.cell? ⟨b,off+0*sz+0,none⟩=some u:=by
    obtain⟨_,h2,_⟩:=hf ⟨0,hpos'⟩
    exact⟨_,hc ⟨0,hpos'⟩ 0 _ (List.getElem?_eq_getElem (by omega))⟩
  obtain⟨u,hu⟩:=h0
  unfold World.cell? at hu
  split at hu
  · rename_i cells t' fr hb
    refine⟨b,off,cells,t',fr,rfl,hb,fun h=>(by cases h),fun j y hj=>?_⟩
    have hjl:j<len:=by have:=(List.getElem?_eq_some_iff.1 hj).1;simpa using this
    have hy:(f ⟨j,hjl⟩).1=y:=by
      rw[List.getElem?_ofFn] at hj
      simpa [hjl] using hj
    obtain⟨_,h2,h3⟩:=hf ⟨j,hjl⟩
    refine⟨(f ⟨j,hjl⟩).2,h2,by rw[← hy];exact h3,fun i u hi=>?_⟩
    have:=hc ⟨j,hjl⟩ i u hi
    rw[bF hb] at this
    exact this
  · cases hu
theorem AG{α:Type}{R:World→α→List Value→Prop}{t e:TypeId}{sz fuel:Nat}{cs:List Value}{x:DataW H × List MemPlace}(ht:P.underlying t=some (.slice e))(hsz:P.cellsOf e=sz)(hp:0<sz)
    (hel:∀ n cs' y,cs'.length=sz→DataW.trod enc P w base spare held n e cs'=some y→∃ x,R w x cs') (h:DataW.trod enc P w base spare held fuel t cs=some x) : ∃ v xs,cs=[v]∧aS false e sz R w v xs :=
  xN (Pd:=fun _=>True) ht hsz hp (fun n cs' y h1 h2 _=>hel n cs' y h1 h2) (fun _ _ _ _ _=>trivial) h
end
section
variable {H:Type}{enc:TypeId × Value→H}{w:World}{base:Nat}{spare:Nat→Bool}{held:Bool}{n:Nat}{y:DataW H × List MemPlace}
theorem Ds{cs:List Value}(h:DataW.trod enc Tryz.prog w base spare held n 5 cs=some y) : ∃ x,wy w x cs:=by
  obtain⟨k,rfl,_,hw⟩:=DataW.trod_int Tryz.underlying5 h
  exact⟨k,rfl,wZ hw⟩
theorem DG{cs:List Value}(h:DataW.trod enc Tryz.prog w base spare held n 27 cs=some y) : ∃ v xs,cs=[v]∧aX false w v xs:=AG Tryz.underlying27 (by kernel_rfl) (by decide) (fun _ _ _ _ h=>Ds h) h
end
open Go.RowKit
section
variable {H:Type}{enc:TypeId × Value→H}{w:World}{base:Nat}{spare:Nat→Bool}{held:Bool}{n:Nat}{y:DataW H × List MemPlace}
end
open Go.RowKit
section
variable {H:Type}{enc:TypeId × Value→H}{w:World}{base:Nat}{spare:Nat→Bool}{held:Bool}{n:Nat}{y:DataW H × List MemPlace}
end
end Go.Proofs.YtdkhbcefkfgbdaaGreat
