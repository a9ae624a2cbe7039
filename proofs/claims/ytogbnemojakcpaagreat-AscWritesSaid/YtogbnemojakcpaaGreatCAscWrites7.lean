/- Contracts of functions, part CAscWrites7. -/
import Derived.Test.YtogbnemojakcpaaGreatCAscWrites1
import Derived.Test.YtogbnemojakcpaaGreatCAscWrites2
import Derived.Test.YtogbnemojakcpaaGreatCAscWrites3
import Derived.Test.YtogbnemojakcpaaGreatCAscWrites4
import Derived.Test.YtogbnemojakcpaaGreatCAscWrites5
import Derived.Test.YtogbnemojakcpaaGreatCAscWrites6
import Derived.Deep.Slices
import Derived.ChangeArms
import Derived.WideShapes
set_option linter.unusedVariables false
set_option linter.unusedSimpArgs false
set_option maxRecDepth 100000
set_option maxHeartbeats 4000000
namespace Go.Proofs.YtogbnemojakcpaaGreat
open Go.RowKit
theorem iC{parse:Int→Int→List Int→aP × Int}{lay:Int→aP→List Int}{dir E:Int}{M X:aP}(hX:parse dir M.code (lay dir M)=(X,E))(hE:((E != 0)||(!(decide (X=M))))=true) : bh parse lay dir M=none:=by
  unfold bh
  rw[hX,if_neg]
  intro h
  injection h with h1 h2
  rw[h1,h2] at hE
  simp at hE
theorem kC(dir c:Int) : ∀ (L:List dj),(∀ r,r∈L→r.words.length≤1024)→(di dir c L).length≤2064*L.length
  | [],_=>by simp[di]
  | r :: L,h=>by
    have h1:=h r (by simp)
    have h2:=kC dir c L fun x hx=>h x (by simp[hx])
    simp only[di,lI]
    repeat' split
    all_goals simp only[List.length_append,List.length_cons,List.length_nil,aA]
    all_goals omega
theorem gE{M:aP}(hf:bS M)(dir:Int) : (cT dir M).length≤1048000∧(dz dir M).length≤1048000∧(dM dir M).length≤1048000∧(fg dir M).length≤1048000∧(er dir M).length≤1048000:=by
  have hp:(bL M.bits).length≤1024:=by
    have:=hf.bits
    simp only[bL,List.length_map,List.length_range,dH]
    omega
  have h1:=hf.words
  have h2:=hf.data
  have h3:=hf.objects
  have h4:=lA M.objects hf.objv
  have h5:=kC dir M.code M.recs hf.recw
  have h6:=hf.recs
  refine⟨?_,?_,?_,?_,?_⟩
  · unfold cT
    repeat' split
    all_goals simp only[List.length_append,List.length_cons,List.length_nil,aA]
    all_goals omega
  · unfold dz
    repeat' split
    all_goals simp only[List.length_append,List.length_cons,List.length_nil,aA]
    all_goals omega
  · unfold dM
    repeat' split
    all_goals simp only[List.length_append,List.length_cons,List.length_nil,aA]
    all_goals omega
  · unfold fg
    repeat' split
    all_goals simp only[List.length_append,List.length_cons,List.length_nil]
    all_goals omega
  · unfold er
    simp only[List.length_append,List.length_cons,List.length_nil]
    omega
theorem jp{m:Md}{cs:Array Value}{M:aP}{w:World}{dir:Int}(h:aH m w cs.toList M)(hf:bS M) : Calls Tryz.prog 102 #[.int .i64 dir,.agg cs] w (dZ (bh (ai aF) cT dir M) w):=by
 have hM:=h
 have hlen:=(gE hf dir).1
 obtain⟨vw,vb,vd,vr,vo,h0,hw,hbt,hd,hr,ho,hR⟩:=h
 obtain rfl:cs=(bu M vw vb vd vr vo).toArray:=by apply Array.toList_inj.1;simpa using h0
 clear h0
 obtain⟨Aw,kw,rfl,_,_⟩:=hw.shape
 obtain⟨Ab,kb,rfl,_,_⟩:=hbt.shape
 obtain⟨Ad,kd,rfl,_,_⟩:=hd.shape
 obtain⟨Ar,kr,rfl,_,_⟩:=hr.shape
 obtain⟨Ao,ko,rfl,_,_⟩:=ho.shape
 obtain⟨q0,q1,q2,q3,q4,q5,q6,q7,q8,q9,E,F,G,H,I,J,L⟩:=hR
 simp only[B8,dp] at q0 q1 q2 q3 q4 q5 q6 q7 q8 q9 E F G H I J L
 refine en 31 Tryz.func102 rfl<|sg<|L0<|dv (mG M.code M.fail M.addr M.count M.value M.and_ M.or_ M.addr2 M.sub M.status M.events M.messages (.slice Aw M.words.length kw) (.slice Ab M.bits.length kb) (.slice Ad M.data.length kd) (.slice Ar M.recs.length kr) M.mei M.kind M.level M.more M.next (.slice Ao M.objects.length ko)) fun Z a0 a1 k f=>Pl 2<|ng<|Pl 1<|L0<|bO k<|?_
 have l:=aH.old hM f
 refine L0<|Oc<|dG (qB (dir:=dir) l hf) fun N O P n a2 a3 o=>Pl 1<|ng<|Pl 2<|?_
 have p:=ub o k
 refine L0<|aO p 0<|Pl 1<|?_
 refine pr (ai aF dir M.code (cT dir M)) fun a g i=>?_
 have q:Calls _ _ _ _ (cy _ _ (ai aF dir M.code (cT dir M)) P):=jv (dir:=dir) (c:=M.code) q0 (n).rd (by omega)
 rw[i] at q
 refine L0<|Oc<|e2 (q) fun Q a4 R r=>?_
 have s:=ap n r (fun x hx=>az) (fun _ _ h=>h)
 have b:=cN.rdt R (s).rd
 refine Pl 3<|L0<|bH mZ fun a5 a6 S T U=>L0<|b7 (hz:=(by rw[b.size];exact aI)) (hv:=b.size) (h1:=b.one) T (Q) fun a7 V W=>Pl 1<|ng<|L0<|bO (hz:=(by rw[b.size];exact aI)) V<|?_
 have j:=ud U W S
 have t:=aD r j
 refine L0<|bO (ub t p)<|?_
 have u:=aD o t
 refine L0<|Oc<|m1 (dn (A:=a) (B:=M) (aH.upd b j aG) (aH.old l u)) fun a8 v=>Pl 1<|nt<|sq<|sg<|Pl 3<|cu 3 [26] 29 (((g != 0)||(!(decide (a=M))))) (fun K y=>?_) ?_
 refine bl 26 ((g != 0)) (fun d=>?_) (fun d=>?_)
 have X:=ax d
 exact Pl 3<|ce y true (by rw[d];rfl)
 have X:=ag d
 exact Pl 3<|ce y (!(decide (a=M))) (by rw[d];rfl)
 refine nt<|?_
 have z:=aD f (aD u v)
 refine cb (((g != 0)||(!(decide (a=M))))) (fun e=>?_) (fun e=>?_)
 refine sg<|Pl 2<|nt<|rt<|tr<|rr (.tuple #[.slice none 0 0,.int .i64 1])<|?_
 refine cw (iC i e) ?_
 exact⟨rfl,z⟩
 have C:=(aE e).1
 have Y:=(aE e).2
 have a9:=ag C
 have D:(decide (a=M))=true:=by simpa using Y
 have q56bnp:=of_decide_eq_true D
 refine bf<|sg<|Pl 3<|nt<|rt<|rr (.tuple #[.slice N ((cT dir M).length) O,.int .i64 0])<|?_
 refine cw (it i C D) ?_
 exact⟨_,rfl,(aS.weaken (ap s (aD j v) (fun x hx=>az) (fun _ _ h=>h)) f.size),z⟩
theorem kz{m:Md}{cs:Array Value}{M:aP}{w:World}{dir:Int}(h:aH m w cs.toList M)(hf:bS M) : Calls Tryz.prog 103 #[.int .i64 dir,.agg cs] w (dZ (bh (ai aM) dz dir M) w):=by
 have hM:=h
 have hlen:=(gE hf dir).2.1
 obtain⟨vw,vb,vd,vr,vo,h0,hw,hbt,hd,hr,ho,hR⟩:=h
 obtain rfl:cs=(bu M vw vb vd vr vo).toArray:=by apply Array.toList_inj.1;simpa using h0
 clear h0
 obtain⟨Aw,kw,rfl,_,_⟩:=hw.shape
 obtain⟨Ab,kb,rfl,_,_⟩:=hbt.shape
 obtain⟨Ad,kd,rfl,_,_⟩:=hd.shape
 obtain⟨Ar,kr,rfl,_,_⟩:=hr.shape
 obtain⟨Ao,ko,rfl,_,_⟩:=ho.shape
 obtain⟨q0,q1,q2,q3,q4,q5,q6,q7,q8,q9,E,F,G,H,I,J,L⟩:=hR
 simp only[B8,dp] at q0 q1 q2 q3 q4 q5 q6 q7 q8 q9 E F G H I J L
 refine en 31 Tryz.func103 rfl<|sg<|L0<|dv (mG M.code M.fail M.addr M.count M.value M.and_ M.or_ M.addr2 M.sub M.status M.events M.messages (.slice Aw M.words.length kw) (.slice Ab M.bits.length kb) (.slice Ad M.data.length kd) (.slice Ar M.recs.length kr) M.mei M.kind M.level M.more M.next (.slice Ao M.objects.length ko)) fun Z a0 a1 k f=>Pl 2<|ng<|Pl 1<|L0<|bO k<|?_
 have l:=aH.old hM f
 refine L0<|Oc<|dG (td (dir:=dir) l hf) fun N O P n a2 a3 o=>Pl 1<|ng<|Pl 2<|?_
 have p:=ub o k
 refine L0<|aO p 0<|Pl 1<|?_
 refine pr (ai aM dir M.code (dz dir M)) fun a g i=>?_
 have q:Calls _ _ _ _ (cy _ _ (ai aM dir M.code (dz dir M)) P):=kF (dir:=dir) (c:=M.code) q0 (n).rd (by omega)
 rw[i] at q
 refine L0<|Oc<|e2 (q) fun Q a4 R r=>?_
 have s:=ap n r (fun x hx=>az) (fun _ _ h=>h)
 have b:=cN.rdt R (s).rd
 refine Pl 3<|L0<|bH mZ fun a5 a6 S T U=>L0<|b7 (hz:=(by rw[b.size];exact aI)) (hv:=b.size) (h1:=b.one) T (Q) fun a7 V W=>Pl 1<|ng<|L0<|bO (hz:=(by rw[b.size];exact aI)) V<|?_
 have j:=ud U W S
 have t:=aD r j
 refine L0<|bO (ub t p)<|?_
 have u:=aD o t
 refine L0<|Oc<|m1 (dn (A:=a) (B:=M) (aH.upd b j aG) (aH.old l u)) fun a8 v=>Pl 1<|nt<|sq<|sg<|Pl 3<|cu 3 [26] 29 (((g != 0)||(!(decide (a=M))))) (fun K y=>?_) ?_
 refine bl 26 ((g != 0)) (fun d=>?_) (fun d=>?_)
 have X:=ax d
 exact Pl 3<|ce y true (by rw[d];rfl)
 have X:=ag d
 exact Pl 3<|ce y (!(decide (a=M))) (by rw[d];rfl)
 refine nt<|?_
 have z:=aD f (aD u v)
 refine cb (((g != 0)||(!(decide (a=M))))) (fun e=>?_) (fun e=>?_)
 refine sg<|Pl 2<|nt<|rt<|tr<|rr (.tuple #[.slice none 0 0,.int .i64 1])<|?_
 refine cw (iC i e) ?_
 exact⟨rfl,z⟩
 have C:=(aE e).1
 have Y:=(aE e).2
 have a9:=ag C
 have D:(decide (a=M))=true:=by simpa using Y
 have q56bnp:=of_decide_eq_true D
 refine bf<|sg<|Pl 3<|nt<|rt<|rr (.tuple #[.slice N ((dz dir M).length) O,.int .i64 0])<|?_
 refine cw (it i C D) ?_
 exact⟨_,rfl,(aS.weaken (ap s (aD j v) (fun x hx=>az) (fun _ _ h=>h)) f.size),z⟩
theorem kE{m:Md}{cs:Array Value}{M:aP}{w:World}{dir:Int}(h:aH m w cs.toList M)(hf:bS M) : Calls Tryz.prog 104 #[.int .i64 dir,.agg cs] w (dZ (bh (ai aV) dM dir M) w):=by
 have hM:=h
 have hlen:=(gE hf dir).2.2.1
 obtain⟨vw,vb,vd,vr,vo,h0,hw,hbt,hd,hr,ho,hR⟩:=h
 obtain rfl:cs=(bu M vw vb vd vr vo).toArray:=by apply Array.toList_inj.1;simpa using h0
 clear h0
 obtain⟨Aw,kw,rfl,_,_⟩:=hw.shape
 obtain⟨Ab,kb,rfl,_,_⟩:=hbt.shape
 obtain⟨Ad,kd,rfl,_,_⟩:=hd.shape
 obtain⟨Ar,kr,rfl,_,_⟩:=hr.shape
 obtain⟨Ao,ko,rfl,_,_⟩:=ho.shape
 obtain⟨q0,q1,q2,q3,q4,q5,q6,q7,q8,q9,E,F,G,H,I,J,L⟩:=hR
 simp only[B8,dp] at q0 q1 q2 q3 q4 q5 q6 q7 q8 q9 E F G H I J L
 refine en 31 Tryz.func104 rfl<|sg<|L0<|dv (mG M.code M.fail M.addr M.count M.value M.and_ M.or_ M.addr2 M.sub M.status M.events M.messages (.slice Aw M.words.length kw) (.slice Ab M.bits.length kb) (.slice Ad M.data.length kd) (.slice Ar M.recs.length kr) M.mei M.kind M.level M.more M.next (.slice Ao M.objects.length ko)) fun Z a0 a1 k f=>Pl 2<|ng<|Pl 1<|L0<|bO k<|?_
 have l:=aH.old hM f
 refine L0<|Oc<|dG (sW (dir:=dir) l hf) fun N O P n a2 a3 o=>Pl 1<|ng<|Pl 2<|?_
 have p:=ub o k
 refine L0<|aO p 0<|Pl 1<|?_
 refine pr (ai aV dir M.code (dM dir M)) fun a g i=>?_
 have q:Calls _ _ _ _ (cy _ _ (ai aV dir M.code (dM dir M)) P):=kB (dir:=dir) (c:=M.code) q0 (n).rd (by omega)
 rw[i] at q
 refine L0<|Oc<|e2 (q) fun Q a4 R r=>?_
 have s:=ap n r (fun x hx=>az) (fun _ _ h=>h)
 have b:=cN.rdt R (s).rd
 refine Pl 3<|L0<|bH mZ fun a5 a6 S T U=>L0<|b7 (hz:=(by rw[b.size];exact aI)) (hv:=b.size) (h1:=b.one) T (Q) fun a7 V W=>Pl 1<|ng<|L0<|bO (hz:=(by rw[b.size];exact aI)) V<|?_
 have j:=ud U W S
 have t:=aD r j
 refine L0<|bO (ub t p)<|?_
 have u:=aD o t
 refine L0<|Oc<|m1 (dn (A:=a) (B:=M) (aH.upd b j aG) (aH.old l u)) fun a8 v=>Pl 1<|nt<|sq<|sg<|Pl 3<|cu 3 [26] 29 (((g != 0)||(!(decide (a=M))))) (fun K y=>?_) ?_
 refine bl 26 ((g != 0)) (fun d=>?_) (fun d=>?_)
 have X:=ax d
 exact Pl 3<|ce y true (by rw[d];rfl)
 have X:=ag d
 exact Pl 3<|ce y (!(decide (a=M))) (by rw[d];rfl)
 refine nt<|?_
 have z:=aD f (aD u v)
 refine cb (((g != 0)||(!(decide (a=M))))) (fun e=>?_) (fun e=>?_)
 refine sg<|Pl 2<|nt<|rt<|tr<|rr (.tuple #[.slice none 0 0,.int .i64 1])<|?_
 refine cw (iC i e) ?_
 exact⟨rfl,z⟩
 have C:=(aE e).1
 have Y:=(aE e).2
 have a9:=ag C
 have D:(decide (a=M))=true:=by simpa using Y
 have q56bnp:=of_decide_eq_true D
 refine bf<|sg<|Pl 3<|nt<|rt<|rr (.tuple #[.slice N ((dM dir M).length) O,.int .i64 0])<|?_
 refine cw (it i C D) ?_
 exact⟨_,rfl,(aS.weaken (ap s (aD j v) (fun x hx=>az) (fun _ _ h=>h)) f.size),z⟩
theorem js{m:Md}{cs:Array Value}{M:aP}{w:World}{dir:Int}(h:aH m w cs.toList M)(hf:bS M) : Calls Tryz.prog 105 #[.int .i64 dir,.agg cs] w (dZ (bh (ai aX) er dir M) w):=by
 have hM:=h
 have hlen:=(gE hf dir).2.2.2.2
 obtain⟨vw,vb,vd,vr,vo,h0,hw,hbt,hd,hr,ho,hR⟩:=h
 obtain rfl:cs=(bu M vw vb vd vr vo).toArray:=by apply Array.toList_inj.1;simpa using h0
 clear h0
 obtain⟨Aw,kw,rfl,_,_⟩:=hw.shape
 obtain⟨Ab,kb,rfl,_,_⟩:=hbt.shape
 obtain⟨Ad,kd,rfl,_,_⟩:=hd.shape
 obtain⟨Ar,kr,rfl,_,_⟩:=hr.shape
 obtain⟨Ao,ko,rfl,_,_⟩:=ho.shape
 obtain⟨q0,q1,q2,q3,q4,q5,q6,q7,q8,q9,E,F,G,H,I,J,L⟩:=hR
 simp only[B8,dp] at q0 q1 q2 q3 q4 q5 q6 q7 q8 q9 E F G H I J L
 refine en 31 Tryz.func105 rfl<|sg<|L0<|dv (mG M.code M.fail M.addr M.count M.value M.and_ M.or_ M.addr2 M.sub M.status M.events M.messages (.slice Aw M.words.length kw) (.slice Ab M.bits.length kb) (.slice Ad M.data.length kd) (.slice Ar M.recs.length kr) M.mei M.kind M.level M.more M.next (.slice Ao M.objects.length ko)) fun Z a0 a1 k f=>Pl 2<|ng<|Pl 1<|L0<|bO k<|?_
 have l:=aH.old hM f
 refine L0<|Oc<|dG (oS (dir:=dir) l hf) fun N O P n a2 a3 o=>Pl 1<|ng<|Pl 2<|?_
 have p:=ub o k
 refine L0<|aO p 0<|Pl 1<|?_
 refine pr (ai aX dir M.code (er dir M)) fun a g i=>?_
 have q:Calls _ _ _ _ (cy _ _ (ai aX dir M.code (er dir M)) P):=jh (dir:=dir) (c:=M.code) q0 (n).rd (by omega)
 rw[i] at q
 refine L0<|Oc<|e2 (q) fun Q a4 R r=>?_
 have s:=ap n r (fun x hx=>az) (fun _ _ h=>h)
 have b:=cN.rdt R (s).rd
 refine Pl 3<|L0<|bH mZ fun a5 a6 S T U=>L0<|b7 (hz:=(by rw[b.size];exact aI)) (hv:=b.size) (h1:=b.one) T (Q) fun a7 V W=>Pl 1<|ng<|L0<|bO (hz:=(by rw[b.size];exact aI)) V<|?_
 have j:=ud U W S
 have t:=aD r j
 refine L0<|bO (ub t p)<|?_
 have u:=aD o t
 refine L0<|Oc<|m1 (dn (A:=a) (B:=M) (aH.upd b j aG) (aH.old l u)) fun a8 v=>Pl 1<|nt<|sq<|sg<|Pl 3<|cu 3 [26] 29 (((g != 0)||(!(decide (a=M))))) (fun K y=>?_) ?_
 refine bl 26 ((g != 0)) (fun d=>?_) (fun d=>?_)
 have X:=ax d
 exact Pl 3<|ce y true (by rw[d];rfl)
 have X:=ag d
 exact Pl 3<|ce y (!(decide (a=M))) (by rw[d];rfl)
 refine nt<|?_
 have z:=aD f (aD u v)
 refine cb (((g != 0)||(!(decide (a=M))))) (fun e=>?_) (fun e=>?_)
 refine sg<|Pl 2<|nt<|rt<|tr<|rr (.tuple #[.slice none 0 0,.int .i64 1])<|?_
 refine cw (iC i e) ?_
 exact⟨rfl,z⟩
 have C:=(aE e).1
 have Y:=(aE e).2
 have a9:=ag C
 have D:(decide (a=M))=true:=by simpa using Y
 have q56bnp:=of_decide_eq_true D
 refine bf<|sg<|Pl 3<|nt<|rt<|rr (.tuple #[.slice N ((er dir M).length) O,.int .i64 0])<|?_
 refine cw (it i C D) ?_
 exact⟨_,rfl,(aS.weaken (ap s (aD j v) (fun x hx=>az) (fun _ _ h=>h)) f.size),z⟩
theorem ly{m:Md}{cs:Array Value}{M:aP}{w:World}{dir:Int}(h:aH m w cs.toList M)(hf:bS M) : Calls Tryz.prog 106 #[.int .i64 dir,.agg cs] w (dZ (bh (ai bD) fg dir M) w):=by
 have hM:=h
 have hlen:=(gE hf dir).2.2.2.1
 obtain⟨vw,vb,vd,vr,vo,h0,hw,hbt,hd,hr,ho,hR⟩:=h
 obtain rfl:cs=(bu M vw vb vd vr vo).toArray:=by apply Array.toList_inj.1;simpa using h0
 clear h0
 obtain⟨Aw,kw,rfl,_,_⟩:=hw.shape
 obtain⟨Ab,kb,rfl,_,_⟩:=hbt.shape
 obtain⟨Ad,kd,rfl,_,_⟩:=hd.shape
 obtain⟨Ar,kr,rfl,_,_⟩:=hr.shape
 obtain⟨Ao,ko,rfl,_,_⟩:=ho.shape
 obtain⟨q0,q1,q2,q3,q4,q5,q6,q7,q8,q9,E,F,G,H,I,J,L⟩:=hR
 simp only[B8,dp] at q0 q1 q2 q3 q4 q5 q6 q7 q8 q9 E F G H I J L
 refine en 31 Tryz.func106 rfl<|sg<|L0<|dv (mG M.code M.fail M.addr M.count M.value M.and_ M.or_ M.addr2 M.sub M.status M.events M.messages (.slice Aw M.words.length kw) (.slice Ab M.bits.length kb) (.slice Ad M.data.length kd) (.slice Ar M.recs.length kr) M.mei M.kind M.level M.more M.next (.slice Ao M.objects.length ko)) fun Z a0 a1 k f=>Pl 2<|ng<|Pl 1<|L0<|bO k<|?_
 have l:=aH.old hM f
 refine L0<|Oc<|dG (sT (dir:=dir) l hf) fun N O P n a2 a3 o=>Pl 1<|ng<|Pl 2<|?_
 have p:=ub o k
 refine L0<|aO p 0<|Pl 1<|?_
 refine pr (ai bD dir M.code (fg dir M)) fun a g i=>?_
 have q:Calls _ _ _ _ (cy _ _ (ai bD dir M.code (fg dir M)) P):=lf (dir:=dir) (c:=M.code) q0 (n).rd (by omega)
 rw[i] at q
 refine L0<|Oc<|e2 (q) fun Q a4 R r=>?_
 have s:=ap n r (fun x hx=>az) (fun _ _ h=>h)
 have b:=cN.rdt R (s).rd
 refine Pl 3<|L0<|bH mZ fun a5 a6 S T U=>L0<|b7 (hz:=(by rw[b.size];exact aI)) (hv:=b.size) (h1:=b.one) T (Q) fun a7 V W=>Pl 1<|ng<|L0<|bO (hz:=(by rw[b.size];exact aI)) V<|?_
 have j:=ud U W S
 have t:=aD r j
 refine L0<|bO (ub t p)<|?_
 have u:=aD o t
 refine L0<|Oc<|m1 (dn (A:=a) (B:=M) (aH.upd b j aG) (aH.old l u)) fun a8 v=>Pl 1<|nt<|sq<|sg<|Pl 3<|cu 3 [26] 29 (((g != 0)||(!(decide (a=M))))) (fun K y=>?_) ?_
 refine bl 26 ((g != 0)) (fun d=>?_) (fun d=>?_)
 have X:=ax d
 exact Pl 3<|ce y true (by rw[d];rfl)
 have X:=ag d
 exact Pl 3<|ce y (!(decide (a=M))) (by rw[d];rfl)
 refine nt<|?_
 have z:=aD f (aD u v)
 refine cb (((g != 0)||(!(decide (a=M))))) (fun e=>?_) (fun e=>?_)
 refine sg<|Pl 2<|nt<|rt<|tr<|rr (.tuple #[.slice none 0 0,.int .i64 1])<|?_
 refine cw (iC i e) ?_
 exact⟨rfl,z⟩
 have C:=(aE e).1
 have Y:=(aE e).2
 have a9:=ag C
 have D:(decide (a=M))=true:=by simpa using Y
 have q56bnp:=of_decide_eq_true D
 refine bf<|sg<|Pl 3<|nt<|rt<|rr (.tuple #[.slice N ((fg dir M).length) O,.int .i64 0])<|?_
 refine cw (it i C D) ?_
 exact⟨_,rfl,(aS.weaken (ap s (aD j v) (fun x hx=>az) (fun _ _ h=>h)) f.size),z⟩
def pD (M:aP) : List Int:=[(M.code+128)%256,M.fail]
def fx (M:aP) : Option (List Int):=if decide (128≤M.code) then none else bh (fun _ _ b=>ee b) (fun _ M=>pD M) 0 M
theorem m6{m:Md}{cs:Array Value}{M:aP}{w:World}(h:aH m w cs.toList M) : Calls Tryz.prog 101 #[.agg cs] w (dZ (fx M) w):=by
 have hM:=h
 obtain⟨vw,vb,vd,vr,vo,h0,hw,hbt,hd,hr,ho,hR⟩:=h
 obtain rfl:cs=(bu M vw vb vd vr vo).toArray:=by apply Array.toList_inj.1;simpa using h0
 clear h0
 obtain⟨Aw,kw,rfl,_,_⟩:=hw.shape
 obtain⟨Ab,kb,rfl,_,_⟩:=hbt.shape
 obtain⟨Ad,kd,rfl,_,_⟩:=hd.shape
 obtain⟨Ar,kr,rfl,_,_⟩:=hr.shape
 obtain⟨Ao,ko,rfl,_,_⟩:=ho.shape
 obtain⟨q0,q1,q2,q3,q4,q5,q6,q7,q8,q9,D,E,F,G,H,I,J⟩:=hR
 simp only[B8,dp] at q0 q1 q2 q3 q4 q5 q6 q7 q8 q9 D E F G H I J
 refine en 32 Tryz.func101 rfl<|sg<|L0<|dv (mG M.code M.fail M.addr M.count M.value M.and_ M.or_ M.addr2 M.sub M.status M.events M.messages (.slice Aw M.words.length kw) (.slice Ab M.bits.length kb) (.slice Ad M.data.length kd) (.slice Ar M.recs.length kr) M.mei M.kind M.level M.more M.next (.slice Ao M.objects.length ko)) fun a1 a2 a3 g j=>Pl 2<|nt<|sq<|sg<|Pl 1<|L0<|aO g 0<|Pl 1<|nl<|?_
 refine tn<|cb ((decide (128≤M.code))) (fun a=>?_) (fun a=>?_)
 have L:=of_decide_eq_true a
 refine sg<|Pl 2<|nt<|rt<|tr<|rr (.tuple #[.slice none 0 0,.int .i64 1])<|?_
 refine cw (show fx M=none by unfold fx;rw[a];rfl) ?_
 exact⟨rfl,j⟩
 have L:=of_decide_eq_false a
 refine bf<|sg<|Pl 1<|L0<|aO g 0<|Pl 2<|L0<|aO g 1<|L0<|cL (m:=2) (e:=5) #[.int .u8 ((M.code+128)%256),.int .u8 M.fail] fun N O P Q R=>?_
 have o:=cC P (xs:=[((M.code+128)%256),M.fail]) (by as_aux_lemma=>kernel_rfl) (au (by omega) (au (by omega) aK)) (by(try simp only[List.length_cons,List.length_nil]);omega) Q
 refine Pl 1<|ng<|Pl 1<|?_
 have a4:pD M=[((M.code+128)%256),M.fail]:=rfl
 refine pr (ee (pD M)) fun c k l=>?_
 have p:Calls _ _ _ _ (cy _ _ (ee (pD M)) O):=m0 (o).rd (show(2:Nat)≤1048576 from by decide)
 rw[l] at p
 refine L0<|Oc<|e2 (p) fun S a5 T q=>?_
 have r:=ap o q (fun x hx=>az) (fun _ _ h=>h)
 have d:=cN.rdt T (r).rd
 refine Pl 3<|L0<|bH mZ fun a6 a7 U V W=>L0<|b7 (hz:=(by rw[d.size];exact aI)) (hv:=d.size) (h1:=d.one) V (S) fun a8 X Y=>Pl 1<|ng<|L0<|bO (hz:=(by rw[d.size];exact aI)) X<|?_
 have n:=ud W Y U
 have s:=aD R (aD q n)
 refine L0<|bO (ub s g)<|?_
 have t:=aD j s
 refine L0<|Oc<|m1 (dn (A:=c) (B:=M) (aH.upd d n aG) (aH.old hM t)) fun a9 u=>Pl 1<|nt<|sq<|sg<|Pl 3<|cu 3 [27] 30 (((k != 0)||(!(decide (c=M))))) (fun K v=>?_) ?_
 refine bl 27 ((k != 0)) (fun f=>?_) (fun f=>?_)
 have Z:=ax f
 exact Pl 3<|ce v true (by rw[f];rfl)
 have Z:=ag f
 exact Pl 3<|ce v (!(decide (c=M))) (by rw[f];rfl)
 refine nt<|?_
 have y:=aD t u
 refine cb (((k != 0)||(!(decide (c=M))))) (fun i=>?_) (fun i=>?_)
 refine sg<|Pl 2<|nt<|rt<|tr<|rr (.tuple #[.slice none 0 0,.int .i64 1])<|?_
 refine cw (show fx M=bh (fun _ _ b=>ee b) (fun _ M=>pD M) 0 M by unfold fx;rw[a];rfl) ?_
 refine cw (iC l i) ?_
 exact⟨rfl,y⟩
 have z:=(aE i).1
 have a0:=(aE i).2
 have aa:=ag z
 have C:(decide (c=M))=true:=by simpa using a0
 have q53bnp:=of_decide_eq_true C
 refine bf<|sg<|Pl 3<|nt<|rt<|rr (.tuple #[.slice (some ⟨N,0,none⟩) 2 2,.int .i64 0])<|?_
 refine cw (show fx M=bh (fun _ _ b=>ee b) (fun _ M=>pD M) 0 M by unfold fx;rw[a];rfl) ?_
 refine cw (it l z C) ?_
 exact⟨_,rfl,(aS.weaken (ap r (aD n u) (fun x hx=>az) (fun _ _ h=>h)) j.size),y⟩
end Go.Proofs.YtogbnemojakcpaaGreat
namespace Go.Proofs.YtogbnemojakcpaaGreat
theorem sJ{dir:Int}{M:aP}(hd:dir=0∨dir=1)(hc:M.code=1∨M.code=2∨M.code=5∨M.code=15) : cT dir M=bM dir M:=by
  unfold cT bM
  rcases hd with rfl|rfl<;>rcases hc with h|h|h|h<;>rw[h]<;>rfl
theorem u2{dir:Int}{M:aP}(hd:dir=0∨dir=1)(hc:M.code=3∨M.code=4∨M.code=6∨M.code=16∨M.code=22∨M.code=23∨M.code=24) : dz dir M=bF dir M:=by
  unfold dz bF
  rw[show 2*(M.words.length:Int)+2=2+2*(M.words.length:Int) from by omega]
  rcases hd with rfl|rfl<;>rcases hc with h|h|h|h|h|h|h<;>rw[h]<;>rfl
theorem vu{dir:Int}{M:aP}(hd:dir=0∨dir=1) : dM dir M=bI dir M:=by
  unfold dM bI
  rw[show(M.data.length:Int)+6=6+(M.data.length:Int) from by omega]
  rfl
theorem tQ{dir:Int}{M:aP}:fg dir M=cQ dir M:=by
  unfold fg cQ
  split
  · rename_i h
    rw[ah h]
  · rfl
theorem m9(dir c:Int) : ∀ L:List dj,di dir c L=cX dir c L
  | []=>rfl
  | r :: L=>by
    show lI dir c r++di dir c L=jd dir c r++cX dir c L
    rw[m9 dir c L]
    unfold lI jd
    rw[show 2*(r.words.length:Int)+1=1+2*(r.words.length:Int) from by omega]
theorem qp{dir:Int}{M:aP}:er dir M=cZ dir M:=by
  rw[km]
  unfold er
  rw[m9]
def ey (dir:Int)(M:aP) : Option (List Int) :=
  match bh (ai aF) cT dir M with
  | some l=>some l
  | none=>match bh (ai aM) dz dir M with
    | some l=>some l
    | none=>match bh (ai aV) dM dir M with
      | some l=>some l
      | none=>match bh (ai aX) er dir M with
        | some l=>some l
        | none=>bh (ai bD) fg dir M
def dr (dir:Int)(M:aP) : Option (List Int) :=
  match fx M with
  | some l=>some l
  | none=>match ey dir M with
    | some l=>some ([M.code]++l)
    | none=>none
theorem AF{form:Int→Int→ak→Option (ak × aP)}{B:Int→aP→List Int}{dir:Int}{M:aP}(hd:dir=0∨dir=1)(hf:∀ C,form dir M.code C=none) : bh (ai form) B dir M=none:=by
  cases h:bh (ai form) B dir M with
  | none=>rfl
  | some l =>
    have h1:=(dk h).1
    rw[ls hd (hf _)] at h1
    injection h1 with _ h2
    cases h2
theorem oV{parse:Int→Int→List Int→aP × Int}{B lay:Int→aP→List Int}{dir:Int}{M:aP}{l:List Int}(h:bh parse lay dir M=some l)(he:B dir M=lay dir M) : bh parse B dir M=some l:=by
  unfold bh at h ⊢
  rw[he]
  exact h
theorem jB{dir:Int}{M:aP}{l:List Int}(hc:0≤M.code∧M.code<256)(h:cv dir M=some l) : dir=0∨dir=1:=by
  rcases gO hc h with⟨_,rfl,_⟩|⟨_,hk,_,l',h4,_⟩
  · exact .inr rfl
  · by_cases hd:dir=0∨dir=1
    · exact hd
    · have h5:=(jL h4).2
      exfalso
      have no:∀ form b,ai form dir (([M.code]++l').getD 0 0) b=(M,0)→False:=fun form b hp=>by
        unfold ai at hp
        rw[if_neg hd] at hp
        injection hp with _ h2
        cases h2
      unfold io at h5
      split at h5
      · exact no _ _ h5
      · exact no _ _ h5
      · exact no _ _ h5
      · exact no _ _ h5
      · exact no _ _ h5
      · injection h5 with _ h2
        cases h2
theorem rQ{dir:Int}{M:aP}{l:List Int}(hc:0≤M.code∧M.code<256)(hf:0≤M.fail∧M.fail<256)(h:cv dir M=some l) : dr dir M=some l:=by
  have hd:=jB hc h
  rcases gO hc h with⟨h1,rfl,h2,h3,h4,rfl,h5⟩|⟨h1,h2,h3,l',h4,h5,rfl⟩
  · have k:fx M=some [M.code+128,M.fail]:=by
      unfold fx
      rw[if_neg (by simp only[decide_eq_true_eq];omega)]
      have hb:pD M=[M.code+128,M.fail]:=by unfold pD;rw[show(M.code+128)%256=M.code+128 from by omega]
      refine fc hb ?_
      have hb:(M.code+128-128)%256=M.code:=by omega
      have ig:decide (M.code+128<128)=false:=by simp;omega
      show ee [M.code+128,M.fail]=(M,0)
      unfold ee
      simp only[List.length_cons,List.length_nil,List.getD_cons_zero,List.getD_cons_succ,hb,ig,h2,h3]
      show(gv M.code M.fail,(0:Int))=(M,0)
      rw[← h4]
    unfold dr
    rw[k]
  · have k:fx M=none:=by
      cases hw:fx M with
      | none=>rfl
      | some l2 =>
        unfold fx at hw
        split at hw
        · cases hw
        · have h6:=(dk hw).1
          obtain⟨h7,_,_,h8,_⟩:=rP h6
          have h9:=pS h8
          have a:M.fail=l2.getD 1 0:=by rw[h7];rfl
          rw[← a,h1] at h9
          cases h9
    have no:∀ (form:Int→Int→ak→Option (ak × aP)) (B:Int→aP→List Int),(∀ C,form dir M.code C=none)→bh (ai form) B dir M=none:=fun form B hf=>AF hd hf
    have kc:ey dir M=some l':=by
      unfold ey
      rcases gJ M.code with⟨hk,hf⟩|⟨hk,hf⟩|⟨hk,hf⟩|⟨hk,hf⟩|⟨hk,hf⟩|⟨hk,hf⟩<;>rw[hf] at h4
      · have h4:bh (ai aF) bM dir M=some l':=h4
        rw[oV h4 (sJ hd hk)]
      · have h4:bh (ai aM) bF dir M=some l':=h4
        rw[no aF _ (fun C=>by rcases hk with h | h | h | h | h | h | h<;>rw[h]<;>rfl),oV h4 (u2 hd hk)]
      · have h4:bh (ai aV) bI dir M=some l':=h4
        rw[no aF _ (fun C=>by rcases hk with h | h | h | h | h<;>rw[h]<;>rfl),no aM _ (fun C=>by rcases hk with h | h | h | h | h<;>rw[h]<;>rfl),oV h4 (vu hd)]
      · have h4:bh (ai aX) cZ dir M=some l':=h4
        rw[no aF _ (fun C=>by rcases hk with h | h<;>rw[h]<;>rfl),no aM _ (fun C=>by rcases hk with h | h<;>rw[h]<;>rfl),no aV _ (fun C=>by rcases hk with h | h<;>rw[h]<;>rfl),oV h4 qp]
      · have h4:bh (ai bD) cQ dir M=some l':=h4
        rw[no aF _ (fun C=>by rw[hk]<;>rfl),no aM _ (fun C=>by rw[hk]<;>rfl),no aV _ (fun C=>by rw[hk]<;>rfl),no aX _ (fun C=>by rw[hk]<;>rfl),oV h4 tQ]
      · exact absurd hf h2
    unfold dr
    rw[k,kc]
theorem uE{dir:Int}{b:List Int}{M:aP}(h:cH dir b=(M,0)) : dir=0∨dir=1:=by
  unfold cH at h
  split at h
  · injection h with _ h
    cases h
  · rename_i hh
    simp only[Bool.and_eq_true,bne_iff_ne,ne_eq] at hh
    omega
theorem sl{dir:Int}{M:aP}(hc:0≤M.code∧M.code<256)(hf:0≤M.fail∧M.fail<256)(hk:dr dir M=none) : cv dir M=none:=by
  cases h:cv dir M with
  | none=>rfl
  | some l=>rw[rQ hc hf h] at hk;cases hk
theorem gQ{dir E:Int}{M X:aP}{b:List Int}(hc:0≤M.code∧M.code<256)(hf:0≤M.fail∧M.fail<256)(hk:dr dir M=some b)(hX:cH dir b=(X,E))(hE:((E != 0)||(!(decide (X=M))))=true) : cv dir M=none:=by
  cases h:cv dir M with
  | none=>rfl
  | some l =>
    rw[rQ hc hf h] at hk
    injection hk with hk
    subst hk
    rw[uJ (jB hc h) hc hf h] at hX
    injection hX with h1 h2
    subst h1 h2
    simp at hE
theorem iF{dir E:Int}{M X:aP}{b:List Int}(hr:∀ x,x∈b→0≤x∧x<256)(hX:cH dir b=(X,E))(hE:(E != 0)=false)(h:decide (X=M)=true) : cv dir M=some b:=by
  have h1:X=M:=by simpa using h
  have h2:E=0:=by simpa using hE
  subst h1 h2
  exact pp (uE hX) hr hX
open Go.RowKit
theorem un{p:Int→Int→List Int→aP × Int}{B:Int→aP→List Int}{dir:Int}{M:aP}{l:List Int}(h:bh p B dir M=some l)(hB:(B dir M).length≤1048000) : l.length≤1048000:=by
  rw[(dk h).2]
  exact hB
theorem vC{M:aP}{l:List Int}(h:fx M=some l) : l.length≤1048000:=by
  unfold fx at h
  split at h
  · cases h
  · rw[(dk h).2]
    exact(show 2≤1048000 from by decide)
theorem lF{m:Md}{cs:Array Value}{M:aP}{w:World}{dir:Int}(h:aH m w cs.toList M)(hf:bS M) : Calls Tryz.prog 29 #[.int .i64 dir,.agg cs] w (dZ (cv dir M) w):=by
 have hM:=h
 obtain⟨dc,dd,de,df,dg⟩:=gE hf dir
 obtain⟨vw,vb,vd,vr,vo,h0,hw,hbt,hd,hr,ho,hR⟩:=h
 obtain rfl:cs=(bu M vw vb vd vr vo).toArray:=by apply Array.toList_inj.1;simpa using h0
 clear h0
 obtain⟨Aw,kw,rfl,_,_⟩:=hw.shape
 obtain⟨Ab,kb,rfl,_,_⟩:=hbt.shape
 obtain⟨Ad,kd,rfl,_,_⟩:=hd.shape
 obtain⟨Ar,kr,rfl,_,_⟩:=hr.shape
 obtain⟨Ao,ko,rfl,_,_⟩:=ho.shape
 obtain⟨q0,q1,q2,q3,q4,q5,q6,q7,q8,q9,dh,di,dj,dk,dl,dm,dq⟩:=hR
 simp only[B8,dp] at q0 q1 q2 q3 q4 q5 q6 q7 q8 q9 dh di dj dk dl dm dq
 refine en 79 Tryz.func29 rfl<|sg<|L0<|dv (mG M.code M.fail M.addr M.count M.value M.and_ M.or_ M.addr2 M.sub M.status M.events M.messages (.slice Aw M.words.length kw) (.slice Ab M.bits.length kb) (.slice Ad M.data.length kd) (.slice Ar M.recs.length kr) M.mei M.kind M.level M.more M.next (.slice Ao M.objects.length ko)) fun fa fb fc Z d=>Pl 2<|ng<|L0<|bO Z<|?_
 rcases a:fx M with _|r
 have a0:=aH.old hM d
 have b4:=m6 a0
 rw[a] at b4
 refine L0<|Oc<|m1 b4 fun fd g=>Pl 5<|nt<|sq<|sg<|Pl 2<|nt<|c1<|sg<|Pl 1<|?_
 have a1:=ub g Z
 refine L0<|bO a1<|?_
 have b5:=aD d g
 rcases b:bh (ai aF) cT dir M with _|k
 have a2:=aH.old a0 g
 have b6:=jp (dir:=dir) a2 hf
 rw[b] at b6
 refine L0<|Oc<|m1 b6 fun fe i=>Pl 5<|nt<|sq<|sg<|Pl 2<|nt<|c1<|go<|Pl 1<|?_
 have a3:=ub i a1
 refine L0<|bO a3<|?_
 have b8:=aD b5 i
 rcases c:bh (ai aM) dz dir M with _|l
 have a4:=aH.old a2 i
 have ba:=kz (dir:=dir) a4 hf
 rw[c] at ba
 refine L0<|Oc<|m1 ba fun ff n=>Pl 5<|nt<|sq<|sg<|Pl 2<|nt<|c1<|go<|Pl 1<|?_
 have a5:=ub n a3
 refine L0<|bO a5<|?_
 have bb:=aD b8 n
 rcases f:bh (ai aV) dM dir M with _|o
 have a6:=aH.old a4 n
 have bc:=kE (dir:=dir) a6 hf
 rw[f] at bc
 refine L0<|Oc<|m1 bc fun fh s=>Pl 5<|nt<|sq<|sg<|Pl 2<|nt<|c1<|go<|Pl 1<|?_
 have a7:=ub s a5
 refine L0<|bO a7<|?_
 have bd:=aD bb s
 rcases j:bh (ai aX) er dir M with _|p
 have a8:=aH.old a6 s
 have be:=js (dir:=dir) a8 hf
 rw[j] at be
 refine L0<|Oc<|m1 be fun fi u=>Pl 5<|nt<|sq<|sg<|Pl 2<|nt<|c1<|go<|Pl 1<|?_
 have a9:=ub u a7
 refine L0<|bO a9<|?_
 have bg:=aD bd u
 rcases t:bh (ai bD) fg dir M with _|q
 have bi:=ly (dir:=dir) (aH.old a8 u) hf
 rw[t] at bi
 refine L0<|Oc<|m1 bi fun fj bj=>Pl 5<|nt<|go<|Pl 1<|?_
 refine L0<|aO (ub bj a9) 0<|L0<|cL (m:=1) (e:=5) #[.int .u8 M.code] fun fk fl ds dt bk=>?_
 have bm:=cC ds (xs:=[M.code]) (by as_aux_lemma=>kernel_rfl) (au (by omega) aK) (by(try simp only[List.length_cons,List.length_nil]);omega) dt
 refine Pl 1<|L0<|bR aZ (xs:=([M.code])) (ys:=([])) (.int .u8 0) 1 bm (aL.nil true 5 _ _ _) (by(try simp only[List.length_append,List.length_cons,List.length_nil,aA]);omega) bk.size fun fm fn fo fp du=>Pl 1<|nt<|sq<|sg<|Pl 2<|nt<|c1<|sg<|?_
 refine Pl 2<|nt<|rt<|tr<|rr (.tuple #[.slice none 0 0,.int .i64 1])<|?_
 have hk:dr dir M=none:=by unfold dr ey;simp only[a,b,c,f,j,t]
 refine cw (sl q0 q1 hk) ?_
 exact⟨rfl,(aD bg (aD bj (ut bk du (av (aN bm lr) ay))))⟩
 have bn:=aH.old a8 u
 have bo:=ly (dir:=dir) bn hf
 rw[t] at bo
 refine L0<|Oc<|dG bo fun fq fr fs dw ft fu aa=>?_
 have fv:q.length≤1048000:=un t df
 refine Pl 5<|nt<|go<|Pl 1<|?_
 have bp:=ub aa a9
 refine L0<|aO bp 0<|L0<|cL (m:=1) (e:=5) #[.int .u8 M.code] fun fw fy dx dy ab=>?_
 have bq:=cC dx (xs:=[M.code]) (by as_aux_lemma=>kernel_rfl) (au (by omega) aK) (by(try simp only[List.length_cons,List.length_nil]);omega) dy
 refine Pl 1<|?_
 refine L0<|bR aZ (xs:=([M.code])) (ys:=q) (.int .u8 0) 1 bq ((ap dw ab (fun x hx=>az) (fun _ _ h=>h))).rd (by(try simp only[List.length_append,List.length_cons,List.length_nil,aA]);omega) ab.size fun dA dB dC br dD=>Pl 1<|nt<|sq<|sg<|Pl 2<|nt<|c0<|bf<|sq<|?_
 refine go<|Pl 2<|?_
 refine pr (cH dir ([M.code]++q)) fun v ac ad=>?_
 have bs:Calls _ _ _ _ (cy _ _ (cH dir ([M.code]++q)) dC):=eG (dir:=dir) (br).rd (by(try simp only[List.length_append,List.length_cons,List.length_nil]);omega)
 rw[ad] at bs
 refine L0<|Oc<|e2 (bs) fun dE fz dF bt=>?_
 have bv:=ap br bt (fun x hx=>az) (fun _ _ h=>h)
 have y:=cN.rdt dF (bv).rd
 refine Pl 3<|L0<|bH mZ fun fA fB dH dI dJ=>L0<|b7 (hz:=(by rw[y.size];exact aI)) (hv:=y.size) (h1:=y.one) dI (dE) fun fC dK dL=>Pl 1<|ng<|L0<|bO (hz:=(by rw[y.size];exact aI)) dK<|?_
 have ae:=ud dJ dL dH
 have bw:=ut ab (aD dD (aD bt ae)) (av (aN bq lr) ay)
 refine L0<|bO (ub bw bp)<|?_
 have bx:=aD aa bw
 refine L0<|Oc<|m1 (dn (A:=v) (B:=M) (aH.upd y ae aG) (aH.old bn bx)) fun fD bz=>Pl 1<|nt<|sq<|sg<|Pl 3<|cu 3 [74] 77 (((ac != 0)||(!(decide (v=M))))) (fun K bA=>?_) ?_
 refine bl 74 ((ac != 0)) (fun z=>?_) (fun z=>?_)
 have dN:=ax z
 exact Pl 3<|ce bA true (by rw[z];rfl)
 have dN:=ag z
 exact Pl 3<|ce bA (!(decide (v=M))) (by rw[z];rfl)
 refine nt<|?_
 have bB:=aD bg (aD bx bz)
 refine cb (((ac != 0)||(!(decide (v=M))))) (fun T=>?_) (fun T=>?_)
 refine sg<|Pl 2<|nt<|rt<|tr<|rr (.tuple #[.slice none 0 0,.int .i64 1])<|?_
 have hk:dr dir M=some ([M.code]++q):=by unfold dr ey;simp only[a,b,c,f,j,t]
 refine cw (gQ q0 q1 hk ad T) ?_
 exact⟨rfl,bB⟩
 have bC:=(aE T).1
 have dO:=(aE T).2
 have fE:=ag bC
 have bE:(decide (v=M))=true:=by simpa using dO
 have q120bnp:=of_decide_eq_true bE
 refine bf<|sg<|Pl 3<|nt<|rt<|rr (.tuple #[.slice dA (([M.code]++q).length) dB,.int .i64 0])<|?_
 have hk:dr dir M=some ([M.code]++q):=by unfold dr ey;simp only[a,b,c,f,j,t]
 have bF:=ap bv (aD ae bz) (fun x hx=>az) (fun _ _ h=>h)
 refine cw (iF (b9.range (bF).rd) ad bC bE) ?_
 exact⟨_,rfl,(aS.weaken bF (le (le (le (le (le (le d.size g.size) i.size) n.size) s.size) u.size) aa.size)),bB⟩
 have bG:=aH.old a6 s
 have bI:=js (dir:=dir) bG hf
 rw[j] at bI
 refine L0<|Oc<|dG bI fun fF fG fH dP fI fJ af=>?_
 have fK:p.length≤1048000:=un j dg
 refine Pl 5<|nt<|sq<|sg<|Pl 2<|nt<|c0<|bf<|go<|Pl 1<|?_
 have bJ:=ub af a7
 refine L0<|aO bJ 0<|L0<|cL (m:=1) (e:=5) #[.int .u8 M.code] fun fL fM dQ dR ah=>?_
 have bK:=cC dQ (xs:=[M.code]) (by as_aux_lemma=>kernel_rfl) (au (by omega) aK) (by(try simp only[List.length_cons,List.length_nil]);omega) dR
 refine Pl 1<|?_
 refine L0<|bR aZ (xs:=([M.code])) (ys:=p) (.int .u8 0) 1 bK ((ap dP ah (fun x hx=>az) (fun _ _ h=>h))).rd (by(try simp only[List.length_append,List.length_cons,List.length_nil,aA]);omega) ah.size fun dS dT dU bL dV=>Pl 1<|nt<|sq<|sg<|Pl 2<|nt<|c0<|bf<|sq<|?_
 refine go<|Pl 2<|?_
 refine pr (cH dir ([M.code]++p)) fun C aj ak=>?_
 have bM:Calls _ _ _ _ (cy _ _ (cH dir ([M.code]++p)) dU):=eG (dir:=dir) (bL).rd (by(try simp only[List.length_append,List.length_cons,List.length_nil]);omega)
 rw[ak] at bM
 refine L0<|Oc<|e2 (bM) fun dW fN dX bN=>?_
 have bP:=ap bL bN (fun x hx=>az) (fun _ _ h=>h)
 have D:=cN.rdt dX (bP).rd
 refine Pl 3<|L0<|bH mZ fun fO fP dY e0 e1=>L0<|b7 (hz:=(by rw[D.size];exact aI)) (hv:=D.size) (h1:=D.one) e0 (dW) fun fQ e3 e4=>Pl 1<|ng<|L0<|bO (hz:=(by rw[D.size];exact aI)) e3<|?_
 have al:=ud e1 e4 dY
 have bQ:=ut ah (aD dV (aD bN al)) (av (aN bK lr) ay)
 refine L0<|bO (ub bQ bJ)<|?_
 have bT:=aD af bQ
 refine L0<|Oc<|m1 (dn (A:=C) (B:=M) (aH.upd D al aG) (aH.old bG bT)) fun fR bU=>Pl 1<|nt<|sq<|sg<|Pl 3<|cu 3 [74] 77 (((aj != 0)||(!(decide (C=M))))) (fun K bV=>?_) ?_
 refine bl 74 ((aj != 0)) (fun E=>?_) (fun E=>?_)
 have e5:=ax E
 exact Pl 3<|ce bV true (by rw[E];rfl)
 have e5:=ag E
 exact Pl 3<|ce bV (!(decide (C=M))) (by rw[E];rfl)
 refine nt<|?_
 have bW:=aD bd (aD bT bU)
 refine cb (((aj != 0)||(!(decide (C=M))))) (fun U=>?_) (fun U=>?_)
 refine sg<|Pl 2<|nt<|rt<|tr<|rr (.tuple #[.slice none 0 0,.int .i64 1])<|?_
 have hk:dr dir M=some ([M.code]++p):=by unfold dr ey;simp only[a,b,c,f,j]
 refine cw (gQ q0 q1 hk ak U) ?_
 exact⟨rfl,bW⟩
 have bX:=(aE U).1
 have e6:=(aE U).2
 have fS:=ag bX
 have bY:(decide (C=M))=true:=by simpa using e6
 have q179bnp:=of_decide_eq_true bY
 refine bf<|sg<|Pl 3<|nt<|rt<|rr (.tuple #[.slice dS (([M.code]++p).length) dT,.int .i64 0])<|?_
 have hk:dr dir M=some ([M.code]++p):=by unfold dr ey;simp only[a,b,c,f,j]
 have bZ:=ap bP (aD al bU) (fun x hx=>az) (fun _ _ h=>h)
 refine cw (iF (b9.range (bZ).rd) ak bX bY) ?_
 exact⟨_,rfl,(aS.weaken bZ (le (le (le (le (le d.size g.size) i.size) n.size) s.size) af.size)),bW⟩
 have c2:=aH.old a4 n
 have c3:=kE (dir:=dir) c2 hf
 rw[f] at c3
 refine L0<|Oc<|dG c3 fun fT fU fV e7 fW fX am=>?_
 have fY:o.length≤1048000:=un f de
 refine Pl 5<|nt<|sq<|sg<|Pl 2<|nt<|c0<|bf<|sq<|sq<|?_
 refine go<|Pl 2<|nt<|c0<|bf<|go<|Pl 1<|?_
 have c4:=ub am a5
 refine L0<|aO c4 0<|L0<|cL (m:=1) (e:=5) #[.int .u8 M.code] fun fZ g0 e8 e9 an=>?_
 have c5:=cC e8 (xs:=[M.code]) (by as_aux_lemma=>kernel_rfl) (au (by omega) aK) (by(try simp only[List.length_cons,List.length_nil]);omega) e9
 refine Pl 1<|?_
 refine L0<|bR aZ (xs:=([M.code])) (ys:=o) (.int .u8 0) 1 c5 ((ap e7 an (fun x hx=>az) (fun _ _ h=>h))).rd (by(try simp only[List.length_append,List.length_cons,List.length_nil,aA]);omega) an.size fun ea eb ec c6 ed=>Pl 1<|nt<|sq<|sg<|Pl 2<|nt<|c0<|bf<|sq<|?_
 refine go<|Pl 2<|?_
 refine pr (cH dir ([M.code]++o)) fun F ao aq=>?_
 have c7:Calls _ _ _ _ (cy _ _ (cH dir ([M.code]++o)) ec):=eG (dir:=dir) (c6).rd (by(try simp only[List.length_append,List.length_cons,List.length_nil]);omega)
 rw[aq] at c7
 refine L0<|Oc<|e2 (c7) fun ee g1 ef c8=>?_
 have c9:=ap c6 c8 (fun x hx=>az) (fun _ _ h=>h)
 have G:=cN.rdt ef (c9).rd
 refine Pl 3<|L0<|bH mZ fun g2 g3 eg eh ei=>L0<|b7 (hz:=(by rw[G.size];exact aI)) (hv:=G.size) (h1:=G.one) eh (ee) fun g4 ej ek=>Pl 1<|ng<|L0<|bO (hz:=(by rw[G.size];exact aI)) ej<|?_
 have ar:=ud ei ek eg
 have ca:=ut an (aD ed (aD c8 ar)) (av (aN c5 lr) ay)
 refine L0<|bO (ub ca c4)<|?_
 have cc:=aD am ca
 refine L0<|Oc<|m1 (dn (A:=F) (B:=M) (aH.upd G ar aG) (aH.old c2 cc)) fun g5 cd=>Pl 1<|nt<|sq<|sg<|Pl 3<|cu 3 [74] 77 (((ao != 0)||(!(decide (F=M))))) (fun K cf=>?_) ?_
 refine bl 74 ((ao != 0)) (fun H=>?_) (fun H=>?_)
 have el:=ax H
 exact Pl 3<|ce cf true (by rw[H];rfl)
 have el:=ag H
 exact Pl 3<|ce cf (!(decide (F=M))) (by rw[H];rfl)
 refine nt<|?_
 have cg:=aD bb (aD cc cd)
 refine cb (((ao != 0)||(!(decide (F=M))))) (fun V=>?_) (fun V=>?_)
 refine sg<|Pl 2<|nt<|rt<|tr<|rr (.tuple #[.slice none 0 0,.int .i64 1])<|?_
 have hk:dr dir M=some ([M.code]++o):=by unfold dr ey;simp only[a,b,c,f]
 refine cw (gQ q0 q1 hk aq V) ?_
 exact⟨rfl,cg⟩
 have ch:=(aE V).1
 have em:=(aE V).2
 have g6:=ag ch
 have ci:(decide (F=M))=true:=by simpa using em
 have q238bnp:=of_decide_eq_true ci
 refine bf<|sg<|Pl 3<|nt<|rt<|rr (.tuple #[.slice ea (([M.code]++o).length) eb,.int .i64 0])<|?_
 have hk:dr dir M=some ([M.code]++o):=by unfold dr ey;simp only[a,b,c,f]
 have cj:=ap c9 (aD ar cd) (fun x hx=>az) (fun _ _ h=>h)
 refine cw (iF (b9.range (cj).rd) aq ch ci) ?_
 exact⟨_,rfl,(aS.weaken cj (le (le (le (le d.size g.size) i.size) n.size) am.size)),cg⟩
 have ck:=aH.old a2 i
 have cl:=kz (dir:=dir) ck hf
 rw[c] at cl
 refine L0<|Oc<|dG cl fun g7 g8 g9 eo ga gb aw=>?_
 have gc:l.length≤1048000:=un c dd
 refine Pl 5<|nt<|sq<|sg<|Pl 2<|nt<|c0<|bf<|sq<|sq<|?_
 refine go<|Pl 2<|nt<|c0<|bf<|sq<|sg<|Pl 2<|nt<|c0<|?_
 refine bf<|go<|Pl 1<|?_
 have cm:=ub aw a3
 refine L0<|aO cm 0<|L0<|cL (m:=1) (e:=5) #[.int .u8 M.code] fun gd ge ep eq aB=>?_
 have cn:=cC ep (xs:=[M.code]) (by as_aux_lemma=>kernel_rfl) (au (by omega) aK) (by(try simp only[List.length_cons,List.length_nil]);omega) eq
 refine Pl 1<|?_
 refine L0<|bR aZ (xs:=([M.code])) (ys:=l) (.int .u8 0) 1 cn ((ap eo aB (fun x hx=>az) (fun _ _ h=>h))).rd (by(try simp only[List.length_append,List.length_cons,List.length_nil,aA]);omega) aB.size fun es et eu co ev=>Pl 1<|nt<|sq<|sg<|Pl 2<|nt<|c0<|bf<|sq<|?_
 refine go<|Pl 2<|?_
 refine pr (cH dir ([M.code]++l)) fun I aC aJ=>?_
 have cp:Calls _ _ _ _ (cy _ _ (cH dir ([M.code]++l)) eu):=eG (dir:=dir) (co).rd (by(try simp only[List.length_append,List.length_cons,List.length_nil]);omega)
 rw[aJ] at cp
 refine L0<|Oc<|e2 (cp) fun ew gf ex cq=>?_
 have cr:=ap co cq (fun x hx=>az) (fun _ _ h=>h)
 have J:=cN.rdt ex (cr).rd
 refine Pl 3<|L0<|bH mZ fun gg gh ez eA eB=>L0<|b7 (hz:=(by rw[J.size];exact aI)) (hv:=J.size) (h1:=J.one) eA (ew) fun gi eC eD=>Pl 1<|ng<|L0<|bO (hz:=(by rw[J.size];exact aI)) eC<|?_
 have aQ:=ud eB eD ez
 have ct:=ut aB (aD ev (aD cq aQ)) (av (aN cn lr) ay)
 refine L0<|bO (ub ct cm)<|?_
 have cx:=aD aw ct
 refine L0<|Oc<|m1 (dn (A:=I) (B:=M) (aH.upd J aQ aG) (aH.old ck cx)) fun gj cz=>Pl 1<|nt<|sq<|sg<|Pl 3<|cu 3 [74] 77 (((aC != 0)||(!(decide (I=M))))) (fun K cA=>?_) ?_
 refine bl 74 ((aC != 0)) (fun L=>?_) (fun L=>?_)
 have eE:=ax L
 exact Pl 3<|ce cA true (by rw[L];rfl)
 have eE:=ag L
 exact Pl 3<|ce cA (!(decide (I=M))) (by rw[L];rfl)
 refine nt<|?_
 have cB:=aD b8 (aD cx cz)
 refine cb (((aC != 0)||(!(decide (I=M))))) (fun W=>?_) (fun W=>?_)
 refine sg<|Pl 2<|nt<|rt<|tr<|rr (.tuple #[.slice none 0 0,.int .i64 1])<|?_
 have hk:dr dir M=some ([M.code]++l):=by unfold dr ey;simp only[a,b,c]
 refine cw (gQ q0 q1 hk aJ W) ?_
 exact⟨rfl,cB⟩
 have cD:=(aE W).1
 have eF:=(aE W).2
 have gk:=ag cD
 have cE:(decide (I=M))=true:=by simpa using eF
 have q297bnp:=of_decide_eq_true cE
 refine bf<|sg<|Pl 3<|nt<|rt<|rr (.tuple #[.slice es (([M.code]++l).length) et,.int .i64 0])<|?_
 have hk:dr dir M=some ([M.code]++l):=by unfold dr ey;simp only[a,b,c]
 have cF:=ap cr (aD aQ cz) (fun x hx=>az) (fun _ _ h=>h)
 refine cw (iF (b9.range (cF).rd) aJ cD cE) ?_
 exact⟨_,rfl,(aS.weaken cF (le (le (le d.size g.size) i.size) aw.size)),cB⟩
 have cG:=aH.old a0 g
 have cI:=jp (dir:=dir) cG hf
 rw[b] at cI
 refine L0<|Oc<|dG cI fun gl gm gn eH gp gq aR=>?_
 have gr:k.length≤1048000:=un b dc
 refine Pl 5<|nt<|sq<|sg<|Pl 2<|nt<|c0<|bf<|sq<|sq<|?_
 refine go<|Pl 2<|nt<|c0<|bf<|sq<|sg<|Pl 2<|nt<|c0<|?_
 refine bf<|sq<|sg<|Pl 2<|nt<|c0<|bf<|go<|Pl 1<|?_
 have cJ:=ub aR a1
 refine L0<|aO cJ 0<|L0<|cL (m:=1) (e:=5) #[.int .u8 M.code] fun gs gt eI eJ aT=>?_
 have cK:=cC eI (xs:=[M.code]) (by as_aux_lemma=>kernel_rfl) (au (by omega) aK) (by(try simp only[List.length_cons,List.length_nil]);omega) eJ
 refine Pl 1<|?_
 refine L0<|bR aZ (xs:=([M.code])) (ys:=k) (.int .u8 0) 1 cK ((ap eH aT (fun x hx=>az) (fun _ _ h=>h))).rd (by(try simp only[List.length_append,List.length_cons,List.length_nil,aA]);omega) aT.size fun eK eL eM cM eN=>Pl 1<|nt<|sq<|sg<|Pl 2<|nt<|c0<|bf<|sq<|?_
 refine go<|Pl 2<|?_
 refine pr (cH dir ([M.code]++k)) fun N aU aW=>?_
 have cO:Calls _ _ _ _ (cy _ _ (cH dir ([M.code]++k)) eM):=eG (dir:=dir) (cM).rd (by(try simp only[List.length_append,List.length_cons,List.length_nil]);omega)
 rw[aW] at cO
 refine L0<|Oc<|e2 (cO) fun eO gu eP cP=>?_
 have cQ:=ap cM cP (fun x hx=>az) (fun _ _ h=>h)
 have O:=cN.rdt eP (cQ).rd
 refine Pl 3<|L0<|bH mZ fun gv gw eQ eR eS=>L0<|b7 (hz:=(by rw[O.size];exact aI)) (hv:=O.size) (h1:=O.one) eR (eO) fun gx eT eU=>Pl 1<|ng<|L0<|bO (hz:=(by rw[O.size];exact aI)) eT<|?_
 have aY:=ud eS eU eQ
 have cR:=ut aT (aD eN (aD cP aY)) (av (aN cK lr) ay)
 refine L0<|bO (ub cR cJ)<|?_
 have cS:=aD aR cR
 refine L0<|Oc<|m1 (dn (A:=N) (B:=M) (aH.upd O aY aG) (aH.old cG cS)) fun gy cU=>Pl 1<|nt<|sq<|sg<|Pl 3<|cu 3 [74] 77 (((aU != 0)||(!(decide (N=M))))) (fun K cV=>?_) ?_
 refine bl 74 ((aU != 0)) (fun P=>?_) (fun P=>?_)
 have eV:=ax P
 exact Pl 3<|ce cV true (by rw[P];rfl)
 have eV:=ag P
 exact Pl 3<|ce cV (!(decide (N=M))) (by rw[P];rfl)
 refine nt<|?_
 have cW:=aD b5 (aD cS cU)
 refine cb (((aU != 0)||(!(decide (N=M))))) (fun X=>?_) (fun X=>?_)
 refine sg<|Pl 2<|nt<|rt<|tr<|rr (.tuple #[.slice none 0 0,.int .i64 1])<|?_
 have hk:dr dir M=some ([M.code]++k):=by unfold dr ey;simp only[a,b]
 refine cw (gQ q0 q1 hk aW X) ?_
 exact⟨rfl,cW⟩
 have cX:=(aE X).1
 have eW:=(aE X).2
 have gz:=ag cX
 have cY:(decide (N=M))=true:=by simpa using eW
 have q356bnp:=of_decide_eq_true cY
 refine bf<|sg<|Pl 3<|nt<|rt<|rr (.tuple #[.slice eK (([M.code]++k).length) eL,.int .i64 0])<|?_
 have hk:dr dir M=some ([M.code]++k):=by unfold dr ey;simp only[a,b]
 have cZ:=ap cQ (aD aY cU) (fun x hx=>az) (fun _ _ h=>h)
 refine cw (iF (b9.range (cZ).rd) aW cX cY) ?_
 exact⟨_,rfl,(aS.weaken cZ (le (le d.size g.size) aR.size)),cW⟩
 have d0:=aH.old hM d
 have d1:=m6 d0
 rw[a] at d1
 refine L0<|Oc<|dG d1 fun eX eY eZ d2 gA gB f0=>?_
 have gC:r.length≤1048000:=vC a
 refine Pl 5<|nt<|sq<|sg<|Pl 2<|nt<|c0<|bf<|sq<|sq<|?_
 refine go<|Pl 2<|nt<|c0<|bf<|sg<|Pl 2<|?_
 refine pr (cH dir r) fun Q b0 b1=>?_
 have d3:Calls _ _ _ _ (cy _ _ (cH dir r) eZ):=eG (dir:=dir) (d2).rd (by(try simp only[List.length_append,List.length_cons,List.length_nil]);omega)
 rw[b1] at d3
 refine L0<|Oc<|e2 (d3) fun f1 gD f2 d4=>?_
 have d5:=ap d2 d4 (fun x hx=>az) (fun _ _ h=>h)
 have R:=cN.rdt f2 (d5).rd
 refine Pl 3<|L0<|bH mZ fun gF gG f3 f4 f5=>L0<|b7 (hz:=(by rw[R.size];exact aI)) (hv:=R.size) (h1:=R.one) f4 (f1) fun gH f6 f7=>Pl 1<|ng<|L0<|bO (hz:=(by rw[R.size];exact aI)) f6<|?_
 have b2:=ud f5 f7 f3
 have b3:=aD f0 (aD d4 b2)
 refine L0<|bO (ub b3 Z)<|?_
 refine L0<|Oc<|m1 (dn (A:=Q) (B:=M) (aH.upd R b2 aG) (aH.old d0 b3)) fun gI d6=>Pl 1<|nt<|sq<|sg<|Pl 3<|cu 3 [74] 77 (((b0 != 0)||(!(decide (Q=M))))) (fun K d7=>?_) ?_
 refine bl 74 ((b0 != 0)) (fun S=>?_) (fun S=>?_)
 have f8:=ax S
 exact Pl 3<|ce d7 true (by rw[S];rfl)
 have f8:=ag S
 exact Pl 3<|ce d7 (!(decide (Q=M))) (by rw[S];rfl)
 refine nt<|?_
 have d8:=aD d (aD b3 d6)
 refine cb (((b0 != 0)||(!(decide (Q=M))))) (fun Y=>?_) (fun Y=>?_)
 refine sg<|Pl 2<|nt<|rt<|tr<|rr (.tuple #[.slice none 0 0,.int .i64 1])<|?_
 have hk:dr dir M=some r:=by unfold dr ey;simp only[a]
 refine cw (gQ q0 q1 hk b1 Y) ?_
 exact⟨rfl,d8⟩
 have d9:=(aE Y).1
 have f9:=(aE Y).2
 have gJ:=ag d9
 have da:(decide (Q=M))=true:=by simpa using f9
 have q400bnp:=of_decide_eq_true da
 refine bf<|sg<|Pl 3<|nt<|rt<|rr (.tuple #[.slice eX r.length eY,.int .i64 0])<|?_
 have hk:dr dir M=some r:=by unfold dr ey;simp only[a]
 have db:=ap d5 (aD b2 d6) (fun x hx=>az) (fun _ _ h=>h)
 refine cw (iF (b9.range (db).rd) b1 d9 da) ?_
 exact⟨_,rfl,(aS.weaken db d.size),d8⟩
open Go.RowKit
theorem nY{m:Md}{cs:Array Value}{M:aP}{w:World}{dir:Int}(hX:cv dir M=none)(h:aH m w cs.toList M)(hf:bS M) : Calls Tryz.prog 29 #[.int .i64 dir,.agg cs] w (fun e w'=>e = .returned (.tuple #[.slice none 0 0,.int .i64 1])∧aC [] w w'):=by
  have:=lF (dir:=dir) h hf
  rw[hX] at this
  exact this
theorem nM{m:Md}{cs:Array Value}{M:aP}{w:World}{dir:Int}{l:List Int}(hX:cv dir M=some l)(h:aH m w cs.toList M)(hf:bS M) : Calls Tryz.prog 29 #[.int .i64 dir,.agg cs] w (fun e w'=>∃ v,e = .returned (.tuple #[v,.int .i64 0])∧eB w.heap.size w' v l∧aC [] w w'):=by
  have:=lF (dir:=dir) h hf
  rw[hX] at this
  exact this
theorem zg{P:List Int→fy × Int}{r:Option (List Int)}{b:List Int}{F:fy}{E u t:Int}{M:aP}(hs:∀ l,r=some l→l=b)(hrt:∀ l,r=some l→P l=(⟨u,t,M⟩,0))(hX:P b=(F,E))(hE:(((E != 0)||(!(decide (F.msg=M))))||(!((F.unit==u)&&(F.tid==t))))=true) : r=none:=by
  cases h:r with
  | none=>rfl
  | some l =>
    have h1:=hrt l h
    rw[hs l h,hX] at h1
    injection h1 with h1 h2
    subst h1 h2
    simp at hE
theorem zC{F:fy}{E u t:Int}{M:aP}(hE:(((E != 0)||(!(decide (F.msg=M))))||(!((F.unit==u)&&(F.tid==t))))=false) : E=0∧F=⟨u,t,M⟩:=by
  obtain⟨u',t',M'⟩:=F
  simp only[Bool.or_eq_false_iff,Bool.not_eq_false',Bool.and_eq_true,beq_iff_eq,bne_eq_false_iff_eq,decide_eq_true_eq] at hE
  obtain⟨⟨h1,h2⟩,h3,h4⟩:=hE
  have h2:M'=M:=h2
  have h3:u'=u:=h3
  have h4:t'=t:=h4
  subst h2 h3 h4
  exact⟨h1,rfl⟩
open Go.RowKit
theorem zp{x y:Int}(hx:0≤x∧x<256)(hy:0<y) : IntKind.u8.wrap (Int.tdiv x y)=x/y:=by
  rw[Int.tdiv_eq_ediv_of_nonneg hx.1]
  refine u8_in ⟨Int.ediv_nonneg hx.1 (Int.le_of_lt hy),?_⟩
  have:=Int.ediv_le_self y hx.1
  omega
theorem xZ{w:World}{c:Int}(hc:0≤c∧c<16) : Calls Tryz.prog 231 #[.int .u8 c] w (cG (.int .u8 (da c)) w):=by
 refine en 9 Tryz.func231 rfl<|sg<|Pl 1<|nt<|sq<|sg<|Pl 2<|nt<|cb ((decide (c<10))) (fun a=>?_) (fun a=>?_)
 have b:=of_decide_eq_true a
 refine sg<|Pl 3<|nt<|rt<|tr<|rr (.int .u8 ((48+c)%256))<|?_
 have hs:da c=((48+c)%256):=by unfold da;split<;>omega
 rw[hs]
 exact⟨rfl,(aC.refl [] _)⟩
 have b:=of_decide_eq_false a
 refine bf<|sg<|Pl 3<|nt<|rt<|rr (.int .u8 ((55+c)%256))<|?_
 have hs:da c=((55+c)%256):=by unfold da;split<;>omega
 rw[hs]
 exact⟨rfl,(aC.refl [] _)⟩
theorem yV{m:Md}{A:Option Addr}{cp:Nat}{b:List Int}{w:World}(hsl:b9 m w (.slice A b.length cp) b)(hl:b.length≤1024) : Calls Tryz.prog 192 #[.slice A b.length cp] w (cG (.string (strOfNums (cY b))) w):=by
 have hb:=b9.range hsl
 refine en 28 Tryz.func192 rfl<|sg<|Pl 1<|ng<|Pl 1<|nt<|sq<|sg<|?_
 refine Pl 1<|nt<|bk<|?_
 refine iN (fun x=>[(0,.slice A b.length cp),(2,.string ⟨#[]⟩),(3,.string (strOfNums x.2)),(4,.int .i64 ((x.1:Nat) : Int))]) (fun(x:Nat × List Int) w'=>aC [] w w'∧(x.1≤b.length)∧(x.2=cY (b.take x.1))) (fun x=>b.length-x.1) (0,[]) ⟨aC.refl _ _,(by(try dsimp only);omega),rfl⟩ ?_
 rintro⟨k,L⟩ G ⟨g,s,t⟩
 refine iy [(0,.slice A b.length cp),(2,.string ⟨#[]⟩),(3,.string (strOfNums L)),(4,.int .i64 ((k:Nat) : Int))] ?_
 have H:k≤b.length:=s
 have I:L=cY (b.take k):=t
 have hL:L=cY (b.take k):=by assumption
 have hLn:L.length=2*k:=by rw[hL,dy,List.length_take];omega
 have hLb:dc L:=by rw[hL];exact iD fun x hx=>hb x (List.mem_of_mem_take hx)
 refine sq<|sg<|Pl 4<|nt<|cb ((decide (((k:Nat) : Int)<((b.length:Nat) : Int)))) (fun h=>?_) (fun h=>?_)
 have u:=of_decide_eq_true h
 refine bf<|sq<|bk<|?_
 refine gh (b9.at_ (b9.old hsl g) k (by omega)) fun v y j f J=>Rg 17 (fun w'=>w'.cell? ⟨v,y+k,none⟩=some (.int .u8 (b.getD k 0))) fun K l=>bi (uc l f) fun d=>Rt 0 d<|Rt 1 d<|Rt 2 d<|nK 3 d b.length k ((k:Nat) : Int) rfl j (by omega)<|Rl 4 d (fun _ hs=>hs)<|Rr 5 d (.int .u8 ((b.getD k 0)/16)) (fun _ _=>ch (.int .u8 (IntKind.u8.wrap (Int.tdiv (b.getD k 0) 16))) (by kernel_rfl) (congrArg (Value.int .u8) (zp (by omega) (by omega))))<|Rt 7 d<|Rt 8 d<|nK 9 d b.length k ((k:Nat) : Int) rfl j (by omega)<|Rl 10 d (fun _ hs=>hs)<|Rr 11 d (.int .u8 ((b.getD k 0)%16)) (fun _ _=>ch (.int .u8 (Int.tmod (b.getD k 0) 16)) (by kernel_rfl) (congrArg (Value.int .u8) (Int.tmod_eq_emod_of_nonneg (by omega))))<|?_
 have M:=gI (n:=((b.getD k 0)/16)) (by omega)
 refine R0 6 rfl<|Oc<|m1 (xZ (c:=((b.getD k 0)/16)) (w:=_) (by omega)) fun N z=>?_
 have o:=aD l z
 refine bi (uc o f) fun O=>?_
 have P:=gI (n:=((b.getD k 0)%16)) (by omega)
 refine R0 12 rfl<|Oc<|m1 (xZ (c:=((b.getD k 0)%16)) (w:=_) (by omega)) fun Q B=>?_
 have p:=aD o B
 refine bi (uc p f) fun R=>R0 13 rfl<|cL (m:=2) (e:=5) #[.int .u8 (da ((b.getD k 0)/16)),.int .u8 (da ((b.getD k 0)%16))] fun C S D E F=>?_
 have q:=cC D (xs:=[(da ((b.getD k 0)/16)),(da ((b.getD k 0)%16))]) (by as_aux_lemma=>kernel_rfl) (au (by omega) (au (by omega) aK)) (by(try simp only[List.length_cons,List.length_nil]);omega) E
 have i:=aD p F
 refine bi (uc i f) fun T=>R0 14 rfl<|iP (.string (strOfNums ([(da ((b.getD k 0)/16)),(da ((b.getD k 0)%16))]))) (dW (A:=some ⟨C,0,none⟩) (n:=2) (c:=2) rfl (by kernel_rfl) Tryz.underlying22 Tryz.underlying5 Tryz.underlying9 (q).rd)<|bi (uc i f) fun r=>?_
 have U:dc (L++[(da ((b.getD k 0)/16)),(da ((b.getD k 0)%16))]):=fT hLb (b9.range (q).rd)
 refine Rr 15 r (.string (strOfNums (L++[(da ((b.getD k 0)/16)),(da ((b.getD k 0)%16))]))) (fun _ _=>iu (a:=(strOfNums L)) (b:=(strOfNums ([(da ((b.getD k 0)/16)),(da ((b.getD k 0)%16))]))) (xs:=L) (ys:=([(da ((b.getD k 0)/16)),(da ((b.getD k 0)%16))])) rfl (by kernel_rfl) (by kernel_rfl) rfl rfl (by simp only[List.length_append,List.length_cons,List.length_nil];omega))<|Rt 16 r<|re<|bn<|tn<|go<|Pl 1<|L0<|Oi (((k:Nat) : Int)+1)<|Pl 1<|nl<|?_
 exact gB ((k+1),(L++[(da ((b.getD k 0)/16)),(da ((b.getD k 0)%16))])) ⟨(aD g i),(by(try dsimp only);omega),(by(try dsimp only);rw[nC b k (by omega),← hL,List.append_assoc];rfl)⟩ (by omega)
 have u:=of_decide_eq_false h
 refine xt<|tx<|tx<|bx<|tn<|sg<|Pl 2<|nt<|rt<|rr (.string (strOfNums L))<|?_
 have hs:cY b=L:=by rw[hL,show k=b.length by omega,List.take_length]
 rw[hs]
 exact⟨rfl,g⟩
theorem zF{m:Md}{v:Value}{b:List Int}{w:World}(h:b9 m w v b)(hl:b.length≤1024) : Calls Tryz.prog 192 #[v] w (cG (.string (strOfNums (cY b))) w):=by
  obtain⟨A,cp,rfl,_,_⟩:=h.shape
  exact yV h hl
def ya (l:List Int)(w:World)(e:Ending)(w':World) : Prop:=∃ v,e = .returned v∧fW w.heap.size w' v l∧aC [] w w'
theorem oH{m:Md}{A:Option Addr}{cp:Nat}{b:List Int}{w:World}{u t:Int}(hbu:0≤u∧u<256)(hbt:0≤t∧t<65536)(hsl:b9 m w (.slice A b.length cp) b)(hb:b.length≤253) : Calls Tryz.prog 129 #[.agg #[.int .u8 u,.int .u16 t],.slice A b.length cp] w (ya (lb u b) w):=by
 refine en 21 Tryz.func129 rfl<|sg<|L0<|dv #[.int .u8 u,.int .u16 t] fun O P Q s c=>Pl 1<|ng<|Pl 1<|L0<|aO s 0<|L0<|cL (m:=1) (e:=5) #[.int .u8 u] fun v R y z d=>?_
 have l:=cC y (xs:=[u]) (by as_aux_lemma=>kernel_rfl) (au (by omega) aK) (by(try simp only[List.length_cons,List.length_nil]);omega) z
 refine Pl 1<|?_
 have n:=aD c d
 refine L0<|bR aZ (xs:=([u])) (ys:=b) (.int .u8 0) 1 l (b9.old hsl n) (by(try simp only[List.length_append,List.length_cons,List.length_nil,aA]);omega) d.size fun f B S g i=>Pl 1<|ng<|Pl 2<|L0<|Oc (args:=#[.slice f (([u]++b).length) B])<|m1 (rR (g).rd) fun T j=>?_
 have U:=iH ([u]++b)
 refine L0<|cL (m:=1) (e:=5) #[.int .u8 (cg ([u]++b))] fun V W C D k=>?_
 have E:=cC C (xs:=[(cg ([u]++b))]) (by as_aux_lemma=>kernel_rfl) (au (by omega) aK) (by(try simp only[List.length_cons,List.length_nil]);omega) D
 have o:=aD j k
 refine L0<|bR aZ (xs:=([u]++b)) (ys:=([(cg ([u]++b))])) (.int .u8 0) 1 (ap g o (fun x hx=>az) (fun _ _ h=>h)) (E).rd (by(try simp only[List.length_append,List.length_cons,List.length_nil,aA]);omega) (le (le (le d.size i.size) j.size) k.size) fun F G X p q=>Pl 1<|ng<|Pl 1<|L0<|Oc (args:=#[.slice F ((([u]++b)++[(cg ([u]++b))]).length) G])<|m1 (zF (p).rd (by simp only[List.length_append,List.length_cons,List.length_nil];omega)) fun Y r=>?_
 have H:dc (cY (([u]++b)++[(cg ([u]++b))])):=iD (b9.range (p).rd)
 have I:dc ([58]++(cY (([u]++b)++[(cg ([u]++b))]))):=fT (by decide) H
 refine L0<|iP (.string (strOfNums ([58]++(cY (([u]++b)++[(cg ([u]++b))]))))) (iu (a:=⟨#[58]⟩) (b:=(strOfNums (cY (([u]++b)++[(cg ([u]++b))])))) (xs:=([58])) (ys:=(cY (([u]++b)++[(cg ([u]++b))]))) rfl (by kernel_rfl) (by kernel_rfl) rfl rfl (by simp only[dy,List.length_append,List.length_cons,List.length_nil];omega))<|?_
 have J:dc (([58]++(cY (([u]++b)++[(cg ([u]++b))])))++[13,10]):=fT I (by decide)
 refine L0<|iP (.string (strOfNums (([58]++(cY (([u]++b)++[(cg ([u]++b))])))++[13,10]))) (iu (a:=(strOfNums ([58]++(cY (([u]++b)++[(cg ([u]++b))]))))) (b:=⟨#[13,10]⟩) (xs:=([58]++(cY (([u]++b)++[(cg ([u]++b))])))) (ys:=([13,10])) rfl (by kernel_rfl) (by kernel_rfl) rfl rfl (by simp only[dy,List.length_append,List.length_cons,List.length_nil];omega))<|L0<|Bd (xs:=(([58]++(cY (([u]++b)++[(cg ([u]++b))])))++[13,10])) Tryz.underlying9 Tryz.underlying22 Tryz.underlying5 J (by simp only[dy,List.length_append,List.length_cons,List.length_nil];omega) fun K L Z M N=>Pl 1<|nt<|rt<|rr (.slice K ((([58]++(cY (([u]++b)++[(cg ([u]++b))])))++[13,10]).length) L)<|?_
 exact⟨_,rfl,M.weaken (le (le (le (le (le (le c.size d.size) i.size) j.size) k.size) q.size) r.size),(ut n (ut (aC.mono (S':=(ob (some ⟨v,0,none⟩)++(ob f++[]))) i (av il ay)) (ut (aC.mono (S':=(ob f++[])) o ay) (aD q (aD r N)) (av il ay)) (av il ay)) (av (aN l c.size) (av (aN g c.size) ay)))⟩
theorem qt{m:Md}{v:Value}{b:List Int}{w:World}{u t:Int}(hbu:0≤u∧u<256)(hbt:0≤t∧t<65536)(h:b9 m w v b)(hb:b.length≤253) : Calls Tryz.prog 129 #[.agg #[.int .u8 u,.int .u16 t],v] w (ya (lb u b) w):=by
  obtain⟨A,cp,rfl,_,_⟩:=h.shape
  exact oH hbu hbt h hb
theorem lD{m:Md}{x:SL}{M:aP}{w:World}{dir u t:Int}(h:aH m w (pA M x).toList M)(hf:bS M)(hbu:0≤u∧u<256)(hbt:0≤t∧t<65536) : Calls Tryz.prog 63 #[.int .i64 dir,.agg (rJ u t M x)] w (kV (fK dir u t M) w):=by
 obtain⟨hc,hd⟩:=h.rngs
 refine en 50 Tryz.func63 rfl<|sg<|L0<|dv (rJ u t M x) fun a5 a6 a7 o b=>Pl 2<|ng<|Pl 2<|L0<|xT o 2 22<|?_
 refine wo (cv dir M) (fun hW=>?_) (fun l hW=>?_)
 refine L0<|Oc<|m1 (nY hW (aH.old h b) hf) fun a8 I=>Pl 5<|nt<|sq<|sg<|Pl 2<|nt<|c1<|sg<|Pl 2<|nl<|?_
 refine tn<|rt<|tr<|rr (.tuple #[.slice none 0 0,.int .i64 1])<|?_
 refine jU (show fK dir u t M=none by unfold fK;rw[hW]) ?_
 exact⟨rfl,(aD b I)⟩
 have hlw:=wl hc hW
 have p:=aH.old h b
 refine L0<|Oc<|dG (nM hW p hf) fun a9 aa ab q ac ad j=>?_
 have hby:∀ l2,cv dir M=some l2→dc l2:=fun l2 h2=>by rw[hW] at h2;injection h2 with h2;subst h2;exact b9.range (q).rd
 refine Pl 5<|nt<|sq<|sg<|Pl 2<|nt<|c0<|bf<|sg<|?_
 refine Pl 1<|?_
 have r:=ub j o
 refine L0<|xT r 0 2<|Pl 1<|L0<|Oc<|e2 (qt (u:=u) (t:=t) hbu hbt (q).rd hlw) fun ae af c J=>?_
 rcases fW.shape c with⟨L,N,rfl⟩
 rcases aL.shape (c).rd with⟨_,_,k,O,Q⟩
 injection k with _ _ k
 rw[← k] at O Q
 refine Pl 1<|ng<|Pl 2<|?_
 have hlb:((lb u l)).length≤1048576:=by rw[pG];omega
 refine pr (ex dir (lb u l)) fun a d n=>?_
 refine L0<|Oc<|e2 (nQ n (c).rd hlb) fun x42 ai R S=>?_
 obtain⟨T,aj,ak⟩:=R
 refine Pl 3<|L0<|bH #[.int .u8 0,.int .u16 0,.int .u8 0,.int .u8 0,.int .u16 0,.int .u16 0,.int .u16 0,.int .u16 0,.int .u16 0,.int .u16 0,.int .u16 0,.int .u16 0,.int .u16 0,.int .u16 0,.slice none 0 0,.slice none 0 0,.slice none 0 0,.slice none 0 0,.int .u8 0,.int .u8 0,.int .u8 0,.int .u8 0,.int .u8 0,.slice none 0 0] fun al am U V W=>L0<|b7 V (rJ a.unit a.tid a.msg x42) fun an s X=>Pl 1<|ng<|Pl 1<|L0<|xT s 2 22<|Pl 1<|?_
 have v:=ud W X U
 have y:=aD S v
 have z:=aD J y
 have A:=ub z r
 refine L0<|xT A 2 22<|?_
 have B:=aD j z
 refine L0<|Oc<|m1 (dn (aH.upd T v aG) (aH.old p B)) fun ao i=>Pl 1<|nt<|sq<|sg<|Pl 3<|cu 3 [38] 41 (((d != 0)||(!(decide (a.msg=M))))) (fun K C=>?_) ?_
 refine bl 38 ((d != 0)) (fun e=>?_) (fun e=>?_)
 have Y:=ax e
 exact Pl 3<|ce C true (by rw[e];rfl)
 have Y:=ag e
 exact Pl 3<|ce C (!(decide (a.msg=M))) (by rw[e];rfl)
 refine Pl 1<|cu 6 [42] 48 ((((d != 0)||(!(decide (a.msg=M))))||(!((a.unit==u)&&(a.tid==t))))) (fun K D=>?_) ?_
 refine bl 42 (((d != 0)||(!(decide (a.msg=M))))) (fun f=>?_) (fun f=>?_)
 exact Pl 6<|ce D true (by rw[f];rfl)
 have Z:=(aE f).1
 have a0:=(aE f).2
 have ap:=ag Z
 have a1:(decide (a.msg=M))=true:=by simpa using a0
 have q69bnp:=of_decide_eq_true a1
 refine Pl 1<|?_
 refine L1<|xT (ub i s) 0 2<|Pl 1<|?_
 exact L1<|xT (ub i A) 0 2<|L1<|iP (.bool (!((a.unit==u)&&(a.tid==t)))) (qP a.unit a.tid u t rfl (by kernel_rfl) (by kernel_rfl) rfl)<|Pl 1<|ce D (!((a.unit==u)&&(a.tid==t))) (by rw[f];rfl)
 refine nt<|?_
 have E:=aD b (aD B i)
 refine cb ((((d != 0)||(!(decide (a.msg=M))))||(!((a.unit==u)&&(a.tid==t))))) (fun g=>?_) (fun g=>?_)
 refine sg<|Pl 2<|nt<|rt<|tr<|rr (.tuple #[.slice none 0 0,.int .i64 1])<|?_
 refine jU (zg (P:=ex dir) (fun l2 h=>by obtain⟨_,l3,k1,k2,_⟩:=jN h;rw[hW] at k1;injection k1 with k1;subst k1;exact k2) (fun l2 h=>zi (jB hc hW) hbu hc hd hby h) n g) ?_
 exact⟨rfl,E⟩
 have F:=(aE g).1
 have a2:=(aE g).2
 have a3:=(aE F).1
 have a4:=(aE F).2
 have q75aap:=ag a3
 have q75abn:(decide (a.msg=M))=true:=by simpa using a4
 have q75abnp:=of_decide_eq_true q75abn
 have G:((a.unit==u)&&(a.tid==t))=true:=by simpa using a2
 have q75bna:=(aT G).1
 have q75bnb:=(aT G).2
 have q75bnap:=ah q75bna
 have q75bnbp:=ah q75bnb
 refine bf<|sg<|Pl 3<|nt<|rt<|rr (.tuple #[.slice (some ⟨L,0,none⟩) ((lb u l).length) N,.int .i64 0])<|?_
 obtain⟨hE0,hF0⟩:=zC g
 subst hE0 hF0
 have H:=aD y i
 have aq:=b9.upd' (c).rd H aG
 refine jU ((uh (jB hc hW) n rfl rfl).1) ?_
 exact⟨_,rfl,((fW.old c H).weaken (le b.size j.size)),E⟩
theorem o8{m:Md}{x:SL}{M:aP}{w:World}{dir u t:Int}(h:aH m w (pA M x).toList M)(hf:bS M)(hbu:0≤u∧u<256)(hbt:0≤t∧t<65536)(hX:fK dir u t M=none) : Calls Tryz.prog 63 #[.int .i64 dir,.agg (rJ u t M x)] w (fun e w'=>e = .returned (.tuple #[.slice none 0 0,.int .i64 1])∧aC [] w w'):=by
  have k:=lD (dir:=dir) h hf hbu hbt
  rw[hX] at k
  exact k
theorem nP{m:Md}{x:SL}{M:aP}{w:World}{dir u t:Int}(h:aH m w (pA M x).toList M)(hf:bS M)(hbu:0≤u∧u<256)(hbt:0≤t∧t<65536){l:List Int}(hX:fK dir u t M=some l) : Calls Tryz.prog 63 #[.int .i64 dir,.agg (rJ u t M x)] w (fun e w'=>∃ v,e = .returned (.tuple #[v,.int .i64 0])∧fW w.heap.size w' v l∧aC [] w w'):=by
  have k:=lD (dir:=dir) h hf hbu hbt
  rw[hX] at k
  exact k
open Go.RowKit
theorem o0{w:World}{dir:Int}{u t:Int}{M:aP}{xM:SL}{mM:Md}(hM:aH mM w (pA M xM).toList M)(hbu:0≤u∧u<256)(hbt:0≤t∧t<65536) :
    Calls Tryz.prog 13 #[.int .i64 dir,.agg (rJ u t M xM)] w (cG (.bool true) w):=by
 have hRM:=hM.rngs
 obtain⟨hcM,hdM⟩:=hRM
 refine en 41 Tryz.func13 rfl<|sg<|L0<|dv (rJ u t M xM) fun J K L v x=>Pl 1<|ng<|L0<|Oc<|m1 (@w6 _) fun N o=>Pl 1<|nt<|sq<|?_
 refine go<|Pl 1<|?_
 have p:=ub o v
 refine L0<|xT p 2 22<|?_
 have q:=aD x o
 have r:=aH.old hM q
 refine L0<|Oc<|m1 (xy r) fun O e=>Pl 1<|nt<|sq<|sg<|Pl 2<|nt<|?_
 have f:=aD q e
 refine cb ((!(i6 M))) (fun g=>?_) (fun g=>?_)
 have c:(i6 M)=false:=by simpa using g
 refine sg<|Pl 2<|nt<|rt<|tr<|rr (.bool true)<|?_
 exact⟨rfl,f⟩
 have c:(i6 M)=true:=by simpa using g
 refine bf<|sg<|Pl 1<|?_
 have h:=ub e p
 refine L0<|bO h<|?_
 have d:=aH.old r e
 refine wo (fK dir u t M) (fun b=>?_) (fun a b=>?_)
 refine L0<|Oc<|m1 (pP b d (jn c) (by omega) (by omega)) fun P i=>Pl 5<|ng<|Pl 1<|?_
 refine L0<|bO (ub i h)<|?_
 refine L0<|Oc<|m1 (o8 (aH.old d i) (jn c) (by omega) (by omega) b) fun Q y=>Pl 5<|ng<|Pl 9<|L1<|Oc (args:=#[.slice none 0 0,.slice none 0 0])<|m1 (iA (xs:=([] : List Int)) (ys:=[]) (aL.nil true _ _ _ _) (aL.nil true _ _ _ _)) fun R z=>Pl 2<|nt<|rt<|rr (.bool (decide (([] : List Int)=[])))<|?_
 have hs:(decide (([] : List Int)=[]))=true:=by simp
 rw[hs]
 exact⟨rfl,(aD f (aD i (aD y z)))⟩
 have S:=wG (d.rngs).1 b
 refine L0<|Oc<|e2 (pJ b d (jn c) (by omega) (by omega)) fun T U j k=>?_
 rcases fW.shape j with⟨A,B,rfl⟩
 rcases aL.shape (j).rd with⟨_,_,l,C,D⟩
 injection l with _ _ l
 rw[← l] at C D
 refine Pl 5<|ng<|Pl 1<|?_
 refine L0<|bO (ub k h)<|?_
 refine L0<|Oc<|e2 (nP (aH.old d k) (jn c) (by omega) (by omega) b) fun V W m s=>?_
 rcases fW.shape m with⟨E,F,rfl⟩
 rcases aL.shape (m).rd with⟨_,_,n,G,H⟩
 injection n with _ _ n
 rw[← n] at G H
 refine Pl 5<|ng<|Pl 9<|?_
 refine L1<|Oc (args:=#[.slice (some ⟨A,0,none⟩) a.length B,.slice (some ⟨E,0,none⟩) a.length F])<|m1 (iA (xs:=a) (ys:=a) (b9.upd' (j).rd s aG) (m).rd) fun X I=>Pl 2<|nt<|rt<|rr (.bool (decide (a=a)))<|?_
 have hs:(decide (a=a))=true:=by simp
 rw[hs]
 exact⟨rfl,(aD f (aD k (aD s I)))⟩
open Go.RowKit
section
variable {H:Type}{enc:TypeId × Value→H}{P:Program}{w:World}{base:Nat}{spare:Nat→Bool}{held:Bool}
theorem p4(b off:Nat)(sp:Option Nat)(n:Nat)(h:sp=none) : (⟨b,off,sp⟩ : Addr).add n=⟨b,off+n,none⟩:=iZ b off n sp h
theorem sR{b off:Nat}{sp:Option Nat}{v:Value}(h:w.cell? ⟨b,off,sp⟩=some v) : sp=none:=by
  cases sp with
  | none=>rfl
  | some s =>
    unfold World.cell? at h
    simp at h
    split at h<;>cases h
theorem tZ{α:Type}{Pd:DataW H→Prop}{R:World→α→List Value→Prop}{t e:TypeId}{sz fuel:Nat}{cs:List Value}{x:DataW H × List MemPlace}(ht:P.underlying t=some (.slice e))(hsz:P.cellsOf e=sz)(hp:0<sz)
    (hel:∀ n cs' y,cs'.length=sz→DataW.trod enc P w base spare held n e cs'=some y→Pd y.1→∃ x,R w x cs') (hP:∀ elems spare,x.1 = .slice elems spare→∀ d,d∈elems→Pd d) (h:DataW.trod enc P w base spare held fuel t cs=some x) : ∃ v xs,cs=[v]∧aL false e sz R w v xs:=by
  rcases Go.Deep.open_slice ht h with⟨rfl,_⟩|⟨a,len,cap,m,n,D,Pl,rfl,_,hl,hm,hmm,hxe,hx⟩
  · exact⟨_,[],rfl,aL.nil ..⟩
  have hlm:len≤m:=by rw[hmm];split<;>omega
  have key:∀ i:Fin len,∃ y:α × List Value,w.cells? base (a.add (i*sz)) sz=some y.2∧y.2.length=sz∧R w y.1 y.2:=fun i=>by
    obtain⟨cs',h1,h2⟩:=hx i (by omega)
    rw[hsz] at h1
    obtain⟨_,hlen,_⟩:=World.cells?_some h1
    obtain⟨y,hy⟩:=hel n cs' _ hlen h2 (hP _ _ (by rw[hxe]) _ (List.mem_map.2 ⟨i.1,List.mem_range.2 i.2,rfl⟩))
    exact⟨(y,cs'),h1,hlen,hy⟩
  obtain⟨f,hf⟩:=Classical.axiomOfChoice key
  refine⟨_,List.ofFn fun i=>(f i).1,rfl,some a,cap,by simp,by simpa using hl,hm,(fun h=>by cases h),fun hpos=>?_⟩
  have hpos':0<len:=by simpa using hpos
  obtain⟨b,off,sp⟩:=a
  have hsp:sp=none:=by
    obtain⟨h1,h2,_⟩:=hf ⟨0,hpos'⟩
    obtain⟨_,_,h3⟩:=World.cells?_some h1
    have h4:=h3 0 hp
    rw[List.getElem?_eq_getElem (by omega)] at h4
    cases sp with
    | none=>rfl
    | some s =>
      simp[Addr.add] at h4
      exact sR h4
  subst hsp
  have hc:∀ i:Fin len,∀ k u,(f i).2[k]? = some u→w.cell? ⟨b,off+i*sz+k,none⟩=some u:=fun i k u hu=>by
    obtain⟨h1,h2,_⟩:=hf i
    obtain⟨_,_,h3⟩:=World.cells?_some h1
    have hk:k<sz:=by have:=(List.getElem?_eq_some_iff.1 hu).1;omega
    have h4:=h3 k hk
    rw[p4 _ _ _ _ rfl,p4 _ _ _ _ rfl] at h4
    rw[h4,hu]
  have h0:∃ u,w.cell? ⟨b,off+0*sz+0,none⟩=some u:=by
    obtain⟨_,h2,_⟩:=hf ⟨0,hpos'⟩
    exact⟨_,hc ⟨0,hpos'⟩ 0 _ (List.getElem?_eq_getElem (by omega))⟩
  obtain⟨u,hu⟩:=h0
  unfold World.cell? at hu
  split at hu
  · rename_i cells t' fr hb
    refine⟨b,off,cells,t',fr,rfl,hb,fun h=>(by cases h),fun j y hj=>?_⟩
    have hjl:j<len:=by have:=(List.getElem?_eq_some_iff.1 hj).1;simpa using this
    have hy:(f ⟨j,hjl⟩).1=y:=by
      rw[List.getElem?_ofFn] at hj
      simpa [hjl] using hj
    obtain⟨_,h2,h3⟩:=hf ⟨j,hjl⟩
    refine⟨(f ⟨j,hjl⟩).2,h2,by rw[← hy];exact h3,fun i u hi=>?_⟩
    have:=hc ⟨j,hjl⟩ i u hi
    rw[bt hb] at this
    exact this
  · cases hu
theorem jl{α:Type}{R:World→α→List Value→Prop}{t e:TypeId}{sz fuel:Nat}{cs:List Value}{x:DataW H × List MemPlace}(ht:P.underlying t=some (.slice e))(hsz:P.cellsOf e=sz)(hp:0<sz)
    (hel:∀ n cs' y,cs'.length=sz→DataW.trod enc P w base spare held n e cs'=some y→∃ x,R w x cs') (h:DataW.trod enc P w base spare held fuel t cs=some x) : ∃ v xs,cs=[v]∧aL false e sz R w v xs :=
  tZ (Pd:=fun _=>True) ht hsz hp (fun n cs' y h1 h2 _=>hel n cs' y h1 h2) (fun _ _ _ _ _=>trivial) h
end
section
variable {H:Type}{enc:TypeId × Value→H}{w:World}{base:Nat}{spare:Nat→Bool}{held:Bool}{n:Nat}{y:DataW H × List MemPlace}
theorem qa{n:Int}(h:(Lit.int .u16 n).wf=true) : 0≤n∧n<65536:=by
  have:=bounds_u16 h
  omega
theorem iT{cs:List Value}(h:DataW.trod enc Tryz.prog w base spare held n 5 cs=some y) : ∃ x,s9 w x cs:=by
  obtain⟨k,rfl,_,hw⟩:=DataW.trod_int Tryz.underlying5 h
  exact⟨k,rfl,tE hw⟩
theorem eF{cs:List Value}(h:DataW.trod enc Tryz.prog w base spare held n 24 cs=some y) : ∃ x,t8 w x cs:=by
  obtain⟨k,rfl,_,hw⟩:=DataW.trod_int Tryz.underlying24 h
  exact⟨k,rfl,qa hw⟩
theorem vZ{cs:List Value}(h:DataW.trod enc Tryz.prog w base spare held n 4 cs=some y) : ∃ x,mT w x cs:=by
  obtain⟨k,rfl,_⟩:=DataW.trod_bool Tryz.underlying4 h
  exact⟨k,rfl⟩
theorem xX{cs:List Value}(h:DataW.trod enc Tryz.prog w base spare held n 22 cs=some y) : ∃ v xs,cs=[v]∧b9 false w v xs:=jl Tryz.underlying22 (by kernel_rfl) (by decide) (fun _ _ _ _ h=>iT h) h
theorem uQ{cs:List Value}(h:DataW.trod enc Tryz.prog w base spare held n 25 cs=some y) : ∃ v xs,cs=[v]∧dU false w v xs:=jl Tryz.underlying25 (by kernel_rfl) (by decide) (fun _ _ _ _ h=>eF h) h
theorem wQ{cs:List Value}(h:DataW.trod enc Tryz.prog w base spare held n 26 cs=some y) : ∃ v xs,cs=[v]∧ii false w v xs:=jl Tryz.underlying26 (by kernel_rfl) (by decide) (fun _ _ _ _ h=>vZ h) h
end
open Go.RowKit
theorem eI{cs:List Value}{o:Nat}{v:Value}(h:(cs.drop o).take 1=[v]) : cs.drop o=v :: cs.drop (o+1):=by
  cases hd:cs.drop o with
  | nil=>rw[hd] at h;cases h
  | cons a l =>
    rw[hd] at h
    have h1:a=v:=by simpa using h
    rw[h1,← List.drop_drop,hd]
    rfl
theorem ju{cs:List Value}{n:Nat}(h:cs.length=n) : cs.drop n=[]:=by rw[← h];simp
section
variable {H:Type}{enc:TypeId × Value→H}{w:World}{base:Nat}{spare:Nat→Bool}{held:Bool}{n:Nat}{y:DataW H × List MemPlace}
theorem yA{cs:List Value}(h:DataW.trod enc Tryz.prog w base spare held n 109 cs=some y) : ∃ x,bq false w x cs:=by
  obtain⟨xs,m,rfl,_,hlen,hxs,hf⟩:=DataW.trod_struct Tryz.underlying109 h
  rw[show Tryz.prog.cellsOf 109=4 from by kernel_rfl] at hlen
  replace hxs:xs.length=4:=hxs.trans (by kernel_rfl)
  obtain⟨y0,g0⟩ : ∃ y,xs[0]? = some y:=⟨_,List.getElem?_eq_getElem (show 0<xs.length by omega)⟩
  have f0:DataW.trod enc Tryz.prog w base spare held m 24 ((cs.drop 0).take (Tryz.prog.cellsOf 24))=xs[0]?:=hf 0 _ rfl
  rw[g0] at f0
  rw[show Tryz.prog.cellsOf 24=1 from by kernel_rfl] at f0
  obtain⟨x0,e0,r0⟩:=eF f0
  obtain⟨y1,g1⟩ : ∃ y,xs[1]? = some y:=⟨_,List.getElem?_eq_getElem (show 1<xs.length by omega)⟩
  have f1:DataW.trod enc Tryz.prog w base spare held m 24 ((cs.drop 1).take (Tryz.prog.cellsOf 24))=xs[1]?:=hf 1 _ rfl
  rw[g1] at f1
  rw[show Tryz.prog.cellsOf 24=1 from by kernel_rfl] at f1
  obtain⟨x1,e1,r1⟩:=eF f1
  obtain⟨y2,g2⟩ : ∃ y,xs[2]? = some y:=⟨_,List.getElem?_eq_getElem (show 2<xs.length by omega)⟩
  have f2:DataW.trod enc Tryz.prog w base spare held m 24 ((cs.drop 2).take (Tryz.prog.cellsOf 24))=xs[2]?:=hf 2 _ rfl
  rw[g2] at f2
  rw[show Tryz.prog.cellsOf 24=1 from by kernel_rfl] at f2
  obtain⟨x2,e2,r2⟩:=eF f2
  obtain⟨y3,g3⟩ : ∃ y,xs[3]? = some y:=⟨_,List.getElem?_eq_getElem (show 3<xs.length by omega)⟩
  have f3:DataW.trod enc Tryz.prog w base spare held m 25 ((cs.drop 3).take (Tryz.prog.cellsOf 25))=xs[3]?:=hf 3 _ rfl
  rw[g3] at f3
  rw[show Tryz.prog.cellsOf 25=1 from by kernel_rfl] at f3
  obtain⟨v3,l3,e3,r3⟩:=uQ f3
  have hcs:cs=[.int .u16 x0,.int .u16 x1,.int .u16 x2,v3]:=by
    show cs.drop 0=_
    rw[eI e0,eI e1,eI e2,eI e3,ju hlen]
  subst hcs
  exact⟨⟨x0,x1,x2,l3⟩,_,rfl,r3,r0,r1,r2⟩
theorem yE{cs:List Value}(h:DataW.trod enc Tryz.prog w base spare held n 27 cs=some y) : ∃ v xs,cs=[v]∧ma false w v xs:=jl Tryz.underlying27 (by kernel_rfl) (by decide) (fun _ _ _ _ h=>yA h) h
theorem yC{cs:List Value}(h:DataW.trod enc Tryz.prog w base spare held n 111 cs=some y) : ∃ x,dg false w x cs:=by
  obtain⟨xs,m,rfl,_,hlen,hxs,hf⟩:=DataW.trod_struct Tryz.underlying111 h
  rw[show Tryz.prog.cellsOf 111=2 from by kernel_rfl] at hlen
  replace hxs:xs.length=2:=hxs.trans (by kernel_rfl)
  obtain⟨y0,g0⟩ : ∃ y,xs[0]? = some y:=⟨_,List.getElem?_eq_getElem (show 0<xs.length by omega)⟩
  have f0:DataW.trod enc Tryz.prog w base spare held m 5 ((cs.drop 0).take (Tryz.prog.cellsOf 5))=xs[0]?:=hf 0 _ rfl
  rw[g0] at f0
  rw[show Tryz.prog.cellsOf 5=1 from by kernel_rfl] at f0
  obtain⟨x0,e0,r0⟩:=iT f0
  obtain⟨y1,g1⟩ : ∃ y,xs[1]? = some y:=⟨_,List.getElem?_eq_getElem (show 1<xs.length by omega)⟩
  have f1:DataW.trod enc Tryz.prog w base spare held m 22 ((cs.drop 1).take (Tryz.prog.cellsOf 22))=xs[1]?:=hf 1 _ rfl
  rw[g1] at f1
  rw[show Tryz.prog.cellsOf 22=1 from by kernel_rfl] at f1
  obtain⟨v1,l1,e1,r1⟩:=xX f1
  have hcs:cs=[.int .u8 x0,v1]:=by
    show cs.drop 0=_
    rw[eI e0,eI e1,ju hlen]
  subst hcs
  exact⟨⟨x0,l1⟩,_,rfl,r1,r0⟩
theorem zt{cs:List Value}(h:DataW.trod enc Tryz.prog w base spare held n 28 cs=some y) : ∃ v xs,cs=[v]∧nv false w v xs:=jl Tryz.underlying28 (by kernel_rfl) (by decide) (fun _ _ _ _ h=>yC h) h
theorem uu{cs:List Value}(h:DataW.trod enc Tryz.prog w base spare held n 30 cs=some y) : ∃ M,aH false w cs M:=by
  obtain⟨xs,m,rfl,_,hlen,hxs,hf⟩:=DataW.trod_struct Tryz.underlying30 h
  rw[show Tryz.prog.cellsOf 30=22 from by kernel_rfl] at hlen
  replace hxs:xs.length=22:=hxs.trans (by kernel_rfl)
  obtain⟨y0,g0⟩ : ∃ y,xs[0]? = some y:=⟨_,List.getElem?_eq_getElem (show 0<xs.length by omega)⟩
  have f0:DataW.trod enc Tryz.prog w base spare held m 5 ((cs.drop 0).take (Tryz.prog.cellsOf 5))=xs[0]?:=hf 0 _ rfl
  rw[g0] at f0
  rw[show Tryz.prog.cellsOf 5=1 from by kernel_rfl] at f0
  obtain⟨x0,e0,r0⟩:=iT f0
  obtain⟨y1,g1⟩ : ∃ y,xs[1]? = some y:=⟨_,List.getElem?_eq_getElem (show 1<xs.length by omega)⟩
  have f1:DataW.trod enc Tryz.prog w base spare held m 5 ((cs.drop 1).take (Tryz.prog.cellsOf 5))=xs[1]?:=hf 1 _ rfl
  rw[g1] at f1
  rw[show Tryz.prog.cellsOf 5=1 from by kernel_rfl] at f1
  obtain⟨x1,e1,r1⟩:=iT f1
  obtain⟨y2,g2⟩ : ∃ y,xs[2]? = some y:=⟨_,List.getElem?_eq_getElem (show 2<xs.length by omega)⟩
  have f2:DataW.trod enc Tryz.prog w base spare held m 24 ((cs.drop 2).take (Tryz.prog.cellsOf 24))=xs[2]?:=hf 2 _ rfl
  rw[g2] at f2
  rw[show Tryz.prog.cellsOf 24=1 from by kernel_rfl] at f2
  obtain⟨x2,e2,r2⟩:=eF f2
  obtain⟨y3,g3⟩ : ∃ y,xs[3]? = some y:=⟨_,List.getElem?_eq_getElem (show 3<xs.length by omega)⟩
  have f3:DataW.trod enc Tryz.prog w base spare held m 24 ((cs.drop 3).take (Tryz.prog.cellsOf 24))=xs[3]?:=hf 3 _ rfl
  rw[g3] at f3
  rw[show Tryz.prog.cellsOf 24=1 from by kernel_rfl] at f3
  obtain⟨x3,e3,r3⟩:=eF f3
  obtain⟨y4,g4⟩ : ∃ y,xs[4]? = some y:=⟨_,List.getElem?_eq_getElem (show 4<xs.length by omega)⟩
  have f4:DataW.trod enc Tryz.prog w base spare held m 24 ((cs.drop 4).take (Tryz.prog.cellsOf 24))=xs[4]?:=hf 4 _ rfl
  rw[g4] at f4
  rw[show Tryz.prog.cellsOf 24=1 from by kernel_rfl] at f4
  obtain⟨x4,e4,r4⟩:=eF f4
  obtain⟨y5,g5⟩ : ∃ y,xs[5]? = some y:=⟨_,List.getElem?_eq_getElem (show 5<xs.length by omega)⟩
  have f5:DataW.trod enc Tryz.prog w base spare held m 24 ((cs.drop 5).take (Tryz.prog.cellsOf 24))=xs[5]?:=hf 5 _ rfl
  rw[g5] at f5
  rw[show Tryz.prog.cellsOf 24=1 from by kernel_rfl] at f5
  obtain⟨x5,e5,r5⟩:=eF f5
  obtain⟨y6,g6⟩ : ∃ y,xs[6]? = some y:=⟨_,List.getElem?_eq_getElem (show 6<xs.length by omega)⟩
  have f6:DataW.trod enc Tryz.prog w base spare held m 24 ((cs.drop 6).take (Tryz.prog.cellsOf 24))=xs[6]?:=hf 6 _ rfl
  rw[g6] at f6
  rw[show Tryz.prog.cellsOf 24=1 from by kernel_rfl] at f6
  obtain⟨x6,e6,r6⟩:=eF f6
  obtain⟨y7,g7⟩ : ∃ y,xs[7]? = some y:=⟨_,List.getElem?_eq_getElem (show 7<xs.length by omega)⟩
  have f7:DataW.trod enc Tryz.prog w base spare held m 24 ((cs.drop 7).take (Tryz.prog.cellsOf 24))=xs[7]?:=hf 7 _ rfl
  rw[g7] at f7
  rw[show Tryz.prog.cellsOf 24=1 from by kernel_rfl] at f7
  obtain⟨x7,e7,r7⟩:=eF f7
  obtain⟨y8,g8⟩ : ∃ y,xs[8]? = some y:=⟨_,List.getElem?_eq_getElem (show 8<xs.length by omega)⟩
  have f8:DataW.trod enc Tryz.prog w base spare held m 24 ((cs.drop 8).take (Tryz.prog.cellsOf 24))=xs[8]?:=hf 8 _ rfl
  rw[g8] at f8
  rw[show Tryz.prog.cellsOf 24=1 from by kernel_rfl] at f8
  obtain⟨x8,e8,r8⟩:=eF f8
  obtain⟨y9,g9⟩ : ∃ y,xs[9]? = some y:=⟨_,List.getElem?_eq_getElem (show 9<xs.length by omega)⟩
  have f9:DataW.trod enc Tryz.prog w base spare held m 24 ((cs.drop 9).take (Tryz.prog.cellsOf 24))=xs[9]?:=hf 9 _ rfl
  rw[g9] at f9
  rw[show Tryz.prog.cellsOf 24=1 from by kernel_rfl] at f9
  obtain⟨x9,e9,r9⟩:=eF f9
  obtain⟨ac,u⟩ : ∃ y,xs[10]? = some y:=⟨_,List.getElem?_eq_getElem (show 10<xs.length by omega)⟩
  have a:DataW.trod enc Tryz.prog w base spare held m 24 ((cs.drop 10).take (Tryz.prog.cellsOf 24))=xs[10]?:=hf 10 _ rfl
  rw[u] at a
  rw[show Tryz.prog.cellsOf 24=1 from by kernel_rfl] at a
  obtain⟨x10,v,x⟩:=eF a
  obtain⟨ad,z⟩ : ∃ y,xs[11]? = some y:=⟨_,List.getElem?_eq_getElem (show 11<xs.length by omega)⟩
  have b:DataW.trod enc Tryz.prog w base spare held m 24 ((cs.drop 11).take (Tryz.prog.cellsOf 24))=xs[11]?:=hf 11 _ rfl
  rw[z] at b
  rw[show Tryz.prog.cellsOf 24=1 from by kernel_rfl] at b
  obtain⟨x11,A,B⟩:=eF b
  obtain⟨ae,C⟩ : ∃ y,xs[12]? = some y:=⟨_,List.getElem?_eq_getElem (show 12<xs.length by omega)⟩
  have c:DataW.trod enc Tryz.prog w base spare held m 25 ((cs.drop 12).take (Tryz.prog.cellsOf 25))=xs[12]?:=hf 12 _ rfl
  rw[C] at c
  rw[show Tryz.prog.cellsOf 25=1 from by kernel_rfl] at c
  obtain⟨p,D,E,F⟩:=uQ c
  obtain⟨af,G⟩ : ∃ y,xs[13]? = some y:=⟨_,List.getElem?_eq_getElem (show 13<xs.length by omega)⟩
  have d:DataW.trod enc Tryz.prog w base spare held m 26 ((cs.drop 13).take (Tryz.prog.cellsOf 26))=xs[13]?:=hf 13 _ rfl
  rw[G] at d
  rw[show Tryz.prog.cellsOf 26=1 from by kernel_rfl] at d
  obtain⟨q,H,I,J⟩:=wQ d
  obtain⟨ag,K⟩ : ∃ y,xs[14]? = some y:=⟨_,List.getElem?_eq_getElem (show 14<xs.length by omega)⟩
  have e:DataW.trod enc Tryz.prog w base spare held m 22 ((cs.drop 14).take (Tryz.prog.cellsOf 22))=xs[14]?:=hf 14 _ rfl
  rw[K] at e
  rw[show Tryz.prog.cellsOf 22=1 from by kernel_rfl] at e
  obtain⟨r,L,N,O⟩:=xX e
  obtain⟨ah,P⟩ : ∃ y,xs[15]? = some y:=⟨_,List.getElem?_eq_getElem (show 15<xs.length by omega)⟩
  have f:DataW.trod enc Tryz.prog w base spare held m 27 ((cs.drop 15).take (Tryz.prog.cellsOf 27))=xs[15]?:=hf 15 _ rfl
  rw[P] at f
  rw[show Tryz.prog.cellsOf 27=1 from by kernel_rfl] at f
  obtain⟨s,Q,R,S⟩:=yE f
  obtain⟨ai,T⟩ : ∃ y,xs[16]? = some y:=⟨_,List.getElem?_eq_getElem (show 16<xs.length by omega)⟩
  have g:DataW.trod enc Tryz.prog w base spare held m 5 ((cs.drop 16).take (Tryz.prog.cellsOf 5))=xs[16]?:=hf 16 _ rfl
  rw[T] at g
  rw[show Tryz.prog.cellsOf 5=1 from by kernel_rfl] at g
  obtain⟨x16,U,V⟩:=iT g
  obtain⟨aj,W⟩ : ∃ y,xs[17]? = some y:=⟨_,List.getElem?_eq_getElem (show 17<xs.length by omega)⟩
  have i:DataW.trod enc Tryz.prog w base spare held m 5 ((cs.drop 17).take (Tryz.prog.cellsOf 5))=xs[17]?:=hf 17 _ rfl
  rw[W] at i
  rw[show Tryz.prog.cellsOf 5=1 from by kernel_rfl] at i
  obtain⟨x17,X,Y⟩:=iT i
  obtain⟨ak,Z⟩ : ∃ y,xs[18]? = some y:=⟨_,List.getElem?_eq_getElem (show 18<xs.length by omega)⟩
  have j:DataW.trod enc Tryz.prog w base spare held m 5 ((cs.drop 18).take (Tryz.prog.cellsOf 5))=xs[18]?:=hf 18 _ rfl
  rw[Z] at j
  rw[show Tryz.prog.cellsOf 5=1 from by kernel_rfl] at j
  obtain⟨x18,a0,a1⟩:=iT j
  obtain⟨al,a2⟩ : ∃ y,xs[19]? = some y:=⟨_,List.getElem?_eq_getElem (show 19<xs.length by omega)⟩
  have k:DataW.trod enc Tryz.prog w base spare held m 5 ((cs.drop 19).take (Tryz.prog.cellsOf 5))=xs[19]?:=hf 19 _ rfl
  rw[a2] at k
  rw[show Tryz.prog.cellsOf 5=1 from by kernel_rfl] at k
  obtain⟨x19,a3,a4⟩:=iT k
  obtain⟨am,a5⟩ : ∃ y,xs[20]? = some y:=⟨_,List.getElem?_eq_getElem (show 20<xs.length by omega)⟩
  have l:DataW.trod enc Tryz.prog w base spare held m 5 ((cs.drop 20).take (Tryz.prog.cellsOf 5))=xs[20]?:=hf 20 _ rfl
  rw[a5] at l
  rw[show Tryz.prog.cellsOf 5=1 from by kernel_rfl] at l
  obtain⟨x20,a6,a7⟩:=iT l
  obtain⟨an,a8⟩ : ∃ y,xs[21]? = some y:=⟨_,List.getElem?_eq_getElem (show 21<xs.length by omega)⟩
  have o:DataW.trod enc Tryz.prog w base spare held m 28 ((cs.drop 21).take (Tryz.prog.cellsOf 28))=xs[21]?:=hf 21 _ rfl
  rw[a8] at o
  rw[show Tryz.prog.cellsOf 28=1 from by kernel_rfl] at o
  obtain⟨t,a9,aa,ab⟩:=zt o
  have hcs:cs=[.int .u8 x0,.int .u8 x1,.int .u16 x2,.int .u16 x3,.int .u16 x4,.int .u16 x5,.int .u16 x6,.int .u16 x7,.int .u16 x8,.int .u16 x9,.int .u16 x10,.int .u16 x11,p,q,r,s,.int .u8 x16,.int .u8 x17,.int .u8 x18,.int .u8 x19,.int .u8 x20,t]:=by
    show cs.drop 0=_
    rw[eI e0,eI e1,eI e2,eI e3,eI e4,eI e5,eI e6,eI e7,eI e8,eI e9,eI v,eI A,eI E,eI I,eI N,eI R,eI U,eI X,eI a0,eI a3,eI a6,eI aa,ju hlen]
  subst hcs
  exact⟨⟨x0,x1,x2,x3,x4,x5,x6,x7,x8,x9,x10,x11,D,H,L,Q,x16,x17,x18,x19,x20,a9⟩,p,q,r,s,t,rfl,F,J,O,S,ab,⟨r0,r1,r2,r3,r4,r5,r6,r7,r8,r9,x,B,V,Y,a1,a4,a7⟩⟩
end
open Go.RowKit
section
variable {H:Type}{enc:TypeId × Value→H}{w:World}{base:Nat}{spare:Nat→Bool}{held:Bool}{n:Nat}{y:DataW H × List MemPlace}
theorem sb{cs:List Value}(h:DataW.trod enc Tryz.prog w base spare held n 42 cs=some y) : ∃ u t,cs=[.int .u8 u,.int .u16 t]∧(0≤u∧u<256)∧(0≤t∧t<65536):=by
  obtain⟨xs,m,rfl,_,hlen,hxs,hf⟩:=DataW.trod_struct Tryz.underlying42 h
  rw[show Tryz.prog.cellsOf 42=2 from by kernel_rfl] at hlen
  replace hxs:xs.length=2:=hxs.trans (by kernel_rfl)
  obtain⟨y0,g0⟩ : ∃ y,xs[0]? = some y:=⟨_,List.getElem?_eq_getElem (show 0<xs.length by omega)⟩
  have f0:DataW.trod enc Tryz.prog w base spare held m 5 ((cs.drop 0).take (Tryz.prog.cellsOf 5))=xs[0]?:=hf 0 _ rfl
  rw[g0] at f0
  rw[show Tryz.prog.cellsOf 5=1 from by kernel_rfl] at f0
  obtain⟨x0,e0,r0⟩:=iT f0
  obtain⟨y1,g1⟩ : ∃ y,xs[1]? = some y:=⟨_,List.getElem?_eq_getElem (show 1<xs.length by omega)⟩
  have f1:DataW.trod enc Tryz.prog w base spare held m 24 ((cs.drop 1).take (Tryz.prog.cellsOf 24))=xs[1]?:=hf 1 _ rfl
  rw[g1] at f1
  rw[show Tryz.prog.cellsOf 24=1 from by kernel_rfl] at f1
  obtain⟨x1,e1,r1⟩:=eF f1
  have hcs:cs=[.int .u8 x0,.int .u16 x1]:=by
    show cs.drop 0=_
    rw[eI e0,eI e1,ju hlen]
  exact⟨x0,x1,hcs,r0,r1⟩
theorem vT{cs:List Value}(h:DataW.trod enc Tryz.prog w base spare held n 44 cs=some y) : ∃ u t M c,cs=[.int .u8 u,.int .u16 t]++c∧aH false w c M∧(0≤u∧u<256)∧(0≤t∧t<65536):=by
  obtain⟨xs,m,rfl,_,hlen,hxs,hf⟩:=DataW.trod_struct Tryz.underlying44 h
  rw[show Tryz.prog.cellsOf 44=24 from by kernel_rfl] at hlen
  replace hxs:xs.length=2:=hxs.trans (by kernel_rfl)
  obtain⟨y0,g0⟩ : ∃ y,xs[0]? = some y:=⟨_,List.getElem?_eq_getElem (show 0<xs.length by omega)⟩
  have f0:DataW.trod enc Tryz.prog w base spare held m 42 ((cs.drop 0).take (Tryz.prog.cellsOf 42))=xs[0]?:=hf 0 _ rfl
  rw[g0] at f0
  rw[show Tryz.prog.cellsOf 42=2 from by kernel_rfl] at f0
  obtain⟨u,t,e0,hu,ht⟩:=sb f0
  obtain⟨y1,g1⟩ : ∃ y,xs[1]? = some y:=⟨_,List.getElem?_eq_getElem (show 1<xs.length by omega)⟩
  have f1:DataW.trod enc Tryz.prog w base spare held m 30 ((cs.drop 2).take (Tryz.prog.cellsOf 30))=xs[1]?:=hf 1 _ rfl
  rw[g1] at f1
  rw[show Tryz.prog.cellsOf 30=22 from by kernel_rfl] at f1
  obtain⟨M,hM⟩:=uu f1
  refine⟨u,t,M,(cs.drop 2).take 22,?_,hM,hu,ht⟩
  rw[← e0,List.take_of_length_le (show(cs.drop 2).length≤22 by rw[List.length_drop];omega)]
  exact(List.take_append_drop 2 cs).symm
open Go.WideShapes in
theorem xL{v:Value}{d:DataW H}{p:List MemPlace}(hv:∃ b0,Value.okWide Tryz.prog w .any b0 44 v)(h:DataW.Trod enc Tryz.prog w base spare held 44 v d p) : ∃ u t M x,v = .agg (rJ u t M x)∧aH false w (pA M x).toList M∧(0≤u∧u<256)∧(0≤t∧t<65536):=by
  obtain⟨b0,hv⟩:=hv
  obtain⟨cs,rfl,hsz⟩:=okWide_struct Tryz.underlying44 hv
  obtain⟨fuel,hf⟩:=h
  obtain⟨u,t,M,c,e0,hM,hu,ht⟩:=vT hf
  obtain⟨x,hx⟩:=ot (cs:=c.toArray) (by simpa using hM)
  refine⟨u,t,M,x,?_,?_,hu,ht⟩
  · rw[l7,← hx]
    congr 1
    apply Array.toList_inj.1
    rw[show cs.toList=_ from e0]
    simp
  · rw[← hx]
    simpa using hM
end
end Go.Proofs.YtogbnemojakcpaaGreat
