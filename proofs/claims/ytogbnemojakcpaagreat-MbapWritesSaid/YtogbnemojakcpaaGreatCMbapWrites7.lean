/- Contracts of functions, part CMbapWrites7. -/
import Derived.Test.YtogbnemojakcpaaGreatCMbapWrites1
import Derived.Test.YtogbnemojakcpaaGreatCMbapWrites2
import Derived.Test.YtogbnemojakcpaaGreatCMbapWrites3
import Derived.Test.YtogbnemojakcpaaGreatCMbapWrites4
import Derived.Test.YtogbnemojakcpaaGreatCMbapWrites5
import Derived.Test.YtogbnemojakcpaaGreatCMbapWrites6
import Derived.Deep.Slices
import Derived.ChangeArms
import Derived.WideShapes
set_option linter.unusedVariables false
set_option linter.unusedSimpArgs false
set_option maxRecDepth 100000
set_option maxHeartbeats 4000000
namespace Go.Proofs.YtogbnemojakcpaaGreat
open Go.RowKit
theorem ii{parse:Int→Int→List Int→aQ × Int}{lay:Int→aQ→List Int}{dir E:Int}{M X:aQ}(hX:parse dir M.code (lay dir M)=(X,E))(hE:((E != 0)||(!(decide (X=M))))=true) : bo parse lay dir M=none:=by
  unfold bo
  rw[hX,if_neg]
  intro h
  injection h with h1 h2
  rw[h1,h2] at hE
  simp at hE
theorem jZ(dir c:Int) : ∀ (L:List dr),(∀ r,r∈L→r.words.length≤1024)→(dn dir c L).length≤2064*L.length
  | [],_=>by simp[dn]
  | r :: L,h=>by
    have h1:=h r (by simp)
    have h2:=jZ dir c L fun x hx=>h x (by simp[hx])
    simp only[dn,kF]
    repeat' split
    all_goals simp only[List.length_append,List.length_cons,List.length_nil,ay]
    all_goals omega
theorem gy{M:aQ}(hf:bM M)(dir:Int) : (dg dir M).length≤1048000∧(cc dir M).length≤1048000∧(dQ dir M).length≤1048000∧(fe dir M).length≤1048000∧(ej dir M).length≤1048000:=by
  have hp:(bR M.bits).length≤1024:=by
    have:=hf.bits
    simp only[bR,List.length_map,List.length_range,dN]
    omega
  have h1:=hf.words
  have h2:=hf.data
  have h3:=hf.objects
  have h4:=l8 M.objects hf.objv
  have h5:=jZ dir M.code M.recs hf.recw
  have h6:=hf.recs
  refine⟨?_,?_,?_,?_,?_⟩
  · unfold dg
    repeat' split
    all_goals simp only[List.length_append,List.length_cons,List.length_nil,ay]
    all_goals omega
  · unfold cc
    repeat' split
    all_goals simp only[List.length_append,List.length_cons,List.length_nil,ay]
    all_goals omega
  · unfold dQ
    repeat' split
    all_goals simp only[List.length_append,List.length_cons,List.length_nil,ay]
    all_goals omega
  · unfold fe
    repeat' split
    all_goals simp only[List.length_append,List.length_cons,List.length_nil]
    all_goals omega
  · unfold ej
    simp only[List.length_append,List.length_cons,List.length_nil]
    omega
theorem j7{m:Md}{cs:Array Value}{M:aQ}{w:World}{dir:Int}(h:aN m w cs.toList M)(hf:bM M) : Calls Tryz.prog 102 #[.int .i64 dir,.agg cs] w (dG (bo (ag aC) dg dir M) w):=by
 have hM:=h
 have hlen:=(gy hf dir).1
 obtain⟨vw,vb,vd,vr,vo,h0,hw,hbt,hd,hr,ho,hR⟩:=h
 obtain rfl:cs=(bu M vw vb vd vr vo).toArray:=by apply Array.toList_inj.1;simpa using h0
 clear h0
 obtain⟨Aw,kw,rfl,_,_⟩:=hw.shape
 obtain⟨Ab,kb,rfl,_,_⟩:=hbt.shape
 obtain⟨Ad,kd,rfl,_,_⟩:=hd.shape
 obtain⟨Ar,kr,rfl,_,_⟩:=hr.shape
 obtain⟨Ao,ko,rfl,_,_⟩:=ho.shape
 obtain⟨q0,q1,q2,q3,q4,q5,q6,q7,q8,q9,E,F,G,H,I,J,L⟩:=hR
 simp only[B8,dB] at q0 q1 q2 q3 q4 q5 q6 q7 q8 q9 E F G H I J L
 refine en 31 Tryz.func102 rfl<|sg<|L0<|dv (mG M.code M.fail M.addr M.count M.value M.and_ M.or_ M.addr2 M.sub M.status M.events M.messages (.slice Aw M.words.length kw) (.slice Ab M.bits.length kb) (.slice Ad M.data.length kd) (.slice Ar M.recs.length kr) M.mei M.kind M.level M.more M.next (.slice Ao M.objects.length ko)) fun Z a0 a1 k f=>Pl 2<|ng<|Pl 1<|L0<|bS k<|?_
 have l:=aN.old hM f
 refine L0<|Oc<|di (pO (dir:=dir) l hf) fun N O P n a2 a3 o=>Pl 1<|ng<|Pl 2<|?_
 have p:=ub o k
 refine L0<|aP p 0<|Pl 1<|?_
 refine pr (ag aC dir M.code (dg dir M)) fun a g i=>?_
 have q:Calls _ _ _ _ (cM _ _ (ag aC dir M.code (dg dir M)) P):=jb (dir:=dir) (c:=M.code) q0 (n).rd (by omega)
 rw[i] at q
 refine L0<|Oc<|e2 (q) fun Q a4 R r=>?_
 have s:=aq n r (fun x hx=>aA) (fun _ _ h=>h)
 have b:=cV.rdt R (s).rd
 refine Pl 3<|L0<|bO mZ fun a5 a6 S T U=>L0<|be (hz:=(by rw[b.size];exact aO)) (hv:=b.size) (h1:=b.one) T (Q) fun a7 V W=>Pl 1<|ng<|L0<|bS (hz:=(by rw[b.size];exact aO)) V<|?_
 have j:=ud U W S
 have t:=aG r j
 refine L0<|bS (ub t p)<|?_
 have u:=aG o t
 refine L0<|Oc<|m1 (dw (A:=a) (B:=M) (aN.upd b j aK) (aN.old l u)) fun a8 v=>Pl 1<|nt<|sq<|sg<|Pl 3<|cu 3 [26] 29 (((g != 0)||(!(decide (a=M))))) (fun K y=>?_) ?_
 refine bl 26 ((g != 0)) (fun d=>?_) (fun d=>?_)
 have X:=az d
 exact Pl 3<|ce y true (by rw[d];rfl)
 have X:=ai d
 exact Pl 3<|ce y (!(decide (a=M))) (by rw[d];rfl)
 refine nt<|?_
 have z:=aG f (aG u v)
 refine cb (((g != 0)||(!(decide (a=M))))) (fun e=>?_) (fun e=>?_)
 refine sg<|Pl 2<|nt<|rt<|tr<|rr (.tuple #[.slice none 0 0,.int .i64 1])<|?_
 refine cQ (ii i e) ?_
 exact⟨rfl,z⟩
 have C:=(aH e).1
 have Y:=(aH e).2
 have a9:=ai C
 have D:(decide (a=M))=true:=by simpa using Y
 have q56bnp:=of_decide_eq_true D
 refine bp<|sg<|Pl 3<|nt<|rt<|rr (.tuple #[.slice N ((dg dir M).length) O,.int .i64 0])<|?_
 refine cQ (i1 i C D) ?_
 exact⟨_,rfl,(aW.weaken (aq s (aG j v) (fun x hx=>aA) (fun _ _ h=>h)) f.size),z⟩
theorem jJ{m:Md}{cs:Array Value}{M:aQ}{w:World}{dir:Int}(h:aN m w cs.toList M)(hf:bM M) : Calls Tryz.prog 103 #[.int .i64 dir,.agg cs] w (dG (bo (ag aI) cc dir M) w):=by
 have hM:=h
 have hlen:=(gy hf dir).2.1
 obtain⟨vw,vb,vd,vr,vo,h0,hw,hbt,hd,hr,ho,hR⟩:=h
 obtain rfl:cs=(bu M vw vb vd vr vo).toArray:=by apply Array.toList_inj.1;simpa using h0
 clear h0
 obtain⟨Aw,kw,rfl,_,_⟩:=hw.shape
 obtain⟨Ab,kb,rfl,_,_⟩:=hbt.shape
 obtain⟨Ad,kd,rfl,_,_⟩:=hd.shape
 obtain⟨Ar,kr,rfl,_,_⟩:=hr.shape
 obtain⟨Ao,ko,rfl,_,_⟩:=ho.shape
 obtain⟨q0,q1,q2,q3,q4,q5,q6,q7,q8,q9,E,F,G,H,I,J,L⟩:=hR
 simp only[B8,dB] at q0 q1 q2 q3 q4 q5 q6 q7 q8 q9 E F G H I J L
 refine en 31 Tryz.func103 rfl<|sg<|L0<|dv (mG M.code M.fail M.addr M.count M.value M.and_ M.or_ M.addr2 M.sub M.status M.events M.messages (.slice Aw M.words.length kw) (.slice Ab M.bits.length kb) (.slice Ad M.data.length kd) (.slice Ar M.recs.length kr) M.mei M.kind M.level M.more M.next (.slice Ao M.objects.length ko)) fun Z a0 a1 k f=>Pl 2<|ng<|Pl 1<|L0<|bS k<|?_
 have l:=aN.old hM f
 refine L0<|Oc<|di (qD (dir:=dir) l hf) fun N O P n a2 a3 o=>Pl 1<|ng<|Pl 2<|?_
 have p:=ub o k
 refine L0<|aP p 0<|Pl 1<|?_
 refine pr (ag aI dir M.code (cc dir M)) fun a g i=>?_
 have q:Calls _ _ _ _ (cM _ _ (ag aI dir M.code (cc dir M)) P):=jS (dir:=dir) (c:=M.code) q0 (n).rd (by omega)
 rw[i] at q
 refine L0<|Oc<|e2 (q) fun Q a4 R r=>?_
 have s:=aq n r (fun x hx=>aA) (fun _ _ h=>h)
 have b:=cV.rdt R (s).rd
 refine Pl 3<|L0<|bO mZ fun a5 a6 S T U=>L0<|be (hz:=(by rw[b.size];exact aO)) (hv:=b.size) (h1:=b.one) T (Q) fun a7 V W=>Pl 1<|ng<|L0<|bS (hz:=(by rw[b.size];exact aO)) V<|?_
 have j:=ud U W S
 have t:=aG r j
 refine L0<|bS (ub t p)<|?_
 have u:=aG o t
 refine L0<|Oc<|m1 (dw (A:=a) (B:=M) (aN.upd b j aK) (aN.old l u)) fun a8 v=>Pl 1<|nt<|sq<|sg<|Pl 3<|cu 3 [26] 29 (((g != 0)||(!(decide (a=M))))) (fun K y=>?_) ?_
 refine bl 26 ((g != 0)) (fun d=>?_) (fun d=>?_)
 have X:=az d
 exact Pl 3<|ce y true (by rw[d];rfl)
 have X:=ai d
 exact Pl 3<|ce y (!(decide (a=M))) (by rw[d];rfl)
 refine nt<|?_
 have z:=aG f (aG u v)
 refine cb (((g != 0)||(!(decide (a=M))))) (fun e=>?_) (fun e=>?_)
 refine sg<|Pl 2<|nt<|rt<|tr<|rr (.tuple #[.slice none 0 0,.int .i64 1])<|?_
 refine cQ (ii i e) ?_
 exact⟨rfl,z⟩
 have C:=(aH e).1
 have Y:=(aH e).2
 have a9:=ai C
 have D:(decide (a=M))=true:=by simpa using Y
 have q56bnp:=of_decide_eq_true D
 refine bp<|sg<|Pl 3<|nt<|rt<|rr (.tuple #[.slice N ((cc dir M).length) O,.int .i64 0])<|?_
 refine cQ (i1 i C D) ?_
 exact⟨_,rfl,(aW.weaken (aq s (aG j v) (fun x hx=>aA) (fun _ _ h=>h)) f.size),z⟩
theorem jM{m:Md}{cs:Array Value}{M:aQ}{w:World}{dir:Int}(h:aN m w cs.toList M)(hf:bM M) : Calls Tryz.prog 104 #[.int .i64 dir,.agg cs] w (dG (bo (ag aR) dQ dir M) w):=by
 have hM:=h
 have hlen:=(gy hf dir).2.2.1
 obtain⟨vw,vb,vd,vr,vo,h0,hw,hbt,hd,hr,ho,hR⟩:=h
 obtain rfl:cs=(bu M vw vb vd vr vo).toArray:=by apply Array.toList_inj.1;simpa using h0
 clear h0
 obtain⟨Aw,kw,rfl,_,_⟩:=hw.shape
 obtain⟨Ab,kb,rfl,_,_⟩:=hbt.shape
 obtain⟨Ad,kd,rfl,_,_⟩:=hd.shape
 obtain⟨Ar,kr,rfl,_,_⟩:=hr.shape
 obtain⟨Ao,ko,rfl,_,_⟩:=ho.shape
 obtain⟨q0,q1,q2,q3,q4,q5,q6,q7,q8,q9,E,F,G,H,I,J,L⟩:=hR
 simp only[B8,dB] at q0 q1 q2 q3 q4 q5 q6 q7 q8 q9 E F G H I J L
 refine en 31 Tryz.func104 rfl<|sg<|L0<|dv (mG M.code M.fail M.addr M.count M.value M.and_ M.or_ M.addr2 M.sub M.status M.events M.messages (.slice Aw M.words.length kw) (.slice Ab M.bits.length kb) (.slice Ad M.data.length kd) (.slice Ar M.recs.length kr) M.mei M.kind M.level M.more M.next (.slice Ao M.objects.length ko)) fun Z a0 a1 k f=>Pl 2<|ng<|Pl 1<|L0<|bS k<|?_
 have l:=aN.old hM f
 refine L0<|Oc<|di (rY (dir:=dir) l hf) fun N O P n a2 a3 o=>Pl 1<|ng<|Pl 2<|?_
 have p:=ub o k
 refine L0<|aP p 0<|Pl 1<|?_
 refine pr (ag aR dir M.code (dQ dir M)) fun a g i=>?_
 have q:Calls _ _ _ _ (cM _ _ (ag aR dir M.code (dQ dir M)) P):=jG (dir:=dir) (c:=M.code) q0 (n).rd (by omega)
 rw[i] at q
 refine L0<|Oc<|e2 (q) fun Q a4 R r=>?_
 have s:=aq n r (fun x hx=>aA) (fun _ _ h=>h)
 have b:=cV.rdt R (s).rd
 refine Pl 3<|L0<|bO mZ fun a5 a6 S T U=>L0<|be (hz:=(by rw[b.size];exact aO)) (hv:=b.size) (h1:=b.one) T (Q) fun a7 V W=>Pl 1<|ng<|L0<|bS (hz:=(by rw[b.size];exact aO)) V<|?_
 have j:=ud U W S
 have t:=aG r j
 refine L0<|bS (ub t p)<|?_
 have u:=aG o t
 refine L0<|Oc<|m1 (dw (A:=a) (B:=M) (aN.upd b j aK) (aN.old l u)) fun a8 v=>Pl 1<|nt<|sq<|sg<|Pl 3<|cu 3 [26] 29 (((g != 0)||(!(decide (a=M))))) (fun K y=>?_) ?_
 refine bl 26 ((g != 0)) (fun d=>?_) (fun d=>?_)
 have X:=az d
 exact Pl 3<|ce y true (by rw[d];rfl)
 have X:=ai d
 exact Pl 3<|ce y (!(decide (a=M))) (by rw[d];rfl)
 refine nt<|?_
 have z:=aG f (aG u v)
 refine cb (((g != 0)||(!(decide (a=M))))) (fun e=>?_) (fun e=>?_)
 refine sg<|Pl 2<|nt<|rt<|tr<|rr (.tuple #[.slice none 0 0,.int .i64 1])<|?_
 refine cQ (ii i e) ?_
 exact⟨rfl,z⟩
 have C:=(aH e).1
 have Y:=(aH e).2
 have a9:=ai C
 have D:(decide (a=M))=true:=by simpa using Y
 have q56bnp:=of_decide_eq_true D
 refine bp<|sg<|Pl 3<|nt<|rt<|rr (.tuple #[.slice N ((dQ dir M).length) O,.int .i64 0])<|?_
 refine cQ (i1 i C D) ?_
 exact⟨_,rfl,(aW.weaken (aq s (aG j v) (fun x hx=>aA) (fun _ _ h=>h)) f.size),z⟩
theorem iQ{m:Md}{cs:Array Value}{M:aQ}{w:World}{dir:Int}(h:aN m w cs.toList M)(hf:bM M) : Calls Tryz.prog 105 #[.int .i64 dir,.agg cs] w (dG (bo (ag aX) ej dir M) w):=by
 have hM:=h
 have hlen:=(gy hf dir).2.2.2.2
 obtain⟨vw,vb,vd,vr,vo,h0,hw,hbt,hd,hr,ho,hR⟩:=h
 obtain rfl:cs=(bu M vw vb vd vr vo).toArray:=by apply Array.toList_inj.1;simpa using h0
 clear h0
 obtain⟨Aw,kw,rfl,_,_⟩:=hw.shape
 obtain⟨Ab,kb,rfl,_,_⟩:=hbt.shape
 obtain⟨Ad,kd,rfl,_,_⟩:=hd.shape
 obtain⟨Ar,kr,rfl,_,_⟩:=hr.shape
 obtain⟨Ao,ko,rfl,_,_⟩:=ho.shape
 obtain⟨q0,q1,q2,q3,q4,q5,q6,q7,q8,q9,E,F,G,H,I,J,L⟩:=hR
 simp only[B8,dB] at q0 q1 q2 q3 q4 q5 q6 q7 q8 q9 E F G H I J L
 refine en 31 Tryz.func105 rfl<|sg<|L0<|dv (mG M.code M.fail M.addr M.count M.value M.and_ M.or_ M.addr2 M.sub M.status M.events M.messages (.slice Aw M.words.length kw) (.slice Ab M.bits.length kb) (.slice Ad M.data.length kd) (.slice Ar M.recs.length kr) M.mei M.kind M.level M.more M.next (.slice Ao M.objects.length ko)) fun Z a0 a1 k f=>Pl 2<|ng<|Pl 1<|L0<|bS k<|?_
 have l:=aN.old hM f
 refine L0<|Oc<|di (nH (dir:=dir) l hf) fun N O P n a2 a3 o=>Pl 1<|ng<|Pl 2<|?_
 have p:=ub o k
 refine L0<|aP p 0<|Pl 1<|?_
 refine pr (ag aX dir M.code (ej dir M)) fun a g i=>?_
 have q:Calls _ _ _ _ (cM _ _ (ag aX dir M.code (ej dir M)) P):=iY (dir:=dir) (c:=M.code) q0 (n).rd (by omega)
 rw[i] at q
 refine L0<|Oc<|e2 (q) fun Q a4 R r=>?_
 have s:=aq n r (fun x hx=>aA) (fun _ _ h=>h)
 have b:=cV.rdt R (s).rd
 refine Pl 3<|L0<|bO mZ fun a5 a6 S T U=>L0<|be (hz:=(by rw[b.size];exact aO)) (hv:=b.size) (h1:=b.one) T (Q) fun a7 V W=>Pl 1<|ng<|L0<|bS (hz:=(by rw[b.size];exact aO)) V<|?_
 have j:=ud U W S
 have t:=aG r j
 refine L0<|bS (ub t p)<|?_
 have u:=aG o t
 refine L0<|Oc<|m1 (dw (A:=a) (B:=M) (aN.upd b j aK) (aN.old l u)) fun a8 v=>Pl 1<|nt<|sq<|sg<|Pl 3<|cu 3 [26] 29 (((g != 0)||(!(decide (a=M))))) (fun K y=>?_) ?_
 refine bl 26 ((g != 0)) (fun d=>?_) (fun d=>?_)
 have X:=az d
 exact Pl 3<|ce y true (by rw[d];rfl)
 have X:=ai d
 exact Pl 3<|ce y (!(decide (a=M))) (by rw[d];rfl)
 refine nt<|?_
 have z:=aG f (aG u v)
 refine cb (((g != 0)||(!(decide (a=M))))) (fun e=>?_) (fun e=>?_)
 refine sg<|Pl 2<|nt<|rt<|tr<|rr (.tuple #[.slice none 0 0,.int .i64 1])<|?_
 refine cQ (ii i e) ?_
 exact⟨rfl,z⟩
 have C:=(aH e).1
 have Y:=(aH e).2
 have a9:=ai C
 have D:(decide (a=M))=true:=by simpa using Y
 have q56bnp:=of_decide_eq_true D
 refine bp<|sg<|Pl 3<|nt<|rt<|rr (.tuple #[.slice N ((ej dir M).length) O,.int .i64 0])<|?_
 refine cQ (i1 i C D) ?_
 exact⟨_,rfl,(aW.weaken (aq s (aG j v) (fun x hx=>aA) (fun _ _ h=>h)) f.size),z⟩
theorem l7{m:Md}{cs:Array Value}{M:aQ}{w:World}{dir:Int}(h:aN m w cs.toList M)(hf:bM M) : Calls Tryz.prog 106 #[.int .i64 dir,.agg cs] w (dG (bo (ag bz) fe dir M) w):=by
 have hM:=h
 have hlen:=(gy hf dir).2.2.2.1
 obtain⟨vw,vb,vd,vr,vo,h0,hw,hbt,hd,hr,ho,hR⟩:=h
 obtain rfl:cs=(bu M vw vb vd vr vo).toArray:=by apply Array.toList_inj.1;simpa using h0
 clear h0
 obtain⟨Aw,kw,rfl,_,_⟩:=hw.shape
 obtain⟨Ab,kb,rfl,_,_⟩:=hbt.shape
 obtain⟨Ad,kd,rfl,_,_⟩:=hd.shape
 obtain⟨Ar,kr,rfl,_,_⟩:=hr.shape
 obtain⟨Ao,ko,rfl,_,_⟩:=ho.shape
 obtain⟨q0,q1,q2,q3,q4,q5,q6,q7,q8,q9,E,F,G,H,I,J,L⟩:=hR
 simp only[B8,dB] at q0 q1 q2 q3 q4 q5 q6 q7 q8 q9 E F G H I J L
 refine en 31 Tryz.func106 rfl<|sg<|L0<|dv (mG M.code M.fail M.addr M.count M.value M.and_ M.or_ M.addr2 M.sub M.status M.events M.messages (.slice Aw M.words.length kw) (.slice Ab M.bits.length kb) (.slice Ad M.data.length kd) (.slice Ar M.recs.length kr) M.mei M.kind M.level M.more M.next (.slice Ao M.objects.length ko)) fun Z a0 a1 k f=>Pl 2<|ng<|Pl 1<|L0<|bS k<|?_
 have l:=aN.old hM f
 refine L0<|Oc<|di (rA (dir:=dir) l hf) fun N O P n a2 a3 o=>Pl 1<|ng<|Pl 2<|?_
 have p:=ub o k
 refine L0<|aP p 0<|Pl 1<|?_
 refine pr (ag bz dir M.code (fe dir M)) fun a g i=>?_
 have q:Calls _ _ _ _ (cM _ _ (ag bz dir M.code (fe dir M)) P):=l9 (dir:=dir) (c:=M.code) q0 (n).rd (by omega)
 rw[i] at q
 refine L0<|Oc<|e2 (q) fun Q a4 R r=>?_
 have s:=aq n r (fun x hx=>aA) (fun _ _ h=>h)
 have b:=cV.rdt R (s).rd
 refine Pl 3<|L0<|bO mZ fun a5 a6 S T U=>L0<|be (hz:=(by rw[b.size];exact aO)) (hv:=b.size) (h1:=b.one) T (Q) fun a7 V W=>Pl 1<|ng<|L0<|bS (hz:=(by rw[b.size];exact aO)) V<|?_
 have j:=ud U W S
 have t:=aG r j
 refine L0<|bS (ub t p)<|?_
 have u:=aG o t
 refine L0<|Oc<|m1 (dw (A:=a) (B:=M) (aN.upd b j aK) (aN.old l u)) fun a8 v=>Pl 1<|nt<|sq<|sg<|Pl 3<|cu 3 [26] 29 (((g != 0)||(!(decide (a=M))))) (fun K y=>?_) ?_
 refine bl 26 ((g != 0)) (fun d=>?_) (fun d=>?_)
 have X:=az d
 exact Pl 3<|ce y true (by rw[d];rfl)
 have X:=ai d
 exact Pl 3<|ce y (!(decide (a=M))) (by rw[d];rfl)
 refine nt<|?_
 have z:=aG f (aG u v)
 refine cb (((g != 0)||(!(decide (a=M))))) (fun e=>?_) (fun e=>?_)
 refine sg<|Pl 2<|nt<|rt<|tr<|rr (.tuple #[.slice none 0 0,.int .i64 1])<|?_
 refine cQ (ii i e) ?_
 exact⟨rfl,z⟩
 have C:=(aH e).1
 have Y:=(aH e).2
 have a9:=ai C
 have D:(decide (a=M))=true:=by simpa using Y
 have q56bnp:=of_decide_eq_true D
 refine bp<|sg<|Pl 3<|nt<|rt<|rr (.tuple #[.slice N ((fe dir M).length) O,.int .i64 0])<|?_
 refine cQ (i1 i C D) ?_
 exact⟨_,rfl,(aW.weaken (aq s (aG j v) (fun x hx=>aA) (fun _ _ h=>h)) f.size),z⟩
def ox (M:aQ) : List Int:=[(M.code+128)%256,M.fail]
def fv (M:aQ) : Option (List Int):=if decide (128≤M.code) then none else bo (fun _ _ b=>eg b) (fun _ M=>ox M) 0 M
theorem kz{m:Md}{cs:Array Value}{M:aQ}{w:World}(h:aN m w cs.toList M) : Calls Tryz.prog 101 #[.agg cs] w (dG (fv M) w):=by
 have hM:=h
 obtain⟨vw,vb,vd,vr,vo,h0,hw,hbt,hd,hr,ho,hR⟩:=h
 obtain rfl:cs=(bu M vw vb vd vr vo).toArray:=by apply Array.toList_inj.1;simpa using h0
 clear h0
 obtain⟨Aw,kw,rfl,_,_⟩:=hw.shape
 obtain⟨Ab,kb,rfl,_,_⟩:=hbt.shape
 obtain⟨Ad,kd,rfl,_,_⟩:=hd.shape
 obtain⟨Ar,kr,rfl,_,_⟩:=hr.shape
 obtain⟨Ao,ko,rfl,_,_⟩:=ho.shape
 obtain⟨q0,q1,q2,q3,q4,q5,q6,q7,q8,q9,D,E,F,G,H,I,J⟩:=hR
 simp only[B8,dB] at q0 q1 q2 q3 q4 q5 q6 q7 q8 q9 D E F G H I J
 refine en 32 Tryz.func101 rfl<|sg<|L0<|dv (mG M.code M.fail M.addr M.count M.value M.and_ M.or_ M.addr2 M.sub M.status M.events M.messages (.slice Aw M.words.length kw) (.slice Ab M.bits.length kb) (.slice Ad M.data.length kd) (.slice Ar M.recs.length kr) M.mei M.kind M.level M.more M.next (.slice Ao M.objects.length ko)) fun a1 a2 a3 g j=>Pl 2<|nt<|sq<|sg<|Pl 1<|L0<|aP g 0<|Pl 1<|nl<|?_
 refine tn<|cb ((decide (128≤M.code))) (fun a=>?_) (fun a=>?_)
 have L:=of_decide_eq_true a
 refine sg<|Pl 2<|nt<|rt<|tr<|rr (.tuple #[.slice none 0 0,.int .i64 1])<|?_
 refine cQ (show fv M=none by unfold fv;rw[a];rfl) ?_
 exact⟨rfl,j⟩
 have L:=of_decide_eq_false a
 refine bp<|sg<|Pl 1<|L0<|aP g 0<|Pl 2<|L0<|aP g 1<|L0<|cK (m:=2) (e:=5) #[.int .u8 ((M.code+128)%256),.int .u8 M.fail] fun N O P Q R=>?_
 have o:=cN P (xs:=[((M.code+128)%256),M.fail]) (by as_aux_lemma=>kernel_rfl) (am (by omega) (am (by omega) aJ)) (by(try simp only[List.length_cons,List.length_nil]);omega) Q
 refine Pl 1<|ng<|Pl 1<|?_
 have a4:ox M=[((M.code+128)%256),M.fail]:=rfl
 refine pr (eg (ox M)) fun c k l=>?_
 have p:Calls _ _ _ _ (cM _ _ (eg (ox M)) O):=lf (o).rd (show(2:Nat)≤1048576 from by decide)
 rw[l] at p
 refine L0<|Oc<|e2 (p) fun S a5 T q=>?_
 have r:=aq o q (fun x hx=>aA) (fun _ _ h=>h)
 have d:=cV.rdt T (r).rd
 refine Pl 3<|L0<|bO mZ fun a6 a7 U V W=>L0<|be (hz:=(by rw[d.size];exact aO)) (hv:=d.size) (h1:=d.one) V (S) fun a8 X Y=>Pl 1<|ng<|L0<|bS (hz:=(by rw[d.size];exact aO)) X<|?_
 have n:=ud W Y U
 have s:=aG R (aG q n)
 refine L0<|bS (ub s g)<|?_
 have t:=aG j s
 refine L0<|Oc<|m1 (dw (A:=c) (B:=M) (aN.upd d n aK) (aN.old hM t)) fun a9 u=>Pl 1<|nt<|sq<|sg<|Pl 3<|cu 3 [27] 30 (((k != 0)||(!(decide (c=M))))) (fun K v=>?_) ?_
 refine bl 27 ((k != 0)) (fun f=>?_) (fun f=>?_)
 have Z:=az f
 exact Pl 3<|ce v true (by rw[f];rfl)
 have Z:=ai f
 exact Pl 3<|ce v (!(decide (c=M))) (by rw[f];rfl)
 refine nt<|?_
 have y:=aG t u
 refine cb (((k != 0)||(!(decide (c=M))))) (fun i=>?_) (fun i=>?_)
 refine sg<|Pl 2<|nt<|rt<|tr<|rr (.tuple #[.slice none 0 0,.int .i64 1])<|?_
 refine cQ (show fv M=bo (fun _ _ b=>eg b) (fun _ M=>ox M) 0 M by unfold fv;rw[a];rfl) ?_
 refine cQ (ii l i) ?_
 exact⟨rfl,y⟩
 have z:=(aH i).1
 have a0:=(aH i).2
 have aa:=ai z
 have C:(decide (c=M))=true:=by simpa using a0
 have q53bnp:=of_decide_eq_true C
 refine bp<|sg<|Pl 3<|nt<|rt<|rr (.tuple #[.slice (some ⟨N,0,none⟩) 2 2,.int .i64 0])<|?_
 refine cQ (show fv M=bo (fun _ _ b=>eg b) (fun _ M=>ox M) 0 M by unfold fv;rw[a];rfl) ?_
 refine cQ (i1 l z C) ?_
 exact⟨_,rfl,(aW.weaken (aq r (aG n u) (fun x hx=>aA) (fun _ _ h=>h)) j.size),y⟩
end Go.Proofs.YtogbnemojakcpaaGreat
namespace Go.Proofs.YtogbnemojakcpaaGreat
theorem ri{dir:Int}{M:aQ}(hd:dir=0∨dir=1)(hc:M.code=1∨M.code=2∨M.code=5∨M.code=15) : dg dir M=bQ dir M:=by
  unfold dg bQ
  rcases hd with rfl|rfl<;>rcases hc with h|h|h|h<;>rw[h]<;>rfl
theorem tk{dir:Int}{M:aQ}(hd:dir=0∨dir=1)(hc:M.code=3∨M.code=4∨M.code=6∨M.code=16∨M.code=22∨M.code=23∨M.code=24) : cc dir M=bK dir M:=by
  unfold cc bK
  rw[show 2*(M.words.length:Int)+2=2+2*(M.words.length:Int) from by omega]
  rcases hd with rfl|rfl<;>rcases hc with h|h|h|h|h|h|h<;>rw[h]<;>rfl
theorem tN{dir:Int}{M:aQ}(hd:dir=0∨dir=1) : dQ dir M=bN dir M:=by
  unfold dQ bN
  rw[show(M.data.length:Int)+6=6+(M.data.length:Int) from by omega]
  rfl
theorem tZ{dir:Int}{M:aQ}:fe dir M=de dir M:=by
  unfold fe de
  split
  · rename_i h
    rw[ae h]
  · rfl
theorem kP(dir c:Int) : ∀ L:List dr,dn dir c L=cH dir c L
  | []=>rfl
  | r :: L=>by
    show kF dir c r++dn dir c L=hH dir c r++cH dir c L
    rw[kP dir c L]
    unfold kF hH
    rw[show 2*(r.words.length:Int)+1=1+2*(r.words.length:Int) from by omega]
theorem pK{dir:Int}{M:aQ}:ej dir M=cO dir M:=by
  rw[jO]
  unfold ej
  rw[kP]
def ep (dir:Int)(M:aQ) : Option (List Int) :=
  match bo (ag aC) dg dir M with
  | some l=>some l
  | none=>match bo (ag aI) cc dir M with
    | some l=>some l
    | none=>match bo (ag aR) dQ dir M with
      | some l=>some l
      | none=>match bo (ag aX) ej dir M with
        | some l=>some l
        | none=>bo (ag bz) fe dir M
def dA (dir:Int)(M:aQ) : Option (List Int) :=
  match fv M with
  | some l=>some l
  | none=>match ep dir M with
    | some l=>some ([M.code]++l)
    | none=>none
theorem yv{form:Int→Int→aj→Option (aj × aQ)}{B:Int→aQ→List Int}{dir:Int}{M:aQ}(hd:dir=0∨dir=1)(hf:∀ C,form dir M.code C=none) : bo (ag form) B dir M=none:=by
  cases h:bo (ag form) B dir M with
  | none=>rfl
  | some l =>
    have h1:=(dq h).1
    rw[kA hd (hf _)] at h1
    injection h1 with _ h2
    cases h2
theorem oF{parse:Int→Int→List Int→aQ × Int}{B lay:Int→aQ→List Int}{dir:Int}{M:aQ}{l:List Int}(h:bo parse lay dir M=some l)(he:B dir M=lay dir M) : bo parse B dir M=some l:=by
  unfold bo at h ⊢
  rw[he]
  exact h
theorem iP{dir:Int}{M:aQ}{l:List Int}(hc:0≤M.code∧M.code<256)(h:cS dir M=some l) : dir=0∨dir=1:=by
  rcases gk hc h with⟨_,rfl,_⟩|⟨_,hk,_,l',h4,_⟩
  · exact .inr rfl
  · by_cases hd:dir=0∨dir=1
    · exact hd
    · have h5:=(jv h4).2
      exfalso
      have no:∀ form b,ag form dir (([M.code]++l').getD 0 0) b=(M,0)→False:=fun form b hp=>by
        unfold ag at hp
        rw[if_neg hd] at hp
        injection hp with _ h2
        cases h2
      unfold hY at h5
      split at h5
      · exact no _ _ h5
      · exact no _ _ h5
      · exact no _ _ h5
      · exact no _ _ h5
      · exact no _ _ h5
      · injection h5 with _ h2
        cases h2
theorem qm{dir:Int}{M:aQ}{l:List Int}(hc:0≤M.code∧M.code<256)(hf:0≤M.fail∧M.fail<256)(h:cS dir M=some l) : dA dir M=some l:=by
  have hd:=iP hc h
  rcases gk hc h with⟨h1,rfl,h2,h3,h4,rfl,h5⟩|⟨h1,h2,h3,l',h4,h5,rfl⟩
  · have k:fv M=some [M.code+128,M.fail]:=by
      unfold fv
      rw[if_neg (by simp only[decide_eq_true_eq];omega)]
      have hb:ox M=[M.code+128,M.fail]:=by unfold ox;rw[show(M.code+128)%256=M.code+128 from by omega]
      refine fb hb ?_
      have hb:(M.code+128-128)%256=M.code:=by omega
      have eu:decide (M.code+128<128)=false:=by simp;omega
      show eg [M.code+128,M.fail]=(M,0)
      unfold eg
      simp only[List.length_cons,List.length_nil,List.getD_cons_zero,List.getD_cons_succ,hb,eu,h2,h3]
      show(ge M.code M.fail,(0:Int))=(M,0)
      rw[← h4]
    unfold dA
    rw[k]
  · have k:fv M=none:=by
      cases hw:fv M with
      | none=>rfl
      | some l2 =>
        unfold fv at hw
        split at hw
        · cases hw
        · have h6:=(dq hw).1
          obtain⟨h7,_,_,h8,_⟩:=qh h6
          have h9:=nV h8
          have a:M.fail=l2.getD 1 0:=by rw[h7];rfl
          rw[← a,h1] at h9
          cases h9
    have no:∀ (form:Int→Int→aj→Option (aj × aQ)) (B:Int→aQ→List Int),(∀ C,form dir M.code C=none)→bo (ag form) B dir M=none:=fun form B hf=>yv hd hf
    have kc:ep dir M=some l':=by
      unfold ep
      rcases gq M.code with⟨hk,hf⟩|⟨hk,hf⟩|⟨hk,hf⟩|⟨hk,hf⟩|⟨hk,hf⟩|⟨hk,hf⟩<;>rw[hf] at h4
      · have h4:bo (ag aC) bQ dir M=some l':=h4
        rw[oF h4 (ri hd hk)]
      · have h4:bo (ag aI) bK dir M=some l':=h4
        rw[no aC _ (fun C=>by rcases hk with h | h | h | h | h | h | h<;>rw[h]<;>rfl),oF h4 (tk hd hk)]
      · have h4:bo (ag aR) bN dir M=some l':=h4
        rw[no aC _ (fun C=>by rcases hk with h | h | h | h | h<;>rw[h]<;>rfl),no aI _ (fun C=>by rcases hk with h | h | h | h | h<;>rw[h]<;>rfl),oF h4 (tN hd)]
      · have h4:bo (ag aX) cO dir M=some l':=h4
        rw[no aC _ (fun C=>by rcases hk with h | h<;>rw[h]<;>rfl),no aI _ (fun C=>by rcases hk with h | h<;>rw[h]<;>rfl),no aR _ (fun C=>by rcases hk with h | h<;>rw[h]<;>rfl),oF h4 pK]
      · have h4:bo (ag bz) de dir M=some l':=h4
        rw[no aC _ (fun C=>by rw[hk]<;>rfl),no aI _ (fun C=>by rw[hk]<;>rfl),no aR _ (fun C=>by rw[hk]<;>rfl),no aX _ (fun C=>by rw[hk]<;>rfl),oF h4 tZ]
      · exact absurd hf h2
    unfold dA
    rw[k,kc]
theorem t5{dir:Int}{b:List Int}{M:aQ}(h:cZ dir b=(M,0)) : dir=0∨dir=1:=by
  unfold cZ at h
  split at h
  · injection h with _ h
    cases h
  · rename_i hh
    simp only[Bool.and_eq_true,bne_iff_ne,ne_eq] at hh
    omega
theorem ra{dir:Int}{M:aQ}(hc:0≤M.code∧M.code<256)(hf:0≤M.fail∧M.fail<256)(hk:dA dir M=none) : cS dir M=none:=by
  cases h:cS dir M with
  | none=>rfl
  | some l=>rw[qm hc hf h] at hk;cases hk
theorem gr{dir E:Int}{M X:aQ}{b:List Int}(hc:0≤M.code∧M.code<256)(hf:0≤M.fail∧M.fail<256)(hk:dA dir M=some b)(hX:cZ dir b=(X,E))(hE:((E != 0)||(!(decide (X=M))))=true) : cS dir M=none:=by
  cases h:cS dir M with
  | none=>rfl
  | some l =>
    rw[qm hc hf h] at hk
    injection hk with hk
    subst hk
    rw[tz (iP hc h) hc hf h] at hX
    injection hX with h1 h2
    subst h1 h2
    simp at hE
theorem iv{dir E:Int}{M X:aQ}{b:List Int}(hr:∀ x,x∈b→0≤x∧x<256)(hX:cZ dir b=(X,E))(hE:(E != 0)=false)(h:decide (X=M)=true) : cS dir M=some b:=by
  have h1:X=M:=by simpa using h
  have h2:E=0:=by simpa using hE
  subst h1 h2
  exact oC (t5 hX) hr hX
open Go.RowKit
theorem td{p:Int→Int→List Int→aQ × Int}{B:Int→aQ→List Int}{dir:Int}{M:aQ}{l:List Int}(h:bo p B dir M=some l)(hB:(B dir M).length≤1048000) : l.length≤1048000:=by
  rw[(dq h).2]
  exact hB
theorem t6{M:aQ}{l:List Int}(h:fv M=some l) : l.length≤1048000:=by
  unfold fv at h
  split at h
  · cases h
  · rw[(dq h).2]
    exact(show 2≤1048000 from by decide)
theorem ld{m:Md}{cs:Array Value}{M:aQ}{w:World}{dir:Int}(h:aN m w cs.toList M)(hf:bM M) : Calls Tryz.prog 29 #[.int .i64 dir,.agg cs] w (dG (cS dir M) w):=by
 have hM:=h
 obtain⟨dc,dd,de,df,dh⟩:=gy hf dir
 obtain⟨vw,vb,vd,vr,vo,h0,hw,hbt,hd,hr,ho,hR⟩:=h
 obtain rfl:cs=(bu M vw vb vd vr vo).toArray:=by apply Array.toList_inj.1;simpa using h0
 clear h0
 obtain⟨Aw,kw,rfl,_,_⟩:=hw.shape
 obtain⟨Ab,kb,rfl,_,_⟩:=hbt.shape
 obtain⟨Ad,kd,rfl,_,_⟩:=hd.shape
 obtain⟨Ar,kr,rfl,_,_⟩:=hr.shape
 obtain⟨Ao,ko,rfl,_,_⟩:=ho.shape
 obtain⟨q0,q1,q2,q3,q4,q5,q6,q7,q8,q9,dj,dk,dl,dm,dn,dp,dq⟩:=hR
 simp only[B8,dB] at q0 q1 q2 q3 q4 q5 q6 q7 q8 q9 dj dk dl dm dn dp dq
 refine en 79 Tryz.func29 rfl<|sg<|L0<|dv (mG M.code M.fail M.addr M.count M.value M.and_ M.or_ M.addr2 M.sub M.status M.events M.messages (.slice Aw M.words.length kw) (.slice Ab M.bits.length kb) (.slice Ad M.data.length kd) (.slice Ar M.recs.length kr) M.mei M.kind M.level M.more M.next (.slice Ao M.objects.length ko)) fun fa fb fc Z d=>Pl 2<|ng<|L0<|bS Z<|?_
 rcases a:fv M with _|r
 have a0:=aN.old hM d
 have b4:=kz a0
 rw[a] at b4
 refine L0<|Oc<|m1 b4 fun fd g=>Pl 5<|nt<|sq<|sg<|Pl 2<|nt<|c1<|sg<|Pl 1<|?_
 have a1:=ub g Z
 refine L0<|bS a1<|?_
 have b5:=aG d g
 rcases b:bo (ag aC) dg dir M with _|k
 have a2:=aN.old a0 g
 have b6:=j7 (dir:=dir) a2 hf
 rw[b] at b6
 refine L0<|Oc<|m1 b6 fun ff i=>Pl 5<|nt<|sq<|sg<|Pl 2<|nt<|c1<|go<|Pl 1<|?_
 have a3:=ub i a1
 refine L0<|bS a3<|?_
 have b7:=aG b5 i
 rcases c:bo (ag aI) cc dir M with _|l
 have a4:=aN.old a2 i
 have b8:=jJ (dir:=dir) a4 hf
 rw[c] at b8
 refine L0<|Oc<|m1 b8 fun fg n=>Pl 5<|nt<|sq<|sg<|Pl 2<|nt<|c1<|go<|Pl 1<|?_
 have a5:=ub n a3
 refine L0<|bS a5<|?_
 have b9:=aG b7 n
 rcases f:bo (ag aR) dQ dir M with _|o
 have a6:=aN.old a4 n
 have ba:=jM (dir:=dir) a6 hf
 rw[f] at ba
 refine L0<|Oc<|m1 ba fun fh s=>Pl 5<|nt<|sq<|sg<|Pl 2<|nt<|c1<|go<|Pl 1<|?_
 have a7:=ub s a5
 refine L0<|bS a7<|?_
 have bb:=aG b9 s
 rcases j:bo (ag aX) ej dir M with _|p
 have a8:=aN.old a6 s
 have bc:=iQ (dir:=dir) a8 hf
 rw[j] at bc
 refine L0<|Oc<|m1 bc fun fi u=>Pl 5<|nt<|sq<|sg<|Pl 2<|nt<|c1<|go<|Pl 1<|?_
 have a9:=ub u a7
 refine L0<|bS a9<|?_
 have bd:=aG bb u
 rcases t:bo (ag bz) fe dir M with _|q
 have bf:=l7 (dir:=dir) (aN.old a8 u) hf
 rw[t] at bf
 refine L0<|Oc<|m1 bf fun fj bg=>Pl 5<|nt<|go<|Pl 1<|?_
 refine L0<|aP (ub bg a9) 0<|L0<|cK (m:=1) (e:=5) #[.int .u8 M.code] fun fk fl dr ds bi=>?_
 have bj:=cN dr (xs:=[M.code]) (by as_aux_lemma=>kernel_rfl) (am (by omega) aJ) (by(try simp only[List.length_cons,List.length_nil]);omega) ds
 refine Pl 1<|L0<|bE aV (xs:=([M.code])) (ys:=([])) (.int .u8 0) 1 bj (aS.nil true 5 _ _ _) (by(try simp only[List.length_append,List.length_cons,List.length_nil,ay]);omega) bi.size fun fm fn fo fp dt=>Pl 1<|nt<|sq<|sg<|Pl 2<|nt<|c1<|sg<|?_
 refine Pl 2<|nt<|rt<|tr<|rr (.tuple #[.slice none 0 0,.int .i64 1])<|?_
 have hk:dA dir M=none:=by unfold dA ep;simp only[a,b,c,f,j,t]
 refine cQ (ra q0 q1 hk) ?_
 exact⟨rfl,(aG bd (aG bg (ut bi dt (al (aM bj lr) av))))⟩
 have bk:=aN.old a8 u
 have bm:=l7 (dir:=dir) bk hf
 rw[t] at bm
 refine L0<|Oc<|di bm fun fq fr fs du ft fu aa=>?_
 have fw:q.length≤1048000:=td t df
 refine Pl 5<|nt<|go<|Pl 1<|?_
 have bn:=ub aa a9
 refine L0<|aP bn 0<|L0<|cK (m:=1) (e:=5) #[.int .u8 M.code] fun fx fy dx dy ab=>?_
 have bq:=cN dx (xs:=[M.code]) (by as_aux_lemma=>kernel_rfl) (am (by omega) aJ) (by(try simp only[List.length_cons,List.length_nil]);omega) dy
 refine Pl 1<|?_
 refine L0<|bE aV (xs:=([M.code])) (ys:=q) (.int .u8 0) 1 bq ((aq du ab (fun x hx=>aA) (fun _ _ h=>h))).rd (by(try simp only[List.length_append,List.length_cons,List.length_nil,ay]);omega) ab.size fun dz dC dD br dE=>Pl 1<|nt<|sq<|sg<|Pl 2<|nt<|c0<|bp<|sq<|?_
 refine go<|Pl 2<|?_
 refine pr (cZ dir ([M.code]++q)) fun v ac ad=>?_
 have bs:Calls _ _ _ _ (cM _ _ (cZ dir ([M.code]++q)) dD):=eE (dir:=dir) (br).rd (by(try simp only[List.length_append,List.length_cons,List.length_nil]);omega)
 rw[ad] at bs
 refine L0<|Oc<|e2 (bs) fun dF fz dH bt=>?_
 have bv:=aq br bt (fun x hx=>aA) (fun _ _ h=>h)
 have y:=cV.rdt dH (bv).rd
 refine Pl 3<|L0<|bO mZ fun fA fB dI dJ dK=>L0<|be (hz:=(by rw[y.size];exact aO)) (hv:=y.size) (h1:=y.one) dJ (dF) fun fC dL dM=>Pl 1<|ng<|L0<|bS (hz:=(by rw[y.size];exact aO)) dL<|?_
 have ae:=ud dK dM dI
 have bw:=ut ab (aG dE (aG bt ae)) (al (aM bq lr) av)
 refine L0<|bS (ub bw bn)<|?_
 have bx:=aG aa bw
 refine L0<|Oc<|m1 (dw (A:=v) (B:=M) (aN.upd y ae aK) (aN.old bk bx)) fun fD bA=>Pl 1<|nt<|sq<|sg<|Pl 3<|cu 3 [74] 77 (((ac != 0)||(!(decide (v=M))))) (fun K bB=>?_) ?_
 refine bl 74 ((ac != 0)) (fun z=>?_) (fun z=>?_)
 have dN:=az z
 exact Pl 3<|ce bB true (by rw[z];rfl)
 have dN:=ai z
 exact Pl 3<|ce bB (!(decide (v=M))) (by rw[z];rfl)
 refine nt<|?_
 have bC:=aG bd (aG bx bA)
 refine cb (((ac != 0)||(!(decide (v=M))))) (fun T=>?_) (fun T=>?_)
 refine sg<|Pl 2<|nt<|rt<|tr<|rr (.tuple #[.slice none 0 0,.int .i64 1])<|?_
 have hk:dA dir M=some ([M.code]++q):=by unfold dA ep;simp only[a,b,c,f,j,t]
 refine cQ (gr q0 q1 hk ad T) ?_
 exact⟨rfl,bC⟩
 have bD:=(aH T).1
 have dO:=(aH T).2
 have fE:=ai bD
 have bF:(decide (v=M))=true:=by simpa using dO
 have q120bnp:=of_decide_eq_true bF
 refine bp<|sg<|Pl 3<|nt<|rt<|rr (.tuple #[.slice dz (([M.code]++q).length) dC,.int .i64 0])<|?_
 have hk:dA dir M=some ([M.code]++q):=by unfold dA ep;simp only[a,b,c,f,j,t]
 have bG:=aq bv (aG ae bA) (fun x hx=>aA) (fun _ _ h=>h)
 refine cQ (iv (bh.range (bG).rd) ad bD bF) ?_
 exact⟨_,rfl,(aW.weaken bG (le (le (le (le (le (le d.size g.size) i.size) n.size) s.size) u.size) aa.size)),bC⟩
 have bH:=aN.old a6 s
 have bI:=iQ (dir:=dir) bH hf
 rw[j] at bI
 refine L0<|Oc<|di bI fun fF fG fH dP fI fJ af=>?_
 have fK:p.length≤1048000:=td j dh
 refine Pl 5<|nt<|sq<|sg<|Pl 2<|nt<|c0<|bp<|go<|Pl 1<|?_
 have bJ:=ub af a7
 refine L0<|aP bJ 0<|L0<|cK (m:=1) (e:=5) #[.int .u8 M.code] fun fL fM dR dS ah=>?_
 have bK:=cN dR (xs:=[M.code]) (by as_aux_lemma=>kernel_rfl) (am (by omega) aJ) (by(try simp only[List.length_cons,List.length_nil]);omega) dS
 refine Pl 1<|?_
 refine L0<|bE aV (xs:=([M.code])) (ys:=p) (.int .u8 0) 1 bK ((aq dP ah (fun x hx=>aA) (fun _ _ h=>h))).rd (by(try simp only[List.length_append,List.length_cons,List.length_nil,ay]);omega) ah.size fun dT dU dV bL dW=>Pl 1<|nt<|sq<|sg<|Pl 2<|nt<|c0<|bp<|sq<|?_
 refine go<|Pl 2<|?_
 refine pr (cZ dir ([M.code]++p)) fun C aj ak=>?_
 have bN:Calls _ _ _ _ (cM _ _ (cZ dir ([M.code]++p)) dV):=eE (dir:=dir) (bL).rd (by(try simp only[List.length_append,List.length_cons,List.length_nil]);omega)
 rw[ak] at bN
 refine L0<|Oc<|e2 (bN) fun dX fN dY bP=>?_
 have bQ:=aq bL bP (fun x hx=>aA) (fun _ _ h=>h)
 have D:=cV.rdt dY (bQ).rd
 refine Pl 3<|L0<|bO mZ fun fO fP dZ e0 e1=>L0<|be (hz:=(by rw[D.size];exact aO)) (hv:=D.size) (h1:=D.one) e0 (dX) fun fQ e3 e4=>Pl 1<|ng<|L0<|bS (hz:=(by rw[D.size];exact aO)) e3<|?_
 have an:=ud e1 e4 dZ
 have bR:=ut ah (aG dW (aG bP an)) (al (aM bK lr) av)
 refine L0<|bS (ub bR bJ)<|?_
 have bT:=aG af bR
 refine L0<|Oc<|m1 (dw (A:=C) (B:=M) (aN.upd D an aK) (aN.old bH bT)) fun fR bU=>Pl 1<|nt<|sq<|sg<|Pl 3<|cu 3 [74] 77 (((aj != 0)||(!(decide (C=M))))) (fun K bV=>?_) ?_
 refine bl 74 ((aj != 0)) (fun E=>?_) (fun E=>?_)
 have e5:=az E
 exact Pl 3<|ce bV true (by rw[E];rfl)
 have e5:=ai E
 exact Pl 3<|ce bV (!(decide (C=M))) (by rw[E];rfl)
 refine nt<|?_
 have bW:=aG bb (aG bT bU)
 refine cb (((aj != 0)||(!(decide (C=M))))) (fun U=>?_) (fun U=>?_)
 refine sg<|Pl 2<|nt<|rt<|tr<|rr (.tuple #[.slice none 0 0,.int .i64 1])<|?_
 have hk:dA dir M=some ([M.code]++p):=by unfold dA ep;simp only[a,b,c,f,j]
 refine cQ (gr q0 q1 hk ak U) ?_
 exact⟨rfl,bW⟩
 have bX:=(aH U).1
 have e6:=(aH U).2
 have fS:=ai bX
 have bY:(decide (C=M))=true:=by simpa using e6
 have q179bnp:=of_decide_eq_true bY
 refine bp<|sg<|Pl 3<|nt<|rt<|rr (.tuple #[.slice dT (([M.code]++p).length) dU,.int .i64 0])<|?_
 have hk:dA dir M=some ([M.code]++p):=by unfold dA ep;simp only[a,b,c,f,j]
 have bZ:=aq bQ (aG an bU) (fun x hx=>aA) (fun _ _ h=>h)
 refine cQ (iv (bh.range (bZ).rd) ak bX bY) ?_
 exact⟨_,rfl,(aW.weaken bZ (le (le (le (le (le d.size g.size) i.size) n.size) s.size) af.size)),bW⟩
 have c2:=aN.old a4 n
 have c3:=jM (dir:=dir) c2 hf
 rw[f] at c3
 refine L0<|Oc<|di c3 fun fT fU fV e7 fW fX ao=>?_
 have fY:o.length≤1048000:=td f de
 refine Pl 5<|nt<|sq<|sg<|Pl 2<|nt<|c0<|bp<|sq<|sq<|?_
 refine go<|Pl 2<|nt<|c0<|bp<|go<|Pl 1<|?_
 have c4:=ub ao a5
 refine L0<|aP c4 0<|L0<|cK (m:=1) (e:=5) #[.int .u8 M.code] fun fZ g0 e8 e9 ap=>?_
 have c5:=cN e8 (xs:=[M.code]) (by as_aux_lemma=>kernel_rfl) (am (by omega) aJ) (by(try simp only[List.length_cons,List.length_nil]);omega) e9
 refine Pl 1<|?_
 refine L0<|bE aV (xs:=([M.code])) (ys:=o) (.int .u8 0) 1 c5 ((aq e7 ap (fun x hx=>aA) (fun _ _ h=>h))).rd (by(try simp only[List.length_append,List.length_cons,List.length_nil,ay]);omega) ap.size fun ea eb ec c6 ed=>Pl 1<|nt<|sq<|sg<|Pl 2<|nt<|c0<|bp<|sq<|?_
 refine go<|Pl 2<|?_
 refine pr (cZ dir ([M.code]++o)) fun F ar au=>?_
 have c7:Calls _ _ _ _ (cM _ _ (cZ dir ([M.code]++o)) ec):=eE (dir:=dir) (c6).rd (by(try simp only[List.length_append,List.length_cons,List.length_nil]);omega)
 rw[au] at c7
 refine L0<|Oc<|e2 (c7) fun ee g1 ef c8=>?_
 have c9:=aq c6 c8 (fun x hx=>aA) (fun _ _ h=>h)
 have G:=cV.rdt ef (c9).rd
 refine Pl 3<|L0<|bO mZ fun g2 g3 eg eh ei=>L0<|be (hz:=(by rw[G.size];exact aO)) (hv:=G.size) (h1:=G.one) eh (ee) fun g4 ek el=>Pl 1<|ng<|L0<|bS (hz:=(by rw[G.size];exact aO)) ek<|?_
 have aw:=ud ei el eg
 have ca:=ut ap (aG ed (aG c8 aw)) (al (aM c5 lr) av)
 refine L0<|bS (ub ca c4)<|?_
 have cd:=aG ao ca
 refine L0<|Oc<|m1 (dw (A:=F) (B:=M) (aN.upd G aw aK) (aN.old c2 cd)) fun g5 cf=>Pl 1<|nt<|sq<|sg<|Pl 3<|cu 3 [74] 77 (((ar != 0)||(!(decide (F=M))))) (fun K cg=>?_) ?_
 refine bl 74 ((ar != 0)) (fun H=>?_) (fun H=>?_)
 have em:=az H
 exact Pl 3<|ce cg true (by rw[H];rfl)
 have em:=ai H
 exact Pl 3<|ce cg (!(decide (F=M))) (by rw[H];rfl)
 refine nt<|?_
 have ch:=aG b9 (aG cd cf)
 refine cb (((ar != 0)||(!(decide (F=M))))) (fun V=>?_) (fun V=>?_)
 refine sg<|Pl 2<|nt<|rt<|tr<|rr (.tuple #[.slice none 0 0,.int .i64 1])<|?_
 have hk:dA dir M=some ([M.code]++o):=by unfold dA ep;simp only[a,b,c,f]
 refine cQ (gr q0 q1 hk au V) ?_
 exact⟨rfl,ch⟩
 have ci:=(aH V).1
 have eo:=(aH V).2
 have g6:=ai ci
 have cj:(decide (F=M))=true:=by simpa using eo
 have q238bnp:=of_decide_eq_true cj
 refine bp<|sg<|Pl 3<|nt<|rt<|rr (.tuple #[.slice ea (([M.code]++o).length) eb,.int .i64 0])<|?_
 have hk:dA dir M=some ([M.code]++o):=by unfold dA ep;simp only[a,b,c,f]
 have ck:=aq c9 (aG aw cf) (fun x hx=>aA) (fun _ _ h=>h)
 refine cQ (iv (bh.range (ck).rd) au ci cj) ?_
 exact⟨_,rfl,(aW.weaken ck (le (le (le (le d.size g.size) i.size) n.size) ao.size)),ch⟩
 have cl:=aN.old a2 i
 have cm:=jJ (dir:=dir) cl hf
 rw[c] at cm
 refine L0<|Oc<|di cm fun g7 g8 g9 eq ga gb ax=>?_
 have gc:l.length≤1048000:=td c dd
 refine Pl 5<|nt<|sq<|sg<|Pl 2<|nt<|c0<|bp<|sq<|sq<|?_
 refine go<|Pl 2<|nt<|c0<|bp<|sq<|sg<|Pl 2<|nt<|c0<|?_
 refine bp<|go<|Pl 1<|?_
 have cn:=ub ax a3
 refine L0<|aP cn 0<|L0<|cK (m:=1) (e:=5) #[.int .u8 M.code] fun gd ge er es aB=>?_
 have co:=cN er (xs:=[M.code]) (by as_aux_lemma=>kernel_rfl) (am (by omega) aJ) (by(try simp only[List.length_cons,List.length_nil]);omega) es
 refine Pl 1<|?_
 refine L0<|bE aV (xs:=([M.code])) (ys:=l) (.int .u8 0) 1 co ((aq eq aB (fun x hx=>aA) (fun _ _ h=>h))).rd (by(try simp only[List.length_append,List.length_cons,List.length_nil,ay]);omega) aB.size fun et eu ev cp ew=>Pl 1<|nt<|sq<|sg<|Pl 2<|nt<|c0<|bp<|sq<|?_
 refine go<|Pl 2<|?_
 refine pr (cZ dir ([M.code]++l)) fun I aD aE=>?_
 have cq:Calls _ _ _ _ (cM _ _ (cZ dir ([M.code]++l)) ev):=eE (dir:=dir) (cp).rd (by(try simp only[List.length_append,List.length_cons,List.length_nil]);omega)
 rw[aE] at cq
 refine L0<|Oc<|e2 (cq) fun ex gf ey cr=>?_
 have ct:=aq cp cr (fun x hx=>aA) (fun _ _ h=>h)
 have J:=cV.rdt ey (ct).rd
 refine Pl 3<|L0<|bO mZ fun gg gh ez eA eB=>L0<|be (hz:=(by rw[J.size];exact aO)) (hv:=J.size) (h1:=J.one) eA (ex) fun gi eC eD=>Pl 1<|ng<|L0<|bS (hz:=(by rw[J.size];exact aO)) eC<|?_
 have aF:=ud eB eD ez
 have cv:=ut aB (aG ew (aG cr aF)) (al (aM co lr) av)
 refine L0<|bS (ub cv cn)<|?_
 have cw:=aG ax cv
 refine L0<|Oc<|m1 (dw (A:=I) (B:=M) (aN.upd J aF aK) (aN.old cl cw)) fun gj cx=>Pl 1<|nt<|sq<|sg<|Pl 3<|cu 3 [74] 77 (((aD != 0)||(!(decide (I=M))))) (fun K cy=>?_) ?_
 refine bl 74 ((aD != 0)) (fun L=>?_) (fun L=>?_)
 have eF:=az L
 exact Pl 3<|ce cy true (by rw[L];rfl)
 have eF:=ai L
 exact Pl 3<|ce cy (!(decide (I=M))) (by rw[L];rfl)
 refine nt<|?_
 have cz:=aG b7 (aG cw cx)
 refine cb (((aD != 0)||(!(decide (I=M))))) (fun W=>?_) (fun W=>?_)
 refine sg<|Pl 2<|nt<|rt<|tr<|rr (.tuple #[.slice none 0 0,.int .i64 1])<|?_
 have hk:dA dir M=some ([M.code]++l):=by unfold dA ep;simp only[a,b,c]
 refine cQ (gr q0 q1 hk aE W) ?_
 exact⟨rfl,cz⟩
 have cA:=(aH W).1
 have eG:=(aH W).2
 have gk:=ai cA
 have cB:(decide (I=M))=true:=by simpa using eG
 have q297bnp:=of_decide_eq_true cB
 refine bp<|sg<|Pl 3<|nt<|rt<|rr (.tuple #[.slice et (([M.code]++l).length) eu,.int .i64 0])<|?_
 have hk:dA dir M=some ([M.code]++l):=by unfold dA ep;simp only[a,b,c]
 have cC:=aq ct (aG aF cx) (fun x hx=>aA) (fun _ _ h=>h)
 refine cQ (iv (bh.range (cC).rd) aE cA cB) ?_
 exact⟨_,rfl,(aW.weaken cC (le (le (le d.size g.size) i.size) ax.size)),cz⟩
 have cD:=aN.old a0 g
 have cE:=j7 (dir:=dir) cD hf
 rw[b] at cE
 refine L0<|Oc<|di cE fun gl gm gn eH gp gq aL=>?_
 have gs:k.length≤1048000:=td b dc
 refine Pl 5<|nt<|sq<|sg<|Pl 2<|nt<|c0<|bp<|sq<|sq<|?_
 refine go<|Pl 2<|nt<|c0<|bp<|sq<|sg<|Pl 2<|nt<|c0<|?_
 refine bp<|sq<|sg<|Pl 2<|nt<|c0<|bp<|go<|Pl 1<|?_
 have cF:=ub aL a1
 refine L0<|aP cF 0<|L0<|cK (m:=1) (e:=5) #[.int .u8 M.code] fun gt gu eI eJ aT=>?_
 have cG:=cN eI (xs:=[M.code]) (by as_aux_lemma=>kernel_rfl) (am (by omega) aJ) (by(try simp only[List.length_cons,List.length_nil]);omega) eJ
 refine Pl 1<|?_
 refine L0<|bE aV (xs:=([M.code])) (ys:=k) (.int .u8 0) 1 cG ((aq eH aT (fun x hx=>aA) (fun _ _ h=>h))).rd (by(try simp only[List.length_append,List.length_cons,List.length_nil,ay]);omega) aT.size fun eK eL eM cH eN=>Pl 1<|nt<|sq<|sg<|Pl 2<|nt<|c0<|bp<|sq<|?_
 refine go<|Pl 2<|?_
 refine pr (cZ dir ([M.code]++k)) fun N aU aY=>?_
 have cI:Calls _ _ _ _ (cM _ _ (cZ dir ([M.code]++k)) eM):=eE (dir:=dir) (cH).rd (by(try simp only[List.length_append,List.length_cons,List.length_nil]);omega)
 rw[aY] at cI
 refine L0<|Oc<|e2 (cI) fun eO gv eP cJ=>?_
 have cL:=aq cH cJ (fun x hx=>aA) (fun _ _ h=>h)
 have O:=cV.rdt eP (cL).rd
 refine Pl 3<|L0<|bO mZ fun gw gx eQ eR eS=>L0<|be (hz:=(by rw[O.size];exact aO)) (hv:=O.size) (h1:=O.one) eR (eO) fun gz eT eU=>Pl 1<|ng<|L0<|bS (hz:=(by rw[O.size];exact aO)) eT<|?_
 have aZ:=ud eS eU eQ
 have cO:=ut aT (aG eN (aG cJ aZ)) (al (aM cG lr) av)
 refine L0<|bS (ub cO cF)<|?_
 have cP:=aG aL cO
 refine L0<|Oc<|m1 (dw (A:=N) (B:=M) (aN.upd O aZ aK) (aN.old cD cP)) fun gA cR=>Pl 1<|nt<|sq<|sg<|Pl 3<|cu 3 [74] 77 (((aU != 0)||(!(decide (N=M))))) (fun K cT=>?_) ?_
 refine bl 74 ((aU != 0)) (fun P=>?_) (fun P=>?_)
 have eV:=az P
 exact Pl 3<|ce cT true (by rw[P];rfl)
 have eV:=ai P
 exact Pl 3<|ce cT (!(decide (N=M))) (by rw[P];rfl)
 refine nt<|?_
 have cU:=aG b5 (aG cP cR)
 refine cb (((aU != 0)||(!(decide (N=M))))) (fun X=>?_) (fun X=>?_)
 refine sg<|Pl 2<|nt<|rt<|tr<|rr (.tuple #[.slice none 0 0,.int .i64 1])<|?_
 have hk:dA dir M=some ([M.code]++k):=by unfold dA ep;simp only[a,b]
 refine cQ (gr q0 q1 hk aY X) ?_
 exact⟨rfl,cU⟩
 have cW:=(aH X).1
 have eW:=(aH X).2
 have gB:=ai cW
 have cX:(decide (N=M))=true:=by simpa using eW
 have q356bnp:=of_decide_eq_true cX
 refine bp<|sg<|Pl 3<|nt<|rt<|rr (.tuple #[.slice eK (([M.code]++k).length) eL,.int .i64 0])<|?_
 have hk:dA dir M=some ([M.code]++k):=by unfold dA ep;simp only[a,b]
 have cY:=aq cL (aG aZ cR) (fun x hx=>aA) (fun _ _ h=>h)
 refine cQ (iv (bh.range (cY).rd) aY cW cX) ?_
 exact⟨_,rfl,(aW.weaken cY (le (le d.size g.size) aL.size)),cU⟩
 have d0:=aN.old hM d
 have d1:=kz d0
 rw[a] at d1
 refine L0<|Oc<|di d1 fun eX eY eZ d2 gC gD f0=>?_
 have gE:r.length≤1048000:=t6 a
 refine Pl 5<|nt<|sq<|sg<|Pl 2<|nt<|c0<|bp<|sq<|sq<|?_
 refine go<|Pl 2<|nt<|c0<|bp<|sg<|Pl 2<|?_
 refine pr (cZ dir r) fun Q b0 b1=>?_
 have d3:Calls _ _ _ _ (cM _ _ (cZ dir r) eZ):=eE (dir:=dir) (d2).rd (by(try simp only[List.length_append,List.length_cons,List.length_nil]);omega)
 rw[b1] at d3
 refine L0<|Oc<|e2 (d3) fun f1 gF f2 d4=>?_
 have d5:=aq d2 d4 (fun x hx=>aA) (fun _ _ h=>h)
 have R:=cV.rdt f2 (d5).rd
 refine Pl 3<|L0<|bO mZ fun gG gH f3 f4 f5=>L0<|be (hz:=(by rw[R.size];exact aO)) (hv:=R.size) (h1:=R.one) f4 (f1) fun gI f6 f7=>Pl 1<|ng<|L0<|bS (hz:=(by rw[R.size];exact aO)) f6<|?_
 have b2:=ud f5 f7 f3
 have b3:=aG f0 (aG d4 b2)
 refine L0<|bS (ub b3 Z)<|?_
 refine L0<|Oc<|m1 (dw (A:=Q) (B:=M) (aN.upd R b2 aK) (aN.old d0 b3)) fun gJ d6=>Pl 1<|nt<|sq<|sg<|Pl 3<|cu 3 [74] 77 (((b0 != 0)||(!(decide (Q=M))))) (fun K d7=>?_) ?_
 refine bl 74 ((b0 != 0)) (fun S=>?_) (fun S=>?_)
 have f8:=az S
 exact Pl 3<|ce d7 true (by rw[S];rfl)
 have f8:=ai S
 exact Pl 3<|ce d7 (!(decide (Q=M))) (by rw[S];rfl)
 refine nt<|?_
 have d8:=aG d (aG b3 d6)
 refine cb (((b0 != 0)||(!(decide (Q=M))))) (fun Y=>?_) (fun Y=>?_)
 refine sg<|Pl 2<|nt<|rt<|tr<|rr (.tuple #[.slice none 0 0,.int .i64 1])<|?_
 have hk:dA dir M=some r:=by unfold dA ep;simp only[a]
 refine cQ (gr q0 q1 hk b1 Y) ?_
 exact⟨rfl,d8⟩
 have d9:=(aH Y).1
 have f9:=(aH Y).2
 have gK:=ai d9
 have da:(decide (Q=M))=true:=by simpa using f9
 have q400bnp:=of_decide_eq_true da
 refine bp<|sg<|Pl 3<|nt<|rt<|rr (.tuple #[.slice eX r.length eY,.int .i64 0])<|?_
 have hk:dA dir M=some r:=by unfold dA ep;simp only[a]
 have db:=aq d5 (aG b2 d6) (fun x hx=>aA) (fun _ _ h=>h)
 refine cQ (iv (bh.range (db).rd) b1 d9 da) ?_
 exact⟨_,rfl,(aW.weaken db d.size),d8⟩
open Go.RowKit
theorem mO{m:Md}{cs:Array Value}{M:aQ}{w:World}{dir:Int}(hX:cS dir M=none)(h:aN m w cs.toList M)(hf:bM M) : Calls Tryz.prog 29 #[.int .i64 dir,.agg cs] w (fun e w'=>e = .returned (.tuple #[.slice none 0 0,.int .i64 1])∧aF [] w w'):=by
  have:=ld (dir:=dir) h hf
  rw[hX] at this
  exact this
theorem n8{m:Md}{cs:Array Value}{M:aQ}{w:World}{dir:Int}{l:List Int}(hX:cS dir M=some l)(h:aN m w cs.toList M)(hf:bM M) : Calls Tryz.prog 29 #[.int .i64 dir,.agg cs] w (fun e w'=>∃ v,e = .returned (.tuple #[v,.int .i64 0])∧eI w.heap.size w' v l∧aF [] w w'):=by
  have:=ld (dir:=dir) h hf
  rw[hX] at this
  exact this
theorem wI{P:List Int→fw × Int}{r:Option (List Int)}{b:List Int}{F:fw}{E u t:Int}{M:aQ}(hs:∀ l,r=some l→l=b)(hrt:∀ l,r=some l→P l=(⟨u,t,M⟩,0))(hX:P b=(F,E))(hE:(((E != 0)||(!(decide (F.msg=M))))||(!((F.unit==u)&&(F.tid==t))))=true) : r=none:=by
  cases h:r with
  | none=>rfl
  | some l =>
    have h1:=hrt l h
    rw[hs l h,hX] at h1
    injection h1 with h1 h2
    subst h1 h2
    simp at hE
theorem xI{F:fw}{E u t:Int}{M:aQ}(hE:(((E != 0)||(!(decide (F.msg=M))))||(!((F.unit==u)&&(F.tid==t))))=false) : E=0∧F=⟨u,t,M⟩:=by
  obtain⟨u',t',M'⟩:=F
  simp only[Bool.or_eq_false_iff,Bool.not_eq_false',Bool.and_eq_true,beq_iff_eq,bne_eq_false_iff_eq,decide_eq_true_eq] at hE
  obtain⟨⟨h1,h2⟩,h3,h4⟩:=hE
  have h2:M'=M:=h2
  have h3:u'=u:=h3
  have h4:t'=t:=h4
  subst h2 h3 h4
  exact⟨h1,rfl⟩
theorem pI{x y:Option (List Int)}(h:x=y){w:World}{e:Ending}{w':World}(k:dG y w e w') : dG x w e w':=by rw[h];exact k
open Go.RowKit
theorem nd{m:Md}{A:Option Addr}{cp:Nat}{b:List Int}{w:World}{u t:Int}(hbu:0≤u∧u<256)(hbt:0≤t∧t<65536)(hsl:bh m w (.slice A b.length cp) b)(hb:b.length≤253) : Calls Tryz.prog 113 #[.agg #[.int .u8 u,.int .u16 t],.slice A b.length cp] w (fm (kn t 0 ((b.length:Int)+1) u b) w):=by
 refine en 21 Tryz.func113 rfl<|sg<|L0<|dv #[.int .u8 u,.int .u16 t] fun E F G g d=>Pl 1<|ng<|Pl 1<|L0<|aP g 1<|Pl 2<|L0<|Oi (((b.length:Nat) : Int)+1)<|Pl 1<|L0<|cK (m:=3) (e:=24) #[.int .u16 t,.int .u16 0,.int .u16 ((((b.length:Nat) : Int)+1)%65536)] fun H I o p a=>?_
 have q:=dc o (xs:=[t,0,((((b.length:Nat) : Int)+1)%65536)]) (by as_aux_lemma=>kernel_rfl) (am (by omega) (am (by omega) (am (by omega) aJ))) (by(try simp only[List.length_cons,List.length_nil]);omega) p
 refine L0<|Oc<|di (el (xs:=[t,0,((((b.length:Nat) : Int)+1)%65536)]) (q).rd (by(try simp only[List.length_append,List.length_cons,List.length_nil]);omega)) fun r J K i L M f=>Pl 1<|ng<|Pl 2<|?_
 have j:=aG a f
 refine L0<|aP (ub j g) 0<|L0<|cK (m:=1) (e:=5) #[.int .u8 u] fun N O s v c=>?_
 have y:=cN s (xs:=[u]) (by as_aux_lemma=>kernel_rfl) (am (by omega) aJ) (by(try simp only[List.length_cons,List.length_nil]);omega) v
 refine L0<|bE aV (xs:=(aE ([t,0,((((b.length:Nat) : Int)+1)%65536)]))) (ys:=([u])) (.int .u8 0) 1 (aq i c (fun x hx=>aA) (fun _ _ h=>h)) (y).rd (by(try simp only[List.length_append,List.length_cons,List.length_nil,ay]);omega) (le f.size c.size) fun P Q R k l=>Pl 1<|?_
 have n:=aG d (ut j (ut (aF.mono (S':=(ob r++[])) c av) l (al il av)) (al (aM i a.size) av))
 refine L0<|bE aV (xs:=((aE ([t,0,((((b.length:Nat) : Int)+1)%65536)]))++[u])) (ys:=b) (.int .u8 0) 1 k (bh.old hsl n) (by(try simp only[List.length_append,List.length_cons,List.length_nil,ay]);omega) (le (le f.size c.size) l.size) fun z B S C D=>Pl 1<|nt<|rt<|rr (.slice z ((((aE ([t,0,((((b.length:Nat) : Int)+1)%65536)]))++[u])++b).length) B)<|?_
 rw[show kn t 0 ((b.length:Int)+1) u b=(aE [t,0,((b.length:Int)+1)%65536]++[u])++b from by unfold kn;rw[show((b.length:Int)+1)%65536=(b.length:Int)+1 from by omega]]
 exact⟨_,rfl,(aW.weaken C (le d.size a.size)),(ut n D (al (aM k (le d.size a.size)) av))⟩
theorem oy{m:Md}{v:Value}{b:List Int}{w:World}{u t:Int}(hbu:0≤u∧u<256)(hbt:0≤t∧t<65536)(h:bh m w v b)(hb:b.length≤253) : Calls Tryz.prog 113 #[.agg #[.int .u8 u,.int .u16 t],v] w (fm (kn t 0 ((b.length:Int)+1) u b) w):=by
  obtain⟨A,cp,rfl,_,_⟩:=h.shape
  exact nd hbu hbt h hb
theorem jW{m:Md}{x:SL}{M:aQ}{w:World}{dir u t:Int}(h:aN m w (oM M x).toList M)(hf:bM M)(hbu:0≤u∧u<256)(hbt:0≤t∧t<65536) : Calls Tryz.prog 35 #[.int .i64 dir,.agg (pz u t M x)] w (dG (eq dir u t M) w):=by
 obtain⟨hc,hd⟩:=h.rngs
 refine en 50 Tryz.func35 rfl<|sg<|L0<|dv (pz u t M x) fun a3 a4 a5 n b=>Pl 2<|ng<|Pl 2<|L0<|vD n 2 22<|?_
 refine wo (cS dir M) (fun hW=>?_) (fun l hW=>?_)
 refine L0<|Oc<|m1 (mO hW (aN.old h b) hf) fun a6 H=>Pl 5<|nt<|sq<|sg<|Pl 2<|nt<|c1<|sg<|Pl 2<|nl<|?_
 refine tn<|rt<|tr<|rr (.tuple #[.slice none 0 0,.int .i64 1])<|?_
 refine pI (show eq dir u t M=none by unfold eq;rw[hW]) ?_
 exact⟨rfl,(aG b H)⟩
 have hlw:=uO hc hW
 have o:=aN.old h b
 refine L0<|Oc<|di (n8 hW o hf) fun a7 a8 a9 I aa ab i=>Pl 5<|nt<|sq<|sg<|Pl 2<|nt<|c0<|bp<|sq<|?_
 refine go<|Pl 1<|?_
 have p:=ub i n
 refine L0<|vD p 0 2<|Pl 1<|L0<|Oc<|di (oy (u:=u) (t:=t) hbu hbt (I).rd hlw) fun J L ac q ad af N=>Pl 1<|ng<|Pl 2<|?_
 have hlb:((kn t 0 ((l.length:Int)+1) u l)).length≤1048576:=by rw[ki];omega
 refine pr (dE dir (kn t 0 ((l.length:Int)+1) u l)) fun a c j=>?_
 refine L0<|Oc<|e2 (lL j (q).rd hlb) fun x42 ag O r=>?_
 obtain⟨Q,ah,aj⟩:=O
 have s:=aq q r (fun x hx=>aA) (fun _ _ h=>h)
 have R:=cV.rdt Q (s).rd
 refine Pl 3<|L0<|bO #[.int .u8 0,.int .u16 0,.int .u8 0,.int .u8 0,.int .u16 0,.int .u16 0,.int .u16 0,.int .u16 0,.int .u16 0,.int .u16 0,.int .u16 0,.int .u16 0,.int .u16 0,.int .u16 0,.slice none 0 0,.slice none 0 0,.slice none 0 0,.slice none 0 0,.int .u8 0,.int .u8 0,.int .u8 0,.int .u8 0,.int .u8 0,.slice none 0 0] fun ak al S T U=>L0<|be T (pz a.unit a.tid a.msg x42) fun am v V=>Pl 1<|ng<|Pl 1<|L0<|vD v 2 22<|Pl 1<|?_
 have k:=ud U V S
 have y:=aG N (aG r k)
 have z:=ub y p
 refine L0<|vD z 2 22<|?_
 have A:=aG i y
 refine L0<|Oc<|m1 (dw (aN.upd R k aK) (aN.old o A)) fun an g=>Pl 1<|nt<|sq<|sg<|Pl 3<|cu 3 [38] 41 (((c != 0)||(!(decide (a.msg=M))))) (fun K B=>?_) ?_
 refine bl 38 ((c != 0)) (fun d=>?_) (fun d=>?_)
 have W:=az d
 exact Pl 3<|ce B true (by rw[d];rfl)
 have W:=ai d
 exact Pl 3<|ce B (!(decide (a.msg=M))) (by rw[d];rfl)
 refine Pl 1<|cu 6 [42] 48 ((((c != 0)||(!(decide (a.msg=M))))||(!((a.unit==u)&&(a.tid==t))))) (fun K C=>?_) ?_
 refine bl 42 (((c != 0)||(!(decide (a.msg=M))))) (fun e=>?_) (fun e=>?_)
 exact Pl 6<|ce C true (by rw[e];rfl)
 have X:=(aH e).1
 have Y:=(aH e).2
 have ao:=ai X
 have Z:(decide (a.msg=M))=true:=by simpa using Y
 have q70bnp:=of_decide_eq_true Z
 refine Pl 1<|?_
 refine L1<|vD (ub g v) 0 2<|Pl 1<|?_
 exact L1<|vD (ub g z) 0 2<|L1<|nC (.bool (!((a.unit==u)&&(a.tid==t)))) (pP a.unit a.tid u t rfl (by kernel_rfl) (by kernel_rfl) rfl)<|Pl 1<|ce C (!((a.unit==u)&&(a.tid==t))) (by rw[e];rfl)
 refine nt<|?_
 have D:=aG b (aG A g)
 refine cb ((((c != 0)||(!(decide (a.msg=M))))||(!((a.unit==u)&&(a.tid==t))))) (fun f=>?_) (fun f=>?_)
 refine sg<|Pl 2<|nt<|rt<|tr<|rr (.tuple #[.slice none 0 0,.int .i64 1])<|?_
 refine pI (wI (P:=dE dir) (fun l2 h=>by obtain⟨l3,k1,k2,_⟩:=iD h;rw[hW] at k1;injection k1 with k1;subst k1;exact k2) (fun l2 h=>vJ (iP hc hW) hc hd hbt h) j f) ?_
 exact⟨rfl,D⟩
 have E:=(aH f).1
 have a0:=(aH f).2
 have a1:=(aH E).1
 have a2:=(aH E).2
 have q76aap:=ai a1
 have q76abn:(decide (a.msg=M))=true:=by simpa using a2
 have q76abnp:=of_decide_eq_true q76abn
 have F:((a.unit==u)&&(a.tid==t))=true:=by simpa using a0
 have q76bna:=(aZ F).1
 have q76bnb:=(aZ F).2
 have q76bnap:=ae q76bna
 have q76bnbp:=ae q76bnb
 refine bp<|sg<|Pl 3<|nt<|rt<|rr (.tuple #[.slice J ((kn t 0 ((l.length:Int)+1) u l).length) L,.int .i64 0])<|?_
 obtain⟨hE0,hF0⟩:=xI f
 subst hE0 hF0
 have G:=aq s (aG k g) (fun x hx=>aA) (fun _ _ h=>h)
 refine pI ((sc (iP hc hW) (bh.range (G).rd) j rfl rfl).1) ?_
 exact⟨_,rfl,(aW.weaken G (le b.size i.size)),D⟩
theorem lP{m:Md}{x:SL}{M:aQ}{w:World}{dir u t:Int}(h:aN m w (oM M x).toList M)(hf:bM M)(hbu:0≤u∧u<256)(hbt:0≤t∧t<65536)(hX:eq dir u t M=none) : Calls Tryz.prog 35 #[.int .i64 dir,.agg (pz u t M x)] w (fun e w'=>e = .returned (.tuple #[.slice none 0 0,.int .i64 1])∧aF [] w w'):=by
  have k:=jW (dir:=dir) h hf hbu hbt
  rw[hX] at k
  exact k
theorem lS{m:Md}{x:SL}{M:aQ}{w:World}{dir u t:Int}(h:aN m w (oM M x).toList M)(hf:bM M)(hbu:0≤u∧u<256)(hbt:0≤t∧t<65536){l:List Int}(hX:eq dir u t M=some l) : Calls Tryz.prog 35 #[.int .i64 dir,.agg (pz u t M x)] w (fun e w'=>∃ v,e = .returned (.tuple #[v,.int .i64 0])∧eI w.heap.size w' v l∧aF [] w w'):=by
  have k:=jW (dir:=dir) h hf hbu hbt
  rw[hX] at k
  exact k
open Go.RowKit
theorem lC{w:World}{dir:Int}{u t:Int}{M:aQ}{xM:SL}{mM:Md}(hM:aN mM w (oM M xM).toList M)(hbu:0≤u∧u<256)(hbt:0≤t∧t<65536) :
    Calls Tryz.prog 6 #[.int .i64 dir,.agg (pz u t M xM)] w (dM (.bool true) w):=by
 have hRM:=hM.rngs
 obtain⟨hcM,hdM⟩:=hRM
 refine en 41 Tryz.func6 rfl<|sg<|L0<|dv (pz u t M xM) fun F G H q r=>Pl 1<|ng<|L0<|Oc<|m1 (@uV _) fun I l=>Pl 1<|nt<|sq<|?_
 refine go<|Pl 1<|?_
 have m:=ub l q
 refine L0<|vD m 2 22<|?_
 have n:=aG r l
 have o:=aN.old hM n
 refine L0<|Oc<|m1 (v5 o) fun J e=>Pl 1<|nt<|sq<|sg<|Pl 2<|nt<|?_
 have f:=aG n e
 refine cb ((!(gR M))) (fun g=>?_) (fun g=>?_)
 have c:(gR M)=false:=by simpa using g
 refine sg<|Pl 2<|nt<|rt<|tr<|rr (.bool true)<|?_
 exact⟨rfl,f⟩
 have c:(gR M)=true:=by simpa using g
 refine bp<|sg<|Pl 1<|?_
 have i:=ub e m
 refine L0<|bS i<|?_
 have d:=aN.old o e
 refine wo (eq dir u t M) (fun b=>?_) (fun a b=>?_)
 refine L0<|Oc<|m1 (ns b d (jd c) (by omega) (by omega)) fun K j=>Pl 5<|ng<|Pl 1<|?_
 refine L0<|bS (ub j i)<|?_
 refine L0<|Oc<|m1 (lP (aN.old d j) (jd c) (by omega) (by omega) b) fun L s=>Pl 5<|ng<|Pl 9<|L1<|Oc (args:=#[.slice none 0 0,.slice none 0 0])<|m1 (io (xs:=([] : List Int)) (ys:=[]) (aS.nil true _ _ _ _) (aS.nil true _ _ _ _)) fun N v=>Pl 2<|nt<|rt<|rr (.bool (decide (([] : List Int)=[])))<|?_
 have hs:(decide (([] : List Int)=[]))=true:=by simp
 rw[hs]
 exact⟨rfl,(aG f (aG j (aG s v)))⟩
 have O:=sT (d.rngs).1 b
 refine L0<|Oc<|di (mT b d (jd c) (by omega) (by omega)) fun y z P A Q R k=>Pl 5<|ng<|Pl 1<|?_
 refine L0<|bS (ub k i)<|?_
 refine L0<|Oc<|di (lS (aN.old d k) (jd c) (by omega) (by omega) b) fun B C S D T U p=>Pl 5<|ng<|Pl 9<|?_
 refine L1<|Oc (args:=#[.slice y a.length z,.slice B a.length C])<|m1 (io (xs:=a) (ys:=a) ((aq A p (fun x hx=>aA) (fun _ _ h=>h))).rd (D).rd) fun V E=>Pl 2<|nt<|rt<|rr (.bool (decide (a=a)))<|?_
 have hs:(decide (a=a))=true:=by simp
 rw[hs]
 exact⟨rfl,(aG f (aG k (aG p E)))⟩
open Go.RowKit
section
variable {H:Type}{enc:TypeId × Value→H}{P:Program}{w:World}{base:Nat}{spare:Nat→Bool}{held:Bool}
theorem nI(b off:Nat)(sp:Option Nat)(n:Nat)(h:sp=none) : (⟨b,off,sp⟩ : Addr).add n=⟨b,off+n,none⟩:=jl b off n sp h
theorem rS{b off:Nat}{sp:Option Nat}{v:Value}(h:w.cell? ⟨b,off,sp⟩=some v) : sp=none:=by
  cases sp with
  | none=>rfl
  | some s =>
    unfold World.cell? at h
    simp at h
    split at h<;>cases h
theorem sS{α:Type}{Pd:DataW H→Prop}{R:World→α→List Value→Prop}{t e:TypeId}{sz fuel:Nat}{cs:List Value}{x:DataW H × List MemPlace}(ht:P.underlying t=some (.slice e))(hsz:P.cellsOf e=sz)(hp:0<sz)
    (hel:∀ n cs' y,cs'.length=sz→DataW.trod enc P w base spare held n e cs'=some y→Pd y.1→∃ x,R w x cs') (hP:∀ elems spare,x.1 = .slice elems spare→∀ d,d∈elems→Pd d) (h:DataW.trod enc P w base spare held fuel t cs=some x) : ∃ v xs,cs=[v]∧aS false e sz R w v xs:=by
  rcases Go.Deep.open_slice ht h with⟨rfl,_⟩|⟨a,len,cap,m,n,D,Pl,rfl,_,hl,hm,hmm,hxe,hx⟩
  · exact⟨_,[],rfl,aS.nil ..⟩
  have hlm:len≤m:=by rw[hmm];split<;>omega
  have key:∀ i:Fin len,∃ y:α × List Value,w.cells? base (a.add (i*sz)) sz=some y.2∧y.2.length=sz∧R w y.1 y.2:=fun i=>by
    obtain⟨cs',h1,h2⟩:=hx i (by omega)
    rw[hsz] at h1
    obtain⟨_,hlen,_⟩:=World.cells?_some h1
    obtain⟨y,hy⟩:=hel n cs' _ hlen h2 (hP _ _ (by rw[hxe]) _ (List.mem_map.2 ⟨i.1,List.mem_range.2 i.2,rfl⟩))
    exact⟨(y,cs'),h1,hlen,hy⟩
  obtain⟨f,hf⟩:=Classical.axiomOfChoice key
  refine⟨_,List.ofFn fun i=>(f i).1,rfl,some a,cap,by simp,by simpa using hl,hm,(fun h=>by cases h),fun hpos=>?_⟩
  have hpos':0<len:=by simpa using hpos
  obtain⟨b,off,sp⟩:=a
  have hsp:sp=none:=by
    obtain⟨h1,h2,_⟩:=hf ⟨0,hpos'⟩
    obtain⟨_,_,h3⟩:=World.cells?_some h1
    have h4:=h3 0 hp
    rw[List.getElem?_eq_getElem (by omega)] at h4
    cases sp with
    | none=>rfl
    | some s =>
      simp[Addr.add] at h4
      exact rS h4
  subst hsp
  have hc:∀ i:Fin len,∀ k u,(f i).2[k]? = some u→w.cell? ⟨b,off+i*sz+k,none⟩=some u:=fun i k u hu=>by
    obtain⟨h1,h2,_⟩:=hf i
    obtain⟨_,_,h3⟩:=World.cells?_some h1
    have hk:k<sz:=by have:=(List.getElem?_eq_some_iff.1 hu).1;omega
    have h4:=h3 k hk
    rw[nI _ _ _ _ rfl,nI _ _ _ _ rfl] at h4
    rw[h4,hu]
  have h0:∃ u,w.cell? ⟨b,off+0*sz+0,none⟩=some u:=by
    obtain⟨_,h2,_⟩:=hf ⟨0,hpos'⟩
    exact⟨_,hc ⟨0,hpos'⟩ 0 _ (List.getElem?_eq_getElem (by omega))⟩
  obtain⟨u,hu⟩:=h0
  unfold World.cell? at hu
  split at hu
  · rename_i cells t' fr hb
    refine⟨b,off,cells,t',fr,rfl,hb,fun h=>(by cases h),fun j y hj=>?_⟩
    have hjl:j<len:=by have:=(List.getElem?_eq_some_iff.1 hj).1;simpa using this
    have hy:(f ⟨j,hjl⟩).1=y:=by
      rw[List.getElem?_ofFn] at hj
      simpa [hjl] using hj
    obtain⟨_,h2,h3⟩:=hf ⟨j,hjl⟩
    refine⟨(f ⟨j,hjl⟩).2,h2,by rw[← hy];exact h3,fun i u hi=>?_⟩
    have:=hc ⟨j,hjl⟩ i u hi
    rw[bB hb] at this
    exact this
  · cases hu
theorem jf{α:Type}{R:World→α→List Value→Prop}{t e:TypeId}{sz fuel:Nat}{cs:List Value}{x:DataW H × List MemPlace}(ht:P.underlying t=some (.slice e))(hsz:P.cellsOf e=sz)(hp:0<sz)
    (hel:∀ n cs' y,cs'.length=sz→DataW.trod enc P w base spare held n e cs'=some y→∃ x,R w x cs') (h:DataW.trod enc P w base spare held fuel t cs=some x) : ∃ v xs,cs=[v]∧aS false e sz R w v xs :=
  sS (Pd:=fun _=>True) ht hsz hp (fun n cs' y h1 h2 _=>hel n cs' y h1 h2) (fun _ _ _ _ _=>trivial) h
end
section
variable {H:Type}{enc:TypeId × Value→H}{w:World}{base:Nat}{spare:Nat→Bool}{held:Bool}{n:Nat}{y:DataW H × List MemPlace}
theorem pT{n:Int}(h:(Lit.int .u16 n).wf=true) : 0≤n∧n<65536:=by
  have:=bounds_u16 h
  omega
theorem iA{cs:List Value}(h:DataW.trod enc Tryz.prog w base spare held n 5 cs=some y) : ∃ x,t9 w x cs:=by
  obtain⟨k,rfl,_,hw⟩:=DataW.trod_int Tryz.underlying5 h
  exact⟨k,rfl,rQ hw⟩
theorem eD{cs:List Value}(h:DataW.trod enc Tryz.prog w base spare held n 24 cs=some y) : ∃ x,rP w x cs:=by
  obtain⟨k,rfl,_,hw⟩:=DataW.trod_int Tryz.underlying24 h
  exact⟨k,rfl,pT hw⟩
theorem vi{cs:List Value}(h:DataW.trod enc Tryz.prog w base spare held n 4 cs=some y) : ∃ x,mB w x cs:=by
  obtain⟨k,rfl,_⟩:=DataW.trod_bool Tryz.underlying4 h
  exact⟨k,rfl⟩
theorem vT{cs:List Value}(h:DataW.trod enc Tryz.prog w base spare held n 22 cs=some y) : ∃ v xs,cs=[v]∧bh false w v xs:=jf Tryz.underlying22 (by kernel_rfl) (by decide) (fun _ _ _ _ h=>iA h) h
theorem th{cs:List Value}(h:DataW.trod enc Tryz.prog w base spare held n 25 cs=some y) : ∃ v xs,cs=[v]∧dP false w v xs:=jf Tryz.underlying25 (by kernel_rfl) (by decide) (fun _ _ _ _ h=>eD h) h
theorem uM{cs:List Value}(h:DataW.trod enc Tryz.prog w base spare held n 26 cs=some y) : ∃ v xs,cs=[v]∧hZ false w v xs:=jf Tryz.underlying26 (by kernel_rfl) (by decide) (fun _ _ _ _ h=>vi h) h
end
open Go.RowKit
theorem eH{cs:List Value}{o:Nat}{v:Value}(h:(cs.drop o).take 1=[v]) : cs.drop o=v :: cs.drop (o+1):=by
  cases hd:cs.drop o with
  | nil=>rw[hd] at h;cases h
  | cons a l =>
    rw[hd] at h
    have h1:a=v:=by simpa using h
    rw[h1,← List.drop_drop,hd]
    rfl
theorem iX{cs:List Value}{n:Nat}(h:cs.length=n) : cs.drop n=[]:=by rw[← h];simp
section
variable {H:Type}{enc:TypeId × Value→H}{w:World}{base:Nat}{spare:Nat→Bool}{held:Bool}{n:Nat}{y:DataW H × List MemPlace}
theorem wM{cs:List Value}(h:DataW.trod enc Tryz.prog w base spare held n 109 cs=some y) : ∃ x,bv false w x cs:=by
  obtain⟨xs,m,rfl,_,hlen,hxs,hf⟩:=DataW.trod_struct Tryz.underlying109 h
  rw[show Tryz.prog.cellsOf 109=4 from by kernel_rfl] at hlen
  replace hxs:xs.length=4:=hxs.trans (by kernel_rfl)
  obtain⟨y0,g0⟩ : ∃ y,xs[0]? = some y:=⟨_,List.getElem?_eq_getElem (show 0<xs.length by omega)⟩
  have f0:DataW.trod enc Tryz.prog w base spare held m 24 ((cs.drop 0).take (Tryz.prog.cellsOf 24))=xs[0]?:=hf 0 _ rfl
  rw[g0] at f0
  rw[show Tryz.prog.cellsOf 24=1 from by kernel_rfl] at f0
  obtain⟨x0,e0,r0⟩:=eD f0
  obtain⟨y1,g1⟩ : ∃ y,xs[1]? = some y:=⟨_,List.getElem?_eq_getElem (show 1<xs.length by omega)⟩
  have f1:DataW.trod enc Tryz.prog w base spare held m 24 ((cs.drop 1).take (Tryz.prog.cellsOf 24))=xs[1]?:=hf 1 _ rfl
  rw[g1] at f1
  rw[show Tryz.prog.cellsOf 24=1 from by kernel_rfl] at f1
  obtain⟨x1,e1,r1⟩:=eD f1
  obtain⟨y2,g2⟩ : ∃ y,xs[2]? = some y:=⟨_,List.getElem?_eq_getElem (show 2<xs.length by omega)⟩
  have f2:DataW.trod enc Tryz.prog w base spare held m 24 ((cs.drop 2).take (Tryz.prog.cellsOf 24))=xs[2]?:=hf 2 _ rfl
  rw[g2] at f2
  rw[show Tryz.prog.cellsOf 24=1 from by kernel_rfl] at f2
  obtain⟨x2,e2,r2⟩:=eD f2
  obtain⟨y3,g3⟩ : ∃ y,xs[3]? = some y:=⟨_,List.getElem?_eq_getElem (show 3<xs.length by omega)⟩
  have f3:DataW.trod enc Tryz.prog w base spare held m 25 ((cs.drop 3).take (Tryz.prog.cellsOf 25))=xs[3]?:=hf 3 _ rfl
  rw[g3] at f3
  rw[show Tryz.prog.cellsOf 25=1 from by kernel_rfl] at f3
  obtain⟨v3,l3,e3,r3⟩:=th f3
  have hcs:cs=[.int .u16 x0,.int .u16 x1,.int .u16 x2,v3]:=by
    show cs.drop 0=_
    rw[eH e0,eH e1,eH e2,eH e3,iX hlen]
  subst hcs
  exact⟨⟨x0,x1,x2,l3⟩,_,rfl,r3,r0,r1,r2⟩
theorem wy{cs:List Value}(h:DataW.trod enc Tryz.prog w base spare held n 27 cs=some y) : ∃ v xs,cs=[v]∧kZ false w v xs:=jf Tryz.underlying27 (by kernel_rfl) (by decide) (fun _ _ _ _ h=>wM h) h
theorem wa{cs:List Value}(h:DataW.trod enc Tryz.prog w base spare held n 111 cs=some y) : ∃ x,dp false w x cs:=by
  obtain⟨xs,m,rfl,_,hlen,hxs,hf⟩:=DataW.trod_struct Tryz.underlying111 h
  rw[show Tryz.prog.cellsOf 111=2 from by kernel_rfl] at hlen
  replace hxs:xs.length=2:=hxs.trans (by kernel_rfl)
  obtain⟨y0,g0⟩ : ∃ y,xs[0]? = some y:=⟨_,List.getElem?_eq_getElem (show 0<xs.length by omega)⟩
  have f0:DataW.trod enc Tryz.prog w base spare held m 5 ((cs.drop 0).take (Tryz.prog.cellsOf 5))=xs[0]?:=hf 0 _ rfl
  rw[g0] at f0
  rw[show Tryz.prog.cellsOf 5=1 from by kernel_rfl] at f0
  obtain⟨x0,e0,r0⟩:=iA f0
  obtain⟨y1,g1⟩ : ∃ y,xs[1]? = some y:=⟨_,List.getElem?_eq_getElem (show 1<xs.length by omega)⟩
  have f1:DataW.trod enc Tryz.prog w base spare held m 22 ((cs.drop 1).take (Tryz.prog.cellsOf 22))=xs[1]?:=hf 1 _ rfl
  rw[g1] at f1
  rw[show Tryz.prog.cellsOf 22=1 from by kernel_rfl] at f1
  obtain⟨v1,l1,e1,r1⟩:=vT f1
  have hcs:cs=[.int .u8 x0,v1]:=by
    show cs.drop 0=_
    rw[eH e0,eH e1,iX hlen]
  subst hcs
  exact⟨⟨x0,l1⟩,_,rfl,r1,r0⟩
theorem wj{cs:List Value}(h:DataW.trod enc Tryz.prog w base spare held n 28 cs=some y) : ∃ v xs,cs=[v]∧mj false w v xs:=jf Tryz.underlying28 (by kernel_rfl) (by decide) (fun _ _ _ _ h=>wa h) h
theorem u7{cs:List Value}(h:DataW.trod enc Tryz.prog w base spare held n 30 cs=some y) : ∃ M,aN false w cs M:=by
  obtain⟨xs,m,rfl,_,hlen,hxs,hf⟩:=DataW.trod_struct Tryz.underlying30 h
  rw[show Tryz.prog.cellsOf 30=22 from by kernel_rfl] at hlen
  replace hxs:xs.length=22:=hxs.trans (by kernel_rfl)
  obtain⟨y0,g0⟩ : ∃ y,xs[0]? = some y:=⟨_,List.getElem?_eq_getElem (show 0<xs.length by omega)⟩
  have f0:DataW.trod enc Tryz.prog w base spare held m 5 ((cs.drop 0).take (Tryz.prog.cellsOf 5))=xs[0]?:=hf 0 _ rfl
  rw[g0] at f0
  rw[show Tryz.prog.cellsOf 5=1 from by kernel_rfl] at f0
  obtain⟨x0,e0,r0⟩:=iA f0
  obtain⟨y1,g1⟩ : ∃ y,xs[1]? = some y:=⟨_,List.getElem?_eq_getElem (show 1<xs.length by omega)⟩
  have f1:DataW.trod enc Tryz.prog w base spare held m 5 ((cs.drop 1).take (Tryz.prog.cellsOf 5))=xs[1]?:=hf 1 _ rfl
  rw[g1] at f1
  rw[show Tryz.prog.cellsOf 5=1 from by kernel_rfl] at f1
  obtain⟨x1,e1,r1⟩:=iA f1
  obtain⟨y2,g2⟩ : ∃ y,xs[2]? = some y:=⟨_,List.getElem?_eq_getElem (show 2<xs.length by omega)⟩
  have f2:DataW.trod enc Tryz.prog w base spare held m 24 ((cs.drop 2).take (Tryz.prog.cellsOf 24))=xs[2]?:=hf 2 _ rfl
  rw[g2] at f2
  rw[show Tryz.prog.cellsOf 24=1 from by kernel_rfl] at f2
  obtain⟨x2,e2,r2⟩:=eD f2
  obtain⟨y3,g3⟩ : ∃ y,xs[3]? = some y:=⟨_,List.getElem?_eq_getElem (show 3<xs.length by omega)⟩
  have f3:DataW.trod enc Tryz.prog w base spare held m 24 ((cs.drop 3).take (Tryz.prog.cellsOf 24))=xs[3]?:=hf 3 _ rfl
  rw[g3] at f3
  rw[show Tryz.prog.cellsOf 24=1 from by kernel_rfl] at f3
  obtain⟨x3,e3,r3⟩:=eD f3
  obtain⟨y4,g4⟩ : ∃ y,xs[4]? = some y:=⟨_,List.getElem?_eq_getElem (show 4<xs.length by omega)⟩
  have f4:DataW.trod enc Tryz.prog w base spare held m 24 ((cs.drop 4).take (Tryz.prog.cellsOf 24))=xs[4]?:=hf 4 _ rfl
  rw[g4] at f4
  rw[show Tryz.prog.cellsOf 24=1 from by kernel_rfl] at f4
  obtain⟨x4,e4,r4⟩:=eD f4
  obtain⟨y5,g5⟩ : ∃ y,xs[5]? = some y:=⟨_,List.getElem?_eq_getElem (show 5<xs.length by omega)⟩
  have f5:DataW.trod enc Tryz.prog w base spare held m 24 ((cs.drop 5).take (Tryz.prog.cellsOf 24))=xs[5]?:=hf 5 _ rfl
  rw[g5] at f5
  rw[show Tryz.prog.cellsOf 24=1 from by kernel_rfl] at f5
  obtain⟨x5,e5,r5⟩:=eD f5
  obtain⟨y6,g6⟩ : ∃ y,xs[6]? = some y:=⟨_,List.getElem?_eq_getElem (show 6<xs.length by omega)⟩
  have f6:DataW.trod enc Tryz.prog w base spare held m 24 ((cs.drop 6).take (Tryz.prog.cellsOf 24))=xs[6]?:=hf 6 _ rfl
  rw[g6] at f6
  rw[show Tryz.prog.cellsOf 24=1 from by kernel_rfl] at f6
  obtain⟨x6,e6,r6⟩:=eD f6
  obtain⟨y7,g7⟩ : ∃ y,xs[7]? = some y:=⟨_,List.getElem?_eq_getElem (show 7<xs.length by omega)⟩
  have f7:DataW.trod enc Tryz.prog w base spare held m 24 ((cs.drop 7).take (Tryz.prog.cellsOf 24))=xs[7]?:=hf 7 _ rfl
  rw[g7] at f7
  rw[show Tryz.prog.cellsOf 24=1 from by kernel_rfl] at f7
  obtain⟨x7,e7,r7⟩:=eD f7
  obtain⟨y8,g8⟩ : ∃ y,xs[8]? = some y:=⟨_,List.getElem?_eq_getElem (show 8<xs.length by omega)⟩
  have f8:DataW.trod enc Tryz.prog w base spare held m 24 ((cs.drop 8).take (Tryz.prog.cellsOf 24))=xs[8]?:=hf 8 _ rfl
  rw[g8] at f8
  rw[show Tryz.prog.cellsOf 24=1 from by kernel_rfl] at f8
  obtain⟨x8,e8,r8⟩:=eD f8
  obtain⟨y9,g9⟩ : ∃ y,xs[9]? = some y:=⟨_,List.getElem?_eq_getElem (show 9<xs.length by omega)⟩
  have f9:DataW.trod enc Tryz.prog w base spare held m 24 ((cs.drop 9).take (Tryz.prog.cellsOf 24))=xs[9]?:=hf 9 _ rfl
  rw[g9] at f9
  rw[show Tryz.prog.cellsOf 24=1 from by kernel_rfl] at f9
  obtain⟨x9,e9,r9⟩:=eD f9
  obtain⟨ac,u⟩ : ∃ y,xs[10]? = some y:=⟨_,List.getElem?_eq_getElem (show 10<xs.length by omega)⟩
  have a:DataW.trod enc Tryz.prog w base spare held m 24 ((cs.drop 10).take (Tryz.prog.cellsOf 24))=xs[10]?:=hf 10 _ rfl
  rw[u] at a
  rw[show Tryz.prog.cellsOf 24=1 from by kernel_rfl] at a
  obtain⟨x10,v,x⟩:=eD a
  obtain⟨ad,z⟩ : ∃ y,xs[11]? = some y:=⟨_,List.getElem?_eq_getElem (show 11<xs.length by omega)⟩
  have b:DataW.trod enc Tryz.prog w base spare held m 24 ((cs.drop 11).take (Tryz.prog.cellsOf 24))=xs[11]?:=hf 11 _ rfl
  rw[z] at b
  rw[show Tryz.prog.cellsOf 24=1 from by kernel_rfl] at b
  obtain⟨x11,A,B⟩:=eD b
  obtain⟨ae,C⟩ : ∃ y,xs[12]? = some y:=⟨_,List.getElem?_eq_getElem (show 12<xs.length by omega)⟩
  have c:DataW.trod enc Tryz.prog w base spare held m 25 ((cs.drop 12).take (Tryz.prog.cellsOf 25))=xs[12]?:=hf 12 _ rfl
  rw[C] at c
  rw[show Tryz.prog.cellsOf 25=1 from by kernel_rfl] at c
  obtain⟨p,D,E,F⟩:=th c
  obtain⟨af,G⟩ : ∃ y,xs[13]? = some y:=⟨_,List.getElem?_eq_getElem (show 13<xs.length by omega)⟩
  have d:DataW.trod enc Tryz.prog w base spare held m 26 ((cs.drop 13).take (Tryz.prog.cellsOf 26))=xs[13]?:=hf 13 _ rfl
  rw[G] at d
  rw[show Tryz.prog.cellsOf 26=1 from by kernel_rfl] at d
  obtain⟨q,H,I,J⟩:=uM d
  obtain⟨ag,K⟩ : ∃ y,xs[14]? = some y:=⟨_,List.getElem?_eq_getElem (show 14<xs.length by omega)⟩
  have e:DataW.trod enc Tryz.prog w base spare held m 22 ((cs.drop 14).take (Tryz.prog.cellsOf 22))=xs[14]?:=hf 14 _ rfl
  rw[K] at e
  rw[show Tryz.prog.cellsOf 22=1 from by kernel_rfl] at e
  obtain⟨r,L,N,O⟩:=vT e
  obtain⟨ah,P⟩ : ∃ y,xs[15]? = some y:=⟨_,List.getElem?_eq_getElem (show 15<xs.length by omega)⟩
  have f:DataW.trod enc Tryz.prog w base spare held m 27 ((cs.drop 15).take (Tryz.prog.cellsOf 27))=xs[15]?:=hf 15 _ rfl
  rw[P] at f
  rw[show Tryz.prog.cellsOf 27=1 from by kernel_rfl] at f
  obtain⟨s,Q,R,S⟩:=wy f
  obtain⟨ai,T⟩ : ∃ y,xs[16]? = some y:=⟨_,List.getElem?_eq_getElem (show 16<xs.length by omega)⟩
  have g:DataW.trod enc Tryz.prog w base spare held m 5 ((cs.drop 16).take (Tryz.prog.cellsOf 5))=xs[16]?:=hf 16 _ rfl
  rw[T] at g
  rw[show Tryz.prog.cellsOf 5=1 from by kernel_rfl] at g
  obtain⟨x16,U,V⟩:=iA g
  obtain⟨aj,W⟩ : ∃ y,xs[17]? = some y:=⟨_,List.getElem?_eq_getElem (show 17<xs.length by omega)⟩
  have i:DataW.trod enc Tryz.prog w base spare held m 5 ((cs.drop 17).take (Tryz.prog.cellsOf 5))=xs[17]?:=hf 17 _ rfl
  rw[W] at i
  rw[show Tryz.prog.cellsOf 5=1 from by kernel_rfl] at i
  obtain⟨x17,X,Y⟩:=iA i
  obtain⟨ak,Z⟩ : ∃ y,xs[18]? = some y:=⟨_,List.getElem?_eq_getElem (show 18<xs.length by omega)⟩
  have j:DataW.trod enc Tryz.prog w base spare held m 5 ((cs.drop 18).take (Tryz.prog.cellsOf 5))=xs[18]?:=hf 18 _ rfl
  rw[Z] at j
  rw[show Tryz.prog.cellsOf 5=1 from by kernel_rfl] at j
  obtain⟨x18,a0,a1⟩:=iA j
  obtain⟨al,a2⟩ : ∃ y,xs[19]? = some y:=⟨_,List.getElem?_eq_getElem (show 19<xs.length by omega)⟩
  have k:DataW.trod enc Tryz.prog w base spare held m 5 ((cs.drop 19).take (Tryz.prog.cellsOf 5))=xs[19]?:=hf 19 _ rfl
  rw[a2] at k
  rw[show Tryz.prog.cellsOf 5=1 from by kernel_rfl] at k
  obtain⟨x19,a3,a4⟩:=iA k
  obtain⟨am,a5⟩ : ∃ y,xs[20]? = some y:=⟨_,List.getElem?_eq_getElem (show 20<xs.length by omega)⟩
  have l:DataW.trod enc Tryz.prog w base spare held m 5 ((cs.drop 20).take (Tryz.prog.cellsOf 5))=xs[20]?:=hf 20 _ rfl
  rw[a5] at l
  rw[show Tryz.prog.cellsOf 5=1 from by kernel_rfl] at l
  obtain⟨x20,a6,a7⟩:=iA l
  obtain⟨an,a8⟩ : ∃ y,xs[21]? = some y:=⟨_,List.getElem?_eq_getElem (show 21<xs.length by omega)⟩
  have o:DataW.trod enc Tryz.prog w base spare held m 28 ((cs.drop 21).take (Tryz.prog.cellsOf 28))=xs[21]?:=hf 21 _ rfl
  rw[a8] at o
  rw[show Tryz.prog.cellsOf 28=1 from by kernel_rfl] at o
  obtain⟨t,a9,aa,ab⟩:=wj o
  have hcs:cs=[.int .u8 x0,.int .u8 x1,.int .u16 x2,.int .u16 x3,.int .u16 x4,.int .u16 x5,.int .u16 x6,.int .u16 x7,.int .u16 x8,.int .u16 x9,.int .u16 x10,.int .u16 x11,p,q,r,s,.int .u8 x16,.int .u8 x17,.int .u8 x18,.int .u8 x19,.int .u8 x20,t]:=by
    show cs.drop 0=_
    rw[eH e0,eH e1,eH e2,eH e3,eH e4,eH e5,eH e6,eH e7,eH e8,eH e9,eH v,eH A,eH E,eH I,eH N,eH R,eH U,eH X,eH a0,eH a3,eH a6,eH aa,iX hlen]
  subst hcs
  exact⟨⟨x0,x1,x2,x3,x4,x5,x6,x7,x8,x9,x10,x11,D,H,L,Q,x16,x17,x18,x19,x20,a9⟩,p,q,r,s,t,rfl,F,J,O,S,ab,⟨r0,r1,r2,r3,r4,r5,r6,r7,r8,r9,x,B,V,Y,a1,a4,a7⟩⟩
end
open Go.RowKit
section
variable {H:Type}{enc:TypeId × Value→H}{w:World}{base:Nat}{spare:Nat→Bool}{held:Bool}{n:Nat}{y:DataW H × List MemPlace}
theorem s7{cs:List Value}(h:DataW.trod enc Tryz.prog w base spare held n 42 cs=some y) : ∃ u t,cs=[.int .u8 u,.int .u16 t]∧(0≤u∧u<256)∧(0≤t∧t<65536):=by
  obtain⟨xs,m,rfl,_,hlen,hxs,hf⟩:=DataW.trod_struct Tryz.underlying42 h
  rw[show Tryz.prog.cellsOf 42=2 from by kernel_rfl] at hlen
  replace hxs:xs.length=2:=hxs.trans (by kernel_rfl)
  obtain⟨y0,g0⟩ : ∃ y,xs[0]? = some y:=⟨_,List.getElem?_eq_getElem (show 0<xs.length by omega)⟩
  have f0:DataW.trod enc Tryz.prog w base spare held m 5 ((cs.drop 0).take (Tryz.prog.cellsOf 5))=xs[0]?:=hf 0 _ rfl
  rw[g0] at f0
  rw[show Tryz.prog.cellsOf 5=1 from by kernel_rfl] at f0
  obtain⟨x0,e0,r0⟩:=iA f0
  obtain⟨y1,g1⟩ : ∃ y,xs[1]? = some y:=⟨_,List.getElem?_eq_getElem (show 1<xs.length by omega)⟩
  have f1:DataW.trod enc Tryz.prog w base spare held m 24 ((cs.drop 1).take (Tryz.prog.cellsOf 24))=xs[1]?:=hf 1 _ rfl
  rw[g1] at f1
  rw[show Tryz.prog.cellsOf 24=1 from by kernel_rfl] at f1
  obtain⟨x1,e1,r1⟩:=eD f1
  have hcs:cs=[.int .u8 x0,.int .u16 x1]:=by
    show cs.drop 0=_
    rw[eH e0,eH e1,iX hlen]
  exact⟨x0,x1,hcs,r0,r1⟩
theorem sL{cs:List Value}(h:DataW.trod enc Tryz.prog w base spare held n 44 cs=some y) : ∃ u t M c,cs=[.int .u8 u,.int .u16 t]++c∧aN false w c M∧(0≤u∧u<256)∧(0≤t∧t<65536):=by
  obtain⟨xs,m,rfl,_,hlen,hxs,hf⟩:=DataW.trod_struct Tryz.underlying44 h
  rw[show Tryz.prog.cellsOf 44=24 from by kernel_rfl] at hlen
  replace hxs:xs.length=2:=hxs.trans (by kernel_rfl)
  obtain⟨y0,g0⟩ : ∃ y,xs[0]? = some y:=⟨_,List.getElem?_eq_getElem (show 0<xs.length by omega)⟩
  have f0:DataW.trod enc Tryz.prog w base spare held m 42 ((cs.drop 0).take (Tryz.prog.cellsOf 42))=xs[0]?:=hf 0 _ rfl
  rw[g0] at f0
  rw[show Tryz.prog.cellsOf 42=2 from by kernel_rfl] at f0
  obtain⟨u,t,e0,hu,ht⟩:=s7 f0
  obtain⟨y1,g1⟩ : ∃ y,xs[1]? = some y:=⟨_,List.getElem?_eq_getElem (show 1<xs.length by omega)⟩
  have f1:DataW.trod enc Tryz.prog w base spare held m 30 ((cs.drop 2).take (Tryz.prog.cellsOf 30))=xs[1]?:=hf 1 _ rfl
  rw[g1] at f1
  rw[show Tryz.prog.cellsOf 30=22 from by kernel_rfl] at f1
  obtain⟨M,hM⟩:=u7 f1
  refine⟨u,t,M,(cs.drop 2).take 22,?_,hM,hu,ht⟩
  rw[← e0,List.take_of_length_le (show(cs.drop 2).length≤22 by rw[List.length_drop];omega)]
  exact(List.take_append_drop 2 cs).symm
open Go.WideShapes in
theorem uE{v:Value}{d:DataW H}{p:List MemPlace}(hv:∃ b0,Value.okWide Tryz.prog w .any b0 44 v)(h:DataW.Trod enc Tryz.prog w base spare held 44 v d p) : ∃ u t M x,v = .agg (pz u t M x)∧aN false w (oM M x).toList M∧(0≤u∧u<256)∧(0≤t∧t<65536):=by
  obtain⟨b0,hv⟩:=hv
  obtain⟨cs,rfl,hsz⟩:=okWide_struct Tryz.underlying44 hv
  obtain⟨fuel,hf⟩:=h
  obtain⟨u,t,M,c,e0,hM,hu,ht⟩:=sL hf
  obtain⟨x,hx⟩:=ph (cs:=c.toArray) (by simpa using hM)
  refine⟨u,t,M,x,?_,?_,hu,ht⟩
  · rw[mU,← hx]
    congr 1
    apply Array.toList_inj.1
    rw[show cs.toList=_ from e0]
    simp
  · rw[← hx]
    simpa using hM
end
end Go.Proofs.YtogbnemojakcpaaGreat
