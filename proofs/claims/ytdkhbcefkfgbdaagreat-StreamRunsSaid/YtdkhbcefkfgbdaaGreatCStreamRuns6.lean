/- Contracts of functions, part CStreamRuns6. -/
import Derived.Test.YtdkhbcefkfgbdaaGreatCStreamRuns1
import Derived.Test.YtdkhbcefkfgbdaaGreatCStreamRuns2
import Derived.Test.YtdkhbcefkfgbdaaGreatCStreamRuns3
import Derived.Test.YtdkhbcefkfgbdaaGreatCStreamRuns4
import Derived.Test.YtdkhbcefkfgbdaaGreatCStreamRuns5
import Derived.Deep.Slices
import Derived.ChangeArms
import Derived.WideShapes
import Derived.SizedLaws
set_option linter.unusedVariables false
set_option linter.unusedSimpArgs false
set_option maxRecDepth 100000
set_option maxHeartbeats 4000000
namespace Go.Proofs.YtdkhbcefkfgbdaaGreat
open Go.RowKit
def fX (d:Int)(b:List Int) : SS:=if b.length≤256 then ⟨d,b,false⟩ else ⟨d,[],true⟩
def yp (b x:List Int) : List Ev:=if b.length≤256∧256<(b++x).length then [Ev.bad 3] else []
def vD (d:Int)(b:List Int) : List Ev:=if b.length≤256 then dI d b true else []
theorem tw(d:Int)(b:List Int) : (fX d b).held.length=if b.length≤256 then b.length else 0:=by
  unfold fX
  split<;>rfl
theorem uP(d:Int)(b x:List Int) : SS.feed (fX d b) x=(fX d (b++x),yp b x):=by
  unfold fX yp SS.feed
  by_cases h:b.length≤256
  · rw[if_pos h]
    dsimp only
    rw[if_neg (by decide)]
    by_cases h2:(b++x).length≤256
    · have:=h2;rw[List.length_append] at this
      rw[if_pos (by rw[decide_eq_true_eq];omega),if_pos h2,if_neg (by omega)]
    · have:=h2;rw[List.length_append] at this
      rw[if_neg (by rw[decide_eq_true_eq];omega),if_neg h2,if_pos ⟨h,by omega⟩]
  · rw[if_neg h]
    dsimp only
    rw[if_pos rfl,if_neg (by rw[List.length_append];omega),if_neg (fun q=>h q.1)]
theorem zJ(d:Int)(b:List Int) : SS.tick (fX d b)=(fX d [],vD d b):=by
  by_cases h:b.length≤256
  · have e1:fX d b=⟨d,b,false⟩:=if_pos h
    have e2:vD d b=dI d b true:=if_pos h
    have e3:decide (256<(b.length:Int))=false:=decide_eq_false (by omega)
    rw[e1,e2]
    unfold SS.tick dI
    rw[e3]
    by_cases h2:b.length=0
    · have e4:((b.length:Int)==0)=true:=by rw[beq_iff_eq];omega
      rw[e4,if_pos h2]
      rfl
    · have e4:((b.length:Int)==0)=false:=by rw[beq_eq_false_iff_ne];omega
      rw[e4,if_neg h2]
      rfl
  · have e1:fX d b=⟨d,[],true⟩:=if_neg h
    have e2:vD d b=[]:=if_neg h
    rw[e1,e2]
    rfl
theorem qh(d:Int)(b:List Int) : dI d b false=if 256<b.length then [Ev.bad 3] else []:=by
  unfold dI
  by_cases h:256<b.length
  · rw[if_pos h,if_pos (by rw[decide_eq_true_eq];omega)]
  · rw[if_neg h,if_neg (by rw[decide_eq_true_eq];omega),if_pos (by simp)]
theorem sn(d:Int)(b x:List Int) : dI d b false++yp b x=dI d (b++x) false:=by
  rw[qh,qh]
  unfold yp
  by_cases h:256<b.length
  · rw[if_pos h,if_neg (by omega),if_pos (by rw[List.length_append];omega),List.append_nil]
  · rw[if_neg h,List.nil_append]
    by_cases h2:256<(b++x).length
    · rw[if_pos ⟨by omega,h2⟩,if_pos h2]
    · rw[if_neg (fun q=>h2 q.2),if_neg h2]
theorem y5(d:Int)(b:List Int) : dI d b false++vD d b=dI d b true:=by
  rw[qh]
  unfold vD
  by_cases h:256<b.length
  · rw[if_pos h,if_neg (by omega),List.append_nil]
    unfold dI
    rw[if_pos (by rw[decide_eq_true_eq];omega)]
  · rw[if_neg h,if_pos (by omega),List.nil_append]
def dB (k d:Int)(s:List Int × List Ev)(p:Pc) : List Int × List Ev:=bif (k==0)&&p.tick then ([],s.2++dI d (s.1++p.bytes) true) else (s.1++p.bytes,s.2)
def er (k d:Int)(ps:List Pc) : List Int × List Ev:=ps.foldl (dB k d) ([],[])
def u7 (b:List Int) : Nat:=if b.length≤256 then b.length else 0
def fT (k d:Int)(s:List Int × List Ev) : List Ev × Nat:=bif k==0 then (s.2++dI d s.1 false,u7 s.1) else bif k==1 then hM d s.1 else bif k==2 then dV d s.1.length s.1 else ([],0)
def ek (k d:Int)(ps:List Pc) : List Ev × Nat:=fT k d (er k d ps)
variable {d k:Int}{ps:List Pc}
theorem gZ{i:Nat}(hi:i<ps.length) : er k d (ps.take (i+1))=dB k d (er k d (ps.take i)) (ps.getD i Pc.z):=by
  unfold er
  rw[fy hi,List.foldl_append]
  rfl
abbrev g7 (p:XS × List Ev) (c:Pc) : XS × List Ev:=((p.1.take c.bytes c.tick).1,p.2++(p.1.take c.bytes c.tick).2)
theorem o4{d:Int}:∀ (ps:List Pc)(b:List Int)(o:List Ev),ps.foldl g7 (.r (fX d b),o++dI d b false)=(.r (fX d (ps.foldl (dB 0 d) (b,o)).1),(ps.foldl (dB 0 d) (b,o)).2++dI d (ps.foldl (dB 0 d) (b,o)).1 false)
  | [],b,o=>rfl
  | p :: ps,b,o=>by
    rw[List.foldl_cons,List.foldl_cons]
    cases ht:p.tick with
    | false =>
      have e1:g7 (.r (fX d b),o++dI d b false) p=(.r (fX d (b++p.bytes)),o++dI d (b++p.bytes) false):=by
        unfold g7 XS.take XS.feed
        rw[ht]
        show((XS.r (SS.feed (fX d b) p.bytes).1),(o++dI d b false)++(SS.feed (fX d b) p.bytes).2)=_
        rw[uP,List.append_assoc,sn]
      have e2:dB 0 d (b,o) p=(b++p.bytes,o):=by
        unfold dB
        rw[ht]
        rfl
      rw[e1,e2]
      exact o4 ps _ _
    | true =>
      have e1:g7 (.r (fX d b),o++dI d b false) p=(.r (fX d []),(o++dI d (b++p.bytes) true)++dI d [] false):=by
        unfold g7 XS.take XS.feed XS.tick
        rw[ht]
        show((XS.r (SS.tick (SS.feed (fX d b) p.bytes).1).1),(o++dI d b false)++((SS.feed (fX d b) p.bytes).2++(SS.tick (SS.feed (fX d b) p.bytes).1).2))=_
        rw[uP,zJ,show dI d [] false=[] from rfl,List.append_nil,← y5,← sn]
        simp only[List.append_assoc]
      have e2:dB 0 d (b,o) p=([],o++dI d (b++p.bytes) true):=by
        unfold dB
        rw[ht]
        rfl
      rw[e1,e2]
      exact o4 ps _ _
variable {b:List Int}
theorem yU{S:SA}{a:List Int}:S.feed (a++b)=(((S.feed a).1.feed b).1,(S.feed a).2++((S.feed a).1.feed b).2):=by
  have gen:∀ (b:List Int) (T:SA) (K:List Ev),b.foldl (fun(p:SA × List Ev) c=>((p.1.byte c).1,p.2++(p.1.byte c).2)) (T,K)=((T.feed b).1,K++(T.feed b).2):=by
    intro b
    induction b with
    | nil=>intro T K;simp[SA.feed]
    | cons c t ih =>
      intro T K
      unfold SA.feed
      rw[List.foldl_cons,List.foldl_cons,ih,ih]
      simp
  rw[show S.feed (a++b)=b.foldl (fun(p:SA × List Ev) c=>((p.1.byte c).1,p.2++(p.1.byte c).2)) (S.feed a) from by unfold SA.feed;rw[List.foldl_append]]
  exact gen b _ _
theorem xZ{S:SM}{a:List Int}:S.feed (a++b)=(((S.feed a).1.feed b).1,(S.feed a).2++((S.feed a).1.feed b).2):=by
  have gen:∀ (b:List Int) (T:SM) (K:List Ev),b.foldl (fun(p:SM × List Ev) c=>((p.1.byte c).1,p.2++(p.1.byte c).2)) (T,K)=((T.feed b).1,K++(T.feed b).2):=by
    intro b
    induction b with
    | nil=>intro T K;simp[SM.feed]
    | cons c t ih =>
      intro T K
      unfold SM.feed
      rw[List.foldl_cons,List.foldl_cons,ih,ih]
      simp
  rw[show S.feed (a++b)=b.foldl (fun(p:SM × List Ev) c=>((p.1.byte c).1,p.2++(p.1.byte c).2)) (S.feed a) from by unfold SM.feed;rw[List.foldl_append]]
  exact gen b _ _
theorem fK{k d:Int}(hk:(k==0)=false) : ∀ (ps:List Pc)(b:List Int)(o:List Ev),ps.foldl (dB k d) (b,o)=(b++(ps.map Pc.bytes).flatten,o)
  | [],b,o=>by simp
  | p :: ps,b,o=>by
    rw[List.foldl_cons,show dB k d (b,o) p=(b++p.bytes,o) from by unfold dB;rw[hk];rfl,fK hk ps]
    simp
theorem zm{S:SA}:∀ (ps:List Pc)(b:List Int)(K:List Ev),(K=(S.feed b).2)→ps.foldl g7 (.a (S.feed b).1,K)=(.a (S.feed (b++(ps.map Pc.bytes).flatten)).1,(S.feed (b++(ps.map Pc.bytes).flatten)).2)
  | [],b,K,h=>by simp[h]
  | p :: ps,b,K,h=>by
    rw[List.foldl_cons]
    have e1:g7 (.a (S.feed b).1,K) p=(.a (S.feed (b++p.bytes)).1,(S.feed (b++p.bytes)).2):=by
      unfold g7 XS.take XS.feed XS.tick
      rw[yU,h]
      cases p.tick<;>simp
    rw[e1,zm ps (b++p.bytes) _ rfl]
    simp
theorem zo{S:SM}:∀ (ps:List Pc)(b:List Int)(K:List Ev),(K=(S.feed b).2)→ps.foldl g7 (.m (S.feed b).1,K)=(.m (S.feed (b++(ps.map Pc.bytes).flatten)).1,(S.feed (b++(ps.map Pc.bytes).flatten)).2)
  | [],b,K,h=>by simp[h]
  | p :: ps,b,K,h=>by
    rw[List.foldl_cons]
    have e1:g7 (.m (S.feed b).1,K) p=(.m (S.feed (b++p.bytes)).1,(S.feed (b++p.bytes)).2):=by
      unfold g7 XS.take XS.feed XS.tick
      rw[xZ,h]
      cases p.tick<;>simp
    rw[e1,zo ps (b++p.bytes) _ rfl]
    simp
theorem si(hr:∀ x,x∈b→0≤x∧x<256) : dV d b.length b=(((SM.mk d [] 0).feed b).2,((SM.mk d [] 0).feed b).1.held.length):=by
  obtain⟨S',h1,h2⟩:=jH (d:=d) b.length b (Nat.le_refl _) hr
  rw[h1]
  exact Prod.ext rfl h2.symm
theorem wq(hk:k=0∨k=1∨k=2)(hr:∀ x,x∈(ps.map Pc.bytes).flatten→0≤x∧x<256) : ek k d ps=((XS.run (XS.zero k d) ps).2,(XS.run (XS.zero k d) ps).1.held.length):=by
  unfold ek er XS.run
  rcases hk with rfl|rfl|rfl
  · have e:ps.foldl g7 (XS.zero 0 d,[])=_:=o4 (d:=d) ps [] []
    show fT 0 d _=((ps.foldl g7 (XS.zero 0 d,[])).2,(ps.foldl g7 (XS.zero 0 d,[])).1.held.length)
    rw[e]
    unfold fT u7
    show(_,_)=_
    rw[show ∀ S:SS,(XS.r S).held=S.held from fun _=>rfl,tw]
  · have e:ps.foldl g7 (XS.zero 1 d,[])=_:=zm (S:=SA.mk d []) ps [] [] rfl
    show fT 1 d _=((ps.foldl g7 (XS.zero 1 d,[])).2,(ps.foldl g7 (XS.zero 1 d,[])).1.held.length)
    rw[e,fK rfl]
    rfl
  · have e:ps.foldl g7 (XS.zero 2 d,[])=_:=zo (S:=SM.mk d [] 0) ps [] [] rfl
    show fT 2 d _=((ps.foldl g7 (XS.zero 2 d,[])).2,(ps.foldl g7 (XS.zero 2 d,[])).1.held.length)
    rw[e,fK rfl,List.nil_append]
    unfold fT
    show dV d _ _=_
    rw[si hr]
    rfl
theorem jg{e:Bool}:(dI d b e).length≤1:=by
  unfold dI
  split
  · exact Nat.le_refl _
  split
  · exact Nat.zero_le _
  · exact Nat.le_refl _
theorem rT{k d:Int}:∀ (ps:List Pc)(s:List Int × List Ev),(ps.foldl (dB k d) s).2.length≤s.2.length+ps.length
  | [],s=>Nat.le_refl _
  | p :: ps,s=>by
    rw[List.foldl_cons]
    have h:=rT (k:=k) (d:=d) ps (dB k d s p)
    have h2:(dB k d s p).2.length≤s.2.length+1:=by
      unfold dB
      cases (k==0)&&p.tick
      · exact Nat.le_succ _
      · show(s.2++_).length≤_
        rw[List.length_append]
        exact Nat.add_le_add_left jg _
    rw[List.length_cons]
    omega
theorem mT:∀ ps:List Pc,((ps.map Pc.bytes).flatten).length=el ps
  | []=>rfl
  | p :: ps=>by
    have h:=mT ps
    show(p.bytes++(ps.map Pc.bytes).flatten).length=p.bytes.length+gM (ps.map Pc.bytes)
    rw[List.length_append,h]
    rfl
theorem v3(hr:∀ x,x∈(ps.map Pc.bytes).flatten→0≤x∧x<256) : (ek k d ps).1.length≤el ps+ps.length+1:=by
  unfold ek fT
  by_cases h0:(k==0)=true
  · have h:=rT (k:=k) (d:=d) ps ([],[])
    have h2:=jg (d:=d) (b:=(er k d ps).1) (e:=false)
    have h3:(er k d ps).2.length≤0+ps.length:=h
    rw[h0]
    show((er k d ps).2++_).length≤_
    rw[List.length_append]
    omega
  have h0:(k==0)=false:=by simpa using h0
  have hf:(er k d ps).1=(ps.map Pc.bytes).flatten:=by
    unfold er
    rw[fK h0]
    rfl
  have hl:=mT ps
  rw[h0,hf]
  by_cases h1:(k==1)=true
  · rw[h1]
    have h:((SA.mk d []).feed (ps.map Pc.bytes).flatten).2.length≤(ps.map Pc.bytes).flatten.length:=SA.feed_le (S:=SA.mk d []) (b:=(ps.map Pc.bytes).flatten) ⟨fun x hx=>(by cases hx),Nat.zero_le _⟩ hr rfl
    show((SA.mk d []).feed _).2.length≤_
    omega
  have h1:(k==1)=false:=by simpa using h1
  rw[h1]
  by_cases h2:(k==2)=true
  · rw[h2]
    have h:((SM.mk d [] 0).feed (ps.map Pc.bytes).flatten).2.length≤(ps.map Pc.bytes).flatten.length:=SM.feed_le (S:=SM.mk d [] 0) (b:=(ps.map Pc.bytes).flatten) ⟨⟨Int.le_refl _,(show(0:Int)<65536 by decide)⟩,fun x hx=>(by cases hx),.inl (by show 0<6;decide)⟩ hr rfl
    show(dV d _ _).1.length≤_
    rw[si hr]
    show((SM.mk d [] 0).feed _).2.length≤_
    omega
  have h2:(k==2)=false:=by simpa using h2
  rw[h2]
  exact Nat.zero_le _
def o9 (k d:Int) : Bool:=(decide (0≤k)&&decide (k≤2))&&((d==0)||(d==1))
def lb (k d:Int)(ps:List Pc) : List Ev × Nat:=bif o9 k d then ek k d ps else ([],0)
theorem zf(h:o9 k d=true) : (k=0∨k=1∨k=2)∧(d=0∨d=1):=by
  unfold o9 at h
  simp at h
  omega
theorem zh(h:o9 k d=false) : (o7 k==0)=true∨((d != 0)&&(d != 1))=true:=by
  by_cases hk:k=0∨k=1∨k=2
  · refine .inr ?_
    unfold o9 at h
    rcases hk with rfl|rfl|rfl<;>simpa using h
  · refine .inl ?_
    unfold o7
    rw[show(k==0)=false by rw[beq_eq_false_iff_ne];omega,show(k==1)=false by rw[beq_eq_false_iff_ne];omega,show(k==2)=false by rw[beq_eq_false_iff_ne];omega]
    rfl
theorem xu(hr:∀ x,x∈(ps.map Pc.bytes).flatten→0≤x∧x<256) : (lb k d ps).1.length≤el ps+ps.length+1:=by
  unfold lb
  cases o9 k d
  · exact Nat.zero_le _
  · exact v3 hr
theorem xp(hd:d=0∨d=1) : ek k d ps=lb k d ps:=by
  unfold lb
  cases h:o9 k d with
  | true=>rfl
  | false =>
    have hk:=(zh h).resolve_right (by rcases hd with rfl | rfl<;>decide)
    have h0:(k==0)=false:=by rw[beq_eq_false_iff_ne];rintro rfl;revert hk;decide
    have h1:(k==1)=false:=by rw[beq_eq_false_iff_ne];rintro rfl;revert hk;decide
    have h2:(k==2)=false:=by rw[beq_eq_false_iff_ne];rintro rfl;revert hk;decide
    unfold ek fT
    rw[h0,h1,h2]
    rfl
open Go.RowKit
section
variable {n n2 p:Nat}{w w':World}{A A2 B:Option Addr}{X:List Nat}{x:Ev}{cs:List Value}
def pS (A:Option Addr)(n:Nat)(X:List Nat)(w:World) : Prop:=∀ y,y∈X→n≤y∨y∈ob A∨∃ cells t fr,w.heap[y]? = some (.cells cells t fr)∧t∉ff
def gJ (A:Option Addr)(n:Nat)(w:World)(x:Ev)(cs:List Value) : Prop:=n≤w.heap.size∧∀ (w':World)(X:List Nat),aD X w w'→pS A n X w→cI true w' x cs
theorem gJ.ev(h:gJ A n w x cs) : cI true w x cs:=h.2 w [] (aD.refl _ _) (fun y hy=>by cases hy)
theorem gJ.upd(hu:aD X w w')(ha:pS A n X w)(h:gJ A n w x cs) : gJ A n w' x cs:=by
  refine⟨Nat.le_trans h.1 hu.size,fun w2 X2 hu2 ha2=>h.2 w2 (X++X2) ?_ ?_⟩
  · exact aD.trans' (aD.mono hu (fun y hy=>.inl (List.mem_append_left _ hy))) hu2 (fun y hy=>.inl (List.mem_append_right _ hy))
  · intro y hy
    rcases List.mem_append.1 hy with hy|hy
    · exact ha y hy
    · rcases ha2 y hy with k | k | ⟨cells,t,fr,k1,k2⟩
      · exact .inl k
      · exact .inr (.inl k)
      · by_cases hl:y<w.heap.size
        · by_cases hX:y∈X
          · exact ha y hX
          · exact .inr (.inr ⟨cells,t,fr,by rw[← hu.block y hl hX];exact k1,k2⟩)
        · exact .inl (Nat.le_trans h.1 (by omega))
theorem gJ.row(hA:∀ y,y∈ob A2→y∈ob A∨n≤y)(hn:n≤n2)(hs:n2≤w.heap.size)(h:gJ A n w x cs) : gJ A2 n2 w x cs:=⟨hs,fun w' X hu ha=>h.2 w' X hu fun y hy=>by
  rcases ha y hy with k|k|k
  · exact .inl (Nat.le_trans hn k)
  · exact(hA y k).elim (fun q=>.inr (.inl q)) .inl
  · exact .inr (.inr k)⟩
theorem gJ.of(hA:∀ y,y∈ob A→y<p∧∃ cells t fr,w.heap[y]? = some (.cells cells t fr))(h:bz p n w x cs) : gJ A n w x cs:=⟨h.1,fun w' X hu ha=>(h.2 w' X hu fun y hy=>by
  rcases ha y hy with k|k|⟨c,t,fr,k,q⟩
  · exact .inl k
  · obtain⟨h1,c,t,fr,h2⟩:=hA y k
    exact .inr ⟨c,t,fr,h2,.inr h1⟩
  · exact .inr ⟨c,t,fr,k,.inl q⟩).tt⟩
theorem gJ.ones:∀ (x:Ev)(cs:List Value),gJ A n w x cs→∀ v,v∈cs→v.oneCell'=true:=fun x cs h=>cI.ones x cs h.ev
abbrev u6 (A:Option Addr) (n base:Nat) (w:World) (v:Value) (xs:List Ev) : Prop:=aQ base 87 25 (gJ A n) w v xs
theorem u6.own{base:Nat}{v:Value}{xs:List Ev}(h:u6 A n base w v xs) : lT base w v xs:=aQ.map h fun _ _ q=>q.ev
theorem eX:pS A n [] w:=fun y hy=>by cases hy
theorem qg(k:pS A n X w) : pS A n (ob A++X) w:=fun y hy=>(List.mem_append.1 hy).elim (fun q=>.inr (.inl q)) (k y)
theorem qQ{α:Type}{base sz m c:Nat}{e:TypeId}{R:World→α→List Value→Prop}{xs:List α}(h:aQ base e sz R w (.slice B m c) xs)(ht:ff.contains e=false)(k:pS A n X w) : pS A n (ob B++X) w:=fun y hy=>by
  rcases List.mem_append.1 hy with hy|hy
  · rcases dF h with rfl | ⟨g,cells,rfl,_,h1⟩
    · simp[ob] at hy
    · simp[ob] at hy
      subst hy
      exact .inr (.inr ⟨_,_,_,h1,by simpa using ht⟩)
  · exact k y hy
theorem vq{m:Nat}(hat:∀ y,y∈ob A2→y∈ob A∨m≤y)(hn:n≤m) : ∀ y,y∈ob A2→y∈ob A∨n≤y:=fun y hy=>(hat y hy).imp_right (Nat.le_trans hn)
end
open Go.RowKit
theorem ip(a c:Int)(t:List Int) : (al.mk (a :: c :: t) false 0).wordV=a*256+c∧(al.mk (a :: c :: t) false 0).wordsC 1=⟨t,false,0⟩:=by
  have hb:¬ (al.mk (a :: c :: t) false 0).wbad 1=true:=by
    unfold al.wbad
    simp only[Bool.or_eq_true,decide_eq_true_eq,List.length_cons,not_or]
    omega
  have hf:¬ (al.mk (a :: c :: t) false 0).fails (2*1)=true:=by
    unfold al.fails
    simp only[Bool.or_eq_true,decide_eq_true_eq,List.length_cons,not_or]
    exact⟨⟨by decide,by decide⟩,by omega⟩
  constructor
  · unfold al.wordV al.wordsR al.bytesR
    rw[if_neg hb,if_neg hf]
    show(c6 [a,c]).getD 0 0=_
    unfold c6
    rw[if_pos (by simp)]
    rfl
  · unfold al.wordsC al.bytesC
    rw[if_neg hb,if_neg hf]
    rfl
theorem s8(a:Int)(t:List Int) : (al.mk (a :: t) false 0).byteV=a∧(al.mk (a :: t) false 0).bytesC 1=⟨t,false,0⟩:=wQ (b:=a :: t) (by simp)
theorem t5(t:List Int) : (al.mk t false 0).bytesR ((t.length:Nat) : Int)=t:=by
  have hf:¬ (al.mk t false 0).fails ((t.length:Nat) : Int)=true:=by
    unfold al.fails
    simp only[Bool.or_eq_true,decide_eq_true_eq,not_or]
    exact⟨⟨by decide,by omega⟩,by omega⟩
  unfold al.bytesR
  rw[if_neg hf]
  simp
def eG (dir:Int)(b:List Int) : bq × Int :=
  if dir != 0&&dir != 1 then (bq.zero,1)
  else if decide ((b.length:Int)<8) then (bq.zero,2)
  else if decide (260<(b.length:Int)) then (bq.zero,3)
  else if (b.getD 2 0 != 0)||(b.getD 3 0 != 0) then (bq.zero,13)
  else if ((256*b.getD 4 0)+b.getD 5 0)!=(b.length:Int)-6 then (bq.zero,5)
  else bQ (b.getD 6 0) ((((256*b.getD 0 0)%65536)+b.getD 1 0)%65536) (di dir (b.drop 7))
theorem eU{dir:Int}{b:List Int}(hr:∀ x,x∈b→0≤x∧x<256) : eG dir b=cg dir b:=by
  unfold eG cg
  split
  · rfl
  split
  · rfl
  rename_i hl
  split
  · rfl
  obtain⟨a0,a1,a2,a3,a4,a5,a6,t,rfl⟩ : ∃ a0 a1 a2 a3 a4 a5 a6 t,b=a0 :: a1 :: a2 :: a3 :: a4 :: a5 :: a6 :: t:=by
    rcases b with _|⟨a0,_|⟨a1,_|⟨a2,_|⟨a3,_|⟨a4,_|⟨a5,_|⟨a6,t⟩⟩⟩⟩⟩⟩⟩
    case cons.cons.cons.cons.cons.cons.cons=>exact⟨_,_,_,_,_,_,_,_,rfl⟩
    all_goals simp at hl
  have h0:=hr a0 (by simp)
  have h1:=hr a1 (by simp)
  have h2:=hr a2 (by simp)
  have h3:=hr a3 (by simp)
  have h4:=hr a4 (by simp)
  have h5:=hr a5 (by simp)
  have e1:xa (a0 :: a1 :: a2 :: a3 :: a4 :: a5 :: a6 :: t)=⟨a2 :: a3 :: a4 :: a5 :: a6 :: t,false,0⟩:=(ip _ _ _).2
  have e2:v4 (a0 :: a1 :: a2 :: a3 :: a4 :: a5 :: a6 :: t)=⟨a4 :: a5 :: a6 :: t,false,0⟩:=by unfold v4;rw[e1];exact(ip _ _ _).2
  have e3:wb (a0 :: a1 :: a2 :: a3 :: a4 :: a5 :: a6 :: t)=⟨a6 :: t,false,0⟩:=by unfold wb;rw[e2];exact(ip _ _ _).2
  have e4:w4 (a0 :: a1 :: a2 :: a3 :: a4 :: a5 :: a6 :: t)=⟨t,false,0⟩:=by unfold w4;rw[e3];exact(s8 _ _).2
  have v0:(x9 (a0 :: a1 :: a2 :: a3 :: a4 :: a5 :: a6 :: t)).wordV=a0*256+a1:=(ip _ _ _).1
  unfold nP
  rw[e1,e2,e3,e4,v0,(ip _ _ _).1,(ip _ _ _).1,(s8 _ _).1,t5]
  show(if (a2 != 0)||(a3 != 0) then _ else if ((256*a4)+a5)!=_ then _ else bQ a6 ((((256*a0)%65536)+a1)%65536) (di dir t))=_
  rw[show((a2 != 0)||(a3 != 0))=(a2*256+a3 != 0) from by rw[Bool.eq_iff_iff];simp only[Bool.or_eq_true,bne_iff_ne,ne_eq];omega,show(256*a4)+a5=a4*256+a5 from by omega,show(((256*a0)%65536)+a1)%65536=a0*256+a1 from by omega]
def fC (dir:Int)(b:List Int) : bq × Int :=
  if dir != 0&&dir != 1 then (bq.zero,1)
  else if decide ((b.length:Int)<9) then (bq.zero,2)
  else if decide (513<(b.length:Int)) then (bq.zero,3)
  else if ((b.getD 0 0 != 58)||(b.getD ((b.length:Int)-2).toNat 0 != 13))||(b.getD ((b.length:Int)-1).toNat 0 != 10) then (bq.zero,12)
  else match bO ((b.take ((b.length:Int)-2).toNat).drop 1) with
    | none=>(bq.zero,11)
    | some x=>if !(ew x) then (bq.zero,10) else bQ (x.getD 0 0) 0 (di dir ((x.take ((x.length:Int)-1).toNat).drop 1))
theorem xg{b:List Int}(h:3≤b.length) : fZ (b.drop 1)=((b.getD ((b.length:Int)-2).toNat 0==13)&&(b.getD ((b.length:Int)-1).toNat 0==10)):=by
  unfold fZ
  rw[show((((b.drop 1).length:Nat) : Int)-2).toNat=b.length-3 from by simp only[List.length_drop];omega,List.drop_drop,show 1+(b.length-3)=b.length-2 from by omega,show((b.length:Int)-2).toNat=b.length-2 from by omega,show((b.length:Int)-1).toNat=b.length-2+1 from by omega,decide_eq_true (show 2≤(((b.drop 1).length:Nat) : Int) from by simp only[List.length_drop];omega),Bool.true_and]
  have e:b.drop (b.length-2)=[b.getD (b.length-2) 0,b.getD (b.length-2+1) 0]:=by
    apply List.ext_getElem
    · simp;omega
    · intro i h1 h2
      simp only[List.length_cons,List.length_nil] at h2
      rw[List.getElem_drop]
      rcases i with _|_|i
      · simp[List.getD_eq_getElem?_getD,List.getElem?_eq_getElem (show b.length-2<b.length by omega)]
      · simp[List.getD_eq_getElem?_getD,List.getElem?_eq_getElem (show b.length-2+1<b.length by omega)]
      · omega
  rw[e,Bool.eq_iff_iff]
  simp only[decide_eq_true_eq,List.cons.injEq,and_true,Bool.and_eq_true,beq_iff_eq]
theorem eS{dir:Int}{b:List Int}:fC dir b=dZ dir b:=by
  unfold fC dZ
  split
  · rfl
  split
  · rfl
  rename_i hl
  have hl:9≤b.length:=by
    have:=of_decide_eq_false (by simpa using hl:decide ((b.length:Int)<9)=false)
    omega
  split
  · rfl
  have h2:=xg (b:=b) (by omega)
  by_cases hc:(((b.getD 0 0 != 58)||(b.getD ((b.length:Int)-2).toNat 0 != 13))||(b.getD ((b.length:Int)-1).toNat 0 != 10))=true
  · rw[if_pos hc]
    have hd:gO b=none:=by
      unfold gO
      rw[if_neg]
      rintro⟨k1,k2⟩
      rw[h2] at k2
      simp only[Bool.or_eq_true,bne_iff_ne,ne_eq,Bool.and_eq_true,beq_iff_eq] at hc k2
      rcases hc with(hc|hc) | hc
      · exact hc k1
      · exact hc k2.1
      · exact hc k2.2
    rw[hd]
  · rw[if_neg hc]
    simp only[Bool.or_eq_true,bne_iff_ne,ne_eq,not_or,Decidable.not_not] at hc
    have hd:gO b=some ((b.take ((b.length:Int)-2).toNat).drop 1):=by
      unfold gO
      rw[if_pos ⟨hc.1.1,by rw[h2,hc.1.2,hc.2];rfl⟩,List.drop_take,show((b.length:Int)-2).toNat-1=b.length-3 from by omega]
    rw[hd]
    dsimp only
    cases bO ((b.take ((b.length:Int)-2).toNat).drop 1) with
    | none=>rfl
    | some x=>dsimp only;rw[iN]
open Go.RowKit
theorem m7.old{base:Nat}{w w':World}{v:Value}{xs:List Int}(h:m7 base w v xs)(hu:aD [] w w') : m7 base w' v xs:=by
  obtain⟨g,cap,cur,n,h1,h2,h3,h4⟩:=h
  exact⟨g,cap,cur,n,h1,h2,hu.blk (by simp) h3,h4⟩
section
variable {P:Program}{n:Nat}{D:List Deferred}{F:Fr}{w:World}{K:Fr→World→Prop}{Q:Exit→Act→World→Prop}{d:Option Tmp}{t:TypeId}{s:String}{af:Array Edge}{gu:Option (Nat × Bool)}
end
open Go.RowKit
theorem vL{w:World}{c:Int}(hc:0≤c∧c<256) : Calls Tryz.prog 118 #[vB c] w (bD (vI (bP c)) w):=by
 refine en 23 Tryz.func118 rfl<|ax 1<|sq<|bk<|ak 3<|cV 3 [6] 9 6 (decide (48≤c)) (decide (c≤57)) (fun K d e=>?_) ?_
 have l:=of_decide_eq_true e
 exact Pl 3<|ce d _ rfl
 refine aj 1<|cb (((decide (48≤c))&&(decide (c≤57)))) (fun a=>?_) (fun a=>?_)
 have f:=(aR a).1
 have g:=(aR a).2
 have m:=of_decide_eq_true f
 have n:=of_decide_eq_true g
 refine ak 1<|b6 c<|b6 (c-48)<|aj 1<|rt<|br<|tr<|rr (vI (c-48))<|?_
 have hs:bP c=(c-48):=by unfold bP;(try simp only[Bool.and_eq_true,decide_eq_true_eq,Bool.and_eq_false_iff,decide_eq_false_iff_not] at *);(repeat' split)<;>omega
 rw[hs]
 exact⟨rfl,(aD.refl [] _)⟩
 refine ak 3<|cV 3 [16] 19 16 (decide (65≤c)) (decide (c≤70)) (fun K h i=>?_) ?_
 have o:=of_decide_eq_true i
 exact Pl 3<|ce h _ rfl
 refine aj 1<|cb (((decide (65≤c))&&(decide (c≤70)))) (fun b=>?_) (fun b=>?_)
 have j:=(aR b).1
 have k:=(aR b).2
 have p:=of_decide_eq_true j
 have q:=of_decide_eq_true k
 refine ak 1<|b6 c<|b6 (c-55)<|aj 1<|rt<|br<|tr<|rr (vI (c-55))<|?_
 have hs:bP c=(c-55):=by unfold bP;(try simp only[Bool.and_eq_true,decide_eq_true_eq,Bool.and_eq_false_iff,decide_eq_false_iff_not] at *);(repeat' split)<;>omega
 rw[hs]
 exact⟨rfl,(aD.refl [] _)⟩
 refine sk<|bn<|tn<|ax 1<|rt<|rr (vI (-1))<|?_
 have hs:bP c = -1:=by unfold bP;(try simp only[Bool.and_eq_true,decide_eq_true_eq,Bool.and_eq_false_iff,decide_eq_false_iff_not] at *);(repeat' split)<;>omega
 rw[hs]
 exact⟨rfl,(aD.refl [] _)⟩
theorem rC(c:Int) : -1≤bP c:=by
  unfold bP
  (repeat' split)<;>omega
theorem uN{xs:List Int}{w:World}(hr:eZ xs)(hl:xs.length≤1048576) :
    Calls Tryz.prog 84 #[.string (strOfNums xs)] w (fQ xs w):=by
 refine en 43 Tryz.func84 rfl<|ax 2<|sq<|ak 1<|L0<|Oe (vI (((strOfNums xs).size:Nat) : Int)) (vI (xs.length:Int)) (by rw[strOfNums_size])<|L0<|Oe (vI (Int.tmod (xs.length:Int) 2)) (vI ((xs.length:Int)%2)) (congrArg (Value.int .i64) (Int.tmod_eq_emod_of_nonneg (by omega)))<|Pl 1<|nl<|tn<|cb ((((xs.length:Int)%2)==1)) (fun b=>?_) (fun b=>?_)
 have t:=am b
 refine ax 2<|bh<|rr (.tuple #[nS,vI 11])<|?_
 have hs:bO xs=none:=jV (by omega)
 exact kL hs ⟨rfl,(aD.refl [] _)⟩
 have t:=au b
 refine bp<|ax 1<|sq<|ax 1<|bk<|fE (fun x=>[(0,.string (strOfNums xs)),(4,.slice x.2.2.1 x.2.1.length x.2.2.2),(5,vI ((2*x.1:Nat) : Int))]) (fun(x:Nat × List Int × Option Addr × Nat) w'=>aD [] w w'∧du w.heap.size w' (.slice x.2.2.1 x.2.1.length x.2.2.2) x.2.1∧(2*x.1≤xs.length)∧(bO xs=(bO (xs.drop (2*x.1))).map fun l=>x.2.1++l)∧(x.2.1.length=x.1)) (fun x=>xs.length-2*x.1) (0,[],none,0) ⟨aD.refl _ _,(aQ.nil w.heap.size _ _ ma _),(by(try dsimp only);omega),(by(try dsimp only);simp),(by(try dsimp only);rfl)⟩ ?_
 rintro⟨k,L,B,cq⟩ u ⟨d,v,y,z,A⟩
 refine eH [(0,.string (strOfNums xs)),(4,.slice B L.length cq),(5,vI ((2*k:Nat) : Int))] ?_
 have f:du w.heap.size u (.slice B L.length cq) L:=v
 have Q:2*k≤xs.length:=y
 have R:bO xs=(bO (xs.drop (2*k))).map fun l=>L++l:=z
 have S:L.length=k:=A
 have hL:bO xs=(bO (xs.drop (2*k))).map fun l=>L++l:=by assumption
 refine sq<|ak 1<|b6 (((2*k:Nat) : Int)+1)<|Pl 1<|L0<|Oe (vI (((strOfNums xs).size:Nat) : Int)) (vI (xs.length:Int)) (by rw[strOfNums_size])<|aj 1<|cb ((decide ((((2*k:Nat) : Int)+1)<(xs.length:Int)))) (fun g=>?_) (fun g=>?_)
 have C:=of_decide_eq_true g
 refine bp<|sq<|bk<|ak 2<|L0<|f9 (vB (xs.getD (2*k) 0)) (j0 (xs:=xs) (k:=.i64) (i:=((2*k:Nat) : Int)) (2*k) rfl Tryz.underlying9 (by kernel_rfl) (by kernel_rfl) hr rfl (by omega))<|?_
 have T:=j6 (xs.getD (2*k) 0)
 have U:=rC (xs.getD (2*k) 0)
 refine az<|m1 (vL (c:=(xs.getD (2*k) 0)) (w:=_) (eC (by omega) hr _)) fun V n=>Pl 1<|aL 2<|b6 (((2*k:Nat) : Int)+1)<|L0<|f9 (vB (xs.getD ((((2*k:Nat) : Int)+1)).toNat 0)) (j0 (xs:=xs) (k:=.i64) (i:=(((2*k:Nat) : Int)+1)) ((((2*k:Nat) : Int)+1)).toNat rfl Tryz.underlying9 (by kernel_rfl) (by kernel_rfl) hr (by omega) (by omega))<|?_
 have W:=j6 (xs.getD ((((2*k:Nat) : Int)+1)).toNat 0)
 have X:=rC (xs.getD ((((2*k:Nat) : Int)+1)).toNat 0)
 refine az<|m1 (vL (c:=(xs.getD ((((2*k:Nat) : Int)+1)).toNat 0)) (w:=_) (eC (by omega) hr _)) fun Y o=>aj 1<|sq<|ak 3<|eE 3 [30] 33 30 ((bP (xs.getD (2*k) 0))==(-1)) ((bP (xs.getD ((((2*k:Nat) : Int)+1)).toNat 0))==(-1)) (fun K D E=>?_) ?_
 have Z:=au E
 exact Pl 3<|ce D _ rfl
 refine nt<|?_
 have p:=aM n o
 have r:=aM d p
 refine cb ((((bP (xs.getD (2*k) 0))==(-1))||((bP (xs.getD ((((2*k:Nat) : Int)+1)).toNat 0))==(-1)))) (fun a=>?_) (fun a=>?_)
 refine ax 2<|bh<|br<|tr<|tr<|br<|tr<|rr (.tuple #[nS,vI 11])<|?_
 have hs:bO xs=none:=pz (k:=k) hL (by omega) (by have q:=a;simp only[Bool.or_eq_true,beq_iff_eq] at q;rw[show 2*k+1=(((2*k:Nat) : Int)+1).toNat from by omega];omega)
 exact kL hs ⟨rfl,r⟩
 have F:=(cv a).1
 have G:=(cv a).2
 have a0:=au F
 have a1:=au G
 refine bp<|go<|Pl 2<|b6 (16*(bP (xs.getD (2*k) 0)))<|Pl 1<|b6 ((16*(bP (xs.getD (2*k) 0)))+(bP (xs.getD ((((2*k:Nat) : Int)+1)).toNat 0)))<|Pl 1<|L0<|ep (m:=1) (e:=5) #[vB (((16*(bP (xs.getD (2*k) 0)))+(bP (xs.getD ((((2*k:Nat) : Int)+1)).toNat 0)))%256)] fun a2 a3 H I j=>?_
 have J:=kv H (xs:=[(((16*(bP (xs.getD (2*k) 0)))+(bP (xs.getD ((((2*k:Nat) : Int)+1)).toNat 0)))%256)]) (by as_aux_lemma=>kernel_rfl) (aV (by omega) dc) (by(try simp only[List.length_cons,List.length_nil]);omega) I
 refine L0<|vh jL (xs:=L) (ys:=([(((16*(bP (xs.getD (2*k) 0)))+(bP (xs.getD ((((2*k:Nat) : Int)+1)).toNat 0)))%256)])) (vB 0) 1 (ai f (aM p j) (fun x hx=>ay) (fun _ _ h=>h)) (J).rd (by(try simp only[cD,aN]);omega) (le (le (le d.size n.size) o.size) j.size) fun M N a4 O P=>Pl 1<|nl<|bn<|tn<|go<|Pl 1<|b6 (((2*k:Nat) : Int)+2)<|Pl 1<|nl<|?_
 have s:=kS (k:=k) hL (by omega) (by omega) (by rw[show 2*k+1=(((2*k:Nat) : Int)+1).toNat from by omega];omega)
 rw[show 2*k+1=(((2*k:Nat) : Int)+1).toNat from by omega] at s
 exact dH ((k+1),(L++[(((16*(bP (xs.getD (2*k) 0)))+(bP (xs.getD ((((2*k:Nat) : Int)+1)).toNat 0)))%256)]),M,N) ⟨(ut r (ut (aD.mono (S':=(ob B++[])) j aA) P (aB il aA)) (aB (bE f lr) aA)),O,(by(try dsimp only);omega),s,(by(try dsimp only);simp only[cD];omega)⟩ (by omega)
 have C:=of_decide_eq_false g
 refine xt<|tx<|tx<|bx<|tn<|ax 3<|rt<|rr (.tuple #[.slice B L.length cq,vI 0])<|?_
 have hs:bO xs=some L:=mW hL (by omega)
 exact s5 hs ⟨_,rfl,f,d⟩
theorem xn{m:Md}{A:Option Addr}{cp:Nat}{b:List Int}{w:World}(hsl:aO m w (.slice A b.length cp) b) :
    Calls Tryz.prog 119 #[.slice A b.length cp] w (bD (vB (iv b)) w):=by
 have hln:=aI.len hsl
 have hb:=aO.range hsl
 refine en 23 Tryz.func119 rfl<|ak 1<|cy 1<|sq<|ax 1<|bk<|fE (fun x=>[(0,.slice A b.length cp),(2,vB 0),(3,vI (gw b x)),(4,vI (x:Int))]) (fun(x:Nat) w'=>aD [] w w'∧(x≤b.length)) (fun x=>b.length-x) 0 ⟨aD.refl _ _,(by(try dsimp only);omega)⟩ ?_
 rintro k j ⟨a,d⟩
 refine eH [(0,.slice A b.length cp),(2,vB 0),(3,vI (gw b k)),(4,vI (k:Int))] ?_
 have l:k≤b.length:=d
 have hlr:=wx b k
 refine sq<|ax 4<|cb ((decide ((k:Int)<(b.length:Int)))) (fun c=>?_) (fun c=>?_)
 have e:=of_decide_eq_true c
 refine bp<|sq<|bk<|go<|Pl 3<|?_
 exact ea (aO.at_ (aO.old hsl a) k (by omega)) fun f g h i n=>L0<|iV b.length k h (by omega)<|L0<|dX (p:=⟨f,g+k,none⟩) (v:=vB (b.getD k 0)) i<|b6 (b.getD k 0)<|b6 ((gw b k)+(b.getD k 0))<|L0<|Oe (vI (Int.tmod ((gw b k)+(b.getD k 0)) 256)) (vI (((gw b k)+(b.getD k 0))%256)) (congrArg (Value.int .i64) (Int.tmod_eq_emod_of_nonneg (by omega)))<|Pl 1<|nl<|bn<|tn<|go<|Pl 1<|b6 ((k:Int)+1)<|Pl 1<|nl<|dH (k+1) ⟨a,(by(try dsimp only);omega)⟩ (by omega)
 have e:=of_decide_eq_false c
 refine xt<|tx<|tx<|bx<|tn<|ak 1<|b6 (256-(gw b k))<|L0<|Oe (vI (Int.tmod (256-(gw b k)) 256)) (vI ((256-(gw b k))%256)) (congrArg (Value.int .i64) (Int.tmod_eq_emod_of_nonneg (by omega)))<|aj 2<|rt<|rr (vB (((256-(gw b k))%256)%256))<|?_
 have hk:k=b.length:=by omega
 subst hk
 have hs:iv b=(((256-(gw b b.length))%256)%256):=by unfold iv yN;omega
 rw[hs]
 exact⟨rfl,a⟩
theorem xk{m:Md}{A:Option Addr}{cp:Nat}{b:List Int}{w:World}(hsl:aO m w (.slice A b.length cp) b) :
    Calls Tryz.prog 85 #[.slice A b.length cp] w (bD (.bool (ew b)) w):=by
 have hln:=aI.len hsl
 refine en 9 Tryz.func85 rfl<|ax 1<|sq<|ax 3<|cb (((b.length:Int)==0)) (fun a=>?_) (fun a=>?_)
 have c:=am a
 refine ax 1<|bh<|rr (.bool false)<|?_
 have hs:ew b=false:=by unfold ew;rw[decide_eq_false (by omega)];rfl
 rw[hs]
 exact⟨rfl,(aD.refl [] _)⟩
 have c:=au a
 refine bp<|ak 1<|az (args:=#[.slice A b.length cp])<|m1 (xn hsl) fun e d=>aj 2<|rt<|rr (.bool ((iv b)==0))<|?_
 have hs:ew b=((iv b)==0):=by unfold ew;rw[decide_eq_true (by omega)];rfl
 rw[hs]
 exact⟨rfl,d⟩
open Go.RowKit
def oZ (res:bq × Int)(w:World)(e:Ending)(w':World) : Prop:=∃ cs,e = .returned (.tuple #[.agg cs,.int .i64 res.2])∧zk true w' cs res.1∧aD [] w w'
theorem fN{x y:bq × Int}(h:x=y){w:World}{e:Ending}{w':World}(k:oZ y w e w') : oZ x w e w':=by rw[h];exact k
theorem ez{x:Int}{w W:World}(hu:aD [] w W) : oZ (bq.zero,x) w (.returned (.tuple #[.agg uD,.int .i64 x])) W:=⟨_,rfl,⟨kQ,(by kernel_rfl),aS.zero ..,(show(0:Int)≤0∧(0:Int)<256 from by decide),(show(0:Int)≤0∧(0:Int)<65536 from by decide)⟩,hu⟩
theorem oz{m:Md}{A:Option Addr}{cp:Nat}{b:List Int}{w:World}{dir:Int}(hsl:aO m w (.slice A b.length cp) b)(hb:b.length≤1048576)(hcp:b.length≤cp) :
    Calls Tryz.prog 57 #[vI dir,.slice A b.length cp] w (oZ (dZ dir b) w):=by
 have hln:(b.length:Int)≤1048576:=by omega
 have hr:eZ b:=aO.range hsl
 refine en 86 Tryz.func57 rfl<|sg<|aK #[vB 0,vW 0,vB 0,vB 0,vW 0,vW 0,vW 0,vW 0,vW 0,vW 0,vW 0,vW 0,vW 0,vW 0,nS,nS,nS,nS,vB 0,vB 0,vB 0,vB 0,vB 0,nS] fun bw R l f q=>Pl 1<|cy 3<|sq<|sq<|go<|Pl 3<|cV 3 [16] 19 16 (dir != 0) (dir != 1) (fun K a8 a9=>?_) ?_
 have bx:=av a9
 exact Pl 3<|ce a8 _ rfl
 refine nt<|cb (((dir != 0)&&(dir != 1))) (fun i=>?_) (fun i=>?_)
 have S:=(aR i).1
 have T:=(aR i).2
 have bz:=av S
 have bA:=av T
 refine ak 1<|aE f #[vB 0,vW 0,vB 0,vB 0,vW 0,vW 0,vW 0,vW 0,vW 0,vW 0,vW 0,vW 0,vW 0,vW 0,nS,nS,nS,nS,vB 0,vB 0,vB 0,vB 0,vB 0,nS] fun bC ac ae=>aj 1<|bh<|bV ac (vI 1)<|?_
 have hs:fC dir b=(bq.zero,1):=by
   unfold fC
   (try simp only[i,S,T,bj,bQ,reduceIte])
   all_goals rfl
 rw[← eS]
 refine fN hs ?_
 exact ez (ud q ae l)
 refine bp<|sq<|ax 2<|cb ((decide ((b.length:Int)<9))) (fun j=>?_) (fun j=>?_)
 have af:=of_decide_eq_true j
 refine ak 1<|aE f #[vB 0,vW 0,vB 0,vB 0,vW 0,vW 0,vW 0,vW 0,vW 0,vW 0,vW 0,vW 0,vW 0,vW 0,nS,nS,nS,nS,vB 0,vB 0,vB 0,vB 0,vB 0,nS] fun bD al am=>aj 1<|bh<|bV al (vI 2)<|?_
 have hs:fC dir b=(bq.zero,2):=by
   unfold fC
   (try simp only[i,j,bj,bQ,reduceIte])
   all_goals rfl
 rw[← eS]
 refine fN hs ?_
 exact ez (ud q am l)
 have af:=of_decide_eq_false j
 refine bp<|sq<|ax 2<|cb ((decide (513<(b.length:Int)))) (fun k=>?_) (fun k=>?_)
 have an:=of_decide_eq_true k
 refine ak 1<|aE f #[vB 0,vW 0,vB 0,vB 0,vW 0,vW 0,vW 0,vW 0,vW 0,vW 0,vW 0,vW 0,vW 0,vW 0,nS,nS,nS,nS,vB 0,vB 0,vB 0,vB 0,vB 0,nS] fun bE ap aq=>aj 1<|bh<|bV ap (vI 3)<|?_
 have hs:fC dir b=(bq.zero,3):=by
   unfold fC
   (try simp only[i,j,k,bj,bQ,reduceIte])
   all_goals rfl
 rw[← eS]
 refine fN hs ?_
 exact ez (ud q aq l)
 have an:=of_decide_eq_false k
 refine bp<|sq<|ak 1<|?_
 have t:=aO.old hsl q
 refine ea (aO.at_ t 0 (by omega)) fun au aA aB aD bF=>L0<|iV b.length 0 aB (by omega)<|L0<|dX (p:=⟨au,aA+0,none⟩) (v:=vB (b.getD 0 0)) aD<|Pl 2<|bl 31 (((b.getD 0 0)!=58)) (fun o=>?_) (fun o=>?_)
 have aF:=av o
 refine aj 15<|c1<|ak 1<|aE f #[vB 0,vW 0,vB 0,vB 0,vW 0,vW 0,vW 0,vW 0,vW 0,vW 0,vW 0,vW 0,vW 0,vW 0,nS,nS,nS,nS,vB 0,vB 0,vB 0,vB 0,vB 0,nS] fun bH aH aI=>aj 1<|bh<|bV aH (vI 12)<|?_
 have hs:fC dir b=(bq.zero,12):=by
   unfold fC
   (try simp only[i,j,k,o,bj,bQ,reduceIte])
   all_goals rfl
 rw[← eS]
 refine fN hs ?_
 exact ez (ud q aI l)
 have aF:=aJ o
 refine Pl 2<|L1<|Oi ((b.length:Int)-2)<|ea (aO.at_ t ((((b.length:Int)-2)).toNat) (by omega)) fun aL aN aP aQ bI=>L1<|iZ b.length ((((b.length:Int)-2)).toNat) ((b.length:Int)-2) (by omega) aP (by omega)<|L1<|dX (p:=⟨aL,aN+((((b.length:Int)-2)).toNat),none⟩) (v:=vB (b.getD ((((b.length:Int)-2)).toNat) 0)) aQ<|Pl 3<|bl 39 (((b.getD ((((b.length:Int)-2)).toNat) 0)!=13)) (fun r=>?_) (fun r=>?_)
 have aT:=av r
 refine aj 7<|c1<|ak 1<|aE f #[vB 0,vW 0,vB 0,vB 0,vW 0,vW 0,vW 0,vW 0,vW 0,vW 0,vW 0,vW 0,vW 0,vW 0,nS,nS,nS,nS,vB 0,vB 0,vB 0,vB 0,vB 0,nS] fun bJ aU aV=>aj 1<|bh<|bV aU (vI 12)<|?_
 have hs:fC dir b=(bq.zero,12):=by
   unfold fC
   (try simp only[i,j,k,o,r,bj,bQ,reduceIte])
   all_goals rfl
 rw[← eS]
 refine fN hs ?_
 exact ez (ud q aV l)
 have aT:=aJ r
 refine Pl 2<|L1<|Oi ((b.length:Int)-1)<|ea (aO.at_ t ((((b.length:Int)-1)).toNat) (by omega)) fun aX aZ b0 b1 bK=>L1<|iZ b.length ((((b.length:Int)-1)).toNat) ((b.length:Int)-1) (by omega) b0 (by omega)<|L1<|dX (p:=⟨aX,aZ+((((b.length:Int)-1)).toNat),none⟩) (v:=vB (b.getD ((((b.length:Int)-1)).toNat) 0)) b1<|aj 2<|cb (((b.getD ((((b.length:Int)-1)).toNat) 0)!=10)) (fun s=>?_) (fun s=>?_)
 have b2:=av s
 refine ak 1<|aE f #[vB 0,vW 0,vB 0,vB 0,vW 0,vW 0,vW 0,vW 0,vW 0,vW 0,vW 0,vW 0,vW 0,vW 0,nS,nS,nS,nS,vB 0,vB 0,vB 0,vB 0,vB 0,nS] fun bL b3 b4=>aj 1<|bh<|bV b3 (vI 12)<|?_
 have hs:fC dir b=(bq.zero,12):=by
   unfold fC
   (try simp only[i,j,k,o,r,s,bj,bQ,reduceIte])
   all_goals rfl
 rw[← eS]
 refine fN hs ?_
 exact ez (ud q b4 l)
 have b2:=aJ s
 refine bp<|ak 2<|b6 ((b.length:Int)-2)<|iy (eh (P:=Tryz.prog) 27 5 1 Tryz.underlying27 rfl rfl A b.length cp (lo:=1) (up:=((b.length:Int)-2)) 1 ((((b.length:Int)-2)).toNat) (by omega) (by omega) (by omega) (by omega) (by omega)) fun U hrun64 G=>L0<|f9 (.slice U (((((b.length:Int)-2)).toNat)-1) (cp-1)) (d9 (kl:=.i64) (kh:=.i64) (lo:=1) (hi:=((b.length:Int)-2)) (A:=A) (n:=b.length) (c:=cp) rfl Tryz.underlying27 (by kernel_rfl) (by kernel_rfl) (by kernel_rfl) (hrun64 _ _ _))<|L0<|f9 (.string (strOfNums ((b.take ((((b.length:Int)-2)).toNat)).drop 1))) (cm (A:=U) (n:=(((((b.length:Int)-2)).toNat)-1)) (c:=(cp-1)) rfl (by kernel_rfl) Tryz.underlying27 Tryz.underlying5 Tryz.underlying9 (G _ _ _ _ _ t))<|?_
 rcases hth:bO ((b.take ((((b.length:Int)-2)).toNat)).drop 1) with _|x
 have b5:=(uN (w:=R) (aO.range (G _ _ _ _ _ t)) (by rw[List.length_drop,List.length_take];omega)).mono (oT hth)
 refine az<|m1 b5 fun bM V=>aj 5<|sq<|ax 2<|c1<|ak 2<|?_
 refine aE (ub V f) #[vB 0,vW 0,vB 0,vB 0,vW 0,vW 0,vW 0,vW 0,vW 0,vW 0,vW 0,vW 0,vW 0,vW 0,nS,nS,nS,nS,vB 0,vB 0,vB 0,vB 0,vB 0,nS] fun bN b7 b9=>aj 1<|bh<|bV b7 (vI 11)<|?_
 have hs:fC dir b=(bq.zero,11):=by
   unfold fC
   (try simp only[i,j,k,o,r,s,bj,bQ,hth,reduceIte])
   all_goals rfl
 rw[← eS]
 refine fN hs ?_
 exact ez (ud q (uz V b9) l)
 have hxl:2*x.length=(((b.take ((((b.length:Int)-2)).toNat)).drop 1)).length:=by have:=mS hth;omega
 have hxl2:(((b.take ((((b.length:Int)-2)).toNat)).drop 1)).length=b.length-3:=by rw[List.length_drop,List.length_take];omega
 have ba:=(uN (w:=R) (aO.range (G _ _ _ _ _ t)) (by rw[List.length_drop,List.length_take];omega)).mono (oE hth)
 refine az<|nk ba fun H C bP I bR bS W=>aj 5<|sq<|ax 2<|c0<|bp<|sq<|go<|Pl 1<|az (args:=#[.slice H x.length C])<|m1 (xk (I).rd) fun bT J=>aj 1<|sq<|ax 2<|?_
 have z:=aM W J
 have X:=aM q z
 refine cb ((!(ew x))) (fun u=>?_) (fun u=>?_)
 have D:(ew x)=false:=by simpa using u
 refine ak 1<|?_
 refine aE (ub z f) #[vB 0,vW 0,vB 0,vB 0,vW 0,vW 0,vW 0,vW 0,vW 0,vW 0,vW 0,vW 0,vW 0,vW 0,nS,nS,nS,nS,vB 0,vB 0,vB 0,vB 0,vB 0,nS] fun bU bb bc=>aj 1<|bh<|bV bb (vI 10)<|?_
 have hs:fC dir b=(bq.zero,10):=by
   unfold fC
   (try simp only[i,j,k,o,r,s,u,D,bj,bQ,hth,reduceIte])
   all_goals rfl
 rw[← eS]
 refine fN hs ?_
 exact ez (ud X bc l)
 have D:(ew x)=true:=by simpa using u
 refine bp<|ak 4<|b6 ((x.length:Int)-1)<|iy (eh (P:=Tryz.prog) 27 5 1 Tryz.underlying27 rfl rfl H x.length C (lo:=1) (up:=((x.length:Int)-1)) 1 ((((x.length:Int)-1)).toNat) (by omega) (by omega) (by omega) (by omega) (by omega)) fun bd hrun96 Y=>L0<|f9 (.slice bd (((((x.length:Int)-1)).toNat)-1) (C-1)) (d9 (kl:=.i64) (kh:=.i64) (lo:=1) (hi:=((x.length:Int)-1)) (A:=H) (n:=x.length) (c:=C) rfl Tryz.underlying27 (by kernel_rfl) (by kernel_rfl) (by kernel_rfl) (hrun96 _ _ _))<|?_
 have Z:=ai I J (fun x hx=>ay) (fun _ _ h=>h)
 refine pr (di dir ((x.take ((((x.length:Int)-1)).toNat)).drop 1)) fun a L M=>?_
 refine az<|e2 (gC M (Y _ _ _ _ _ (Z).rd) (by rw[List.length_drop,List.length_take];omega)) fun d bW be E=>?_
 have a0:=ai Z E (fun x hx=>ay) (fun _ _ h=>h)
 refine Pl 3<|aK mZ fun a1 bX a2 bf bg=>aE bf (iU a d) fun bY bi bk=>aj 1<|sq<|ax 2<|?_
 have N:=ud bg bk a2
 have O:=aM E N
 have a3:=aM X O
 refine cb ((L != 0)) (fun B=>?_) (fun B=>?_)
 have bm:=av B
 refine ak 2<|?_
 refine aE (ub (aM z O) f) #[vB 0,vW 0,vB 0,vB 0,vW 0,vW 0,vW 0,vW 0,vW 0,vW 0,vW 0,vW 0,vW 0,vW 0,nS,nS,nS,nS,vB 0,vB 0,vB 0,vB 0,vB 0,nS] fun bZ bn bo=>aj 1<|bh<|bV bn (vI L)<|?_
 have hs:fC dir b=(bq.zero,L):=by
   unfold fC
   (try simp only[i,j,k,o,r,s,u,D,B,bj,bQ,hth,M,reduceIte])
   all_goals rfl
 rw[← eS]
 refine fN hs ?_
 exact ez (ud a3 bo l)
 have bm:=aJ B
 refine bp<|sq<|?_
 have a4:=ai a0 N (fun x hx=>ay) (fun _ _ h=>h)
 refine ea (aO.at_ (a4).rd 0 (by omega)) fun br bs a5 bt c2=>Rg 8 (fun w'=>w'.cell? ⟨br,bs+0,none⟩=some (vB (x.getD 0 0))∧w'.heap[a1]? = some (.cells (iU a d) 45 (0,0))) fun c3 F=>?_
 have a6:=ub F bi
 refine bB ⟨(uc F bt),a6⟩ fun y=>Rt 0 y<|kj 1 y x.length 0 0 rfl a5 (by omega)<|Rl 2 y (fun _ hs=>hs.1)<|Rt 3 y<|Rr 4 y (.agg (iU a d)) (fun w' hs=>hG (g:=a1) (off:=0) [vB a.code,vB a.fail,vW a.addr,vW a.count,vW a.value,vW a.and_,vW a.or_,vW a.addr2,vW a.sub,vW a.status,vW a.events,vW a.messages,.slice d.aw a.words.length d.kw,.slice d.ab a.bits.length d.kb,.slice d.ad a.data.length d.kd,.slice d.ar a.recs.length d.kr,vB a.mei,vB a.kind,vB a.level,vB a.more,vB a.next,.slice d.ao a.objects.length d.ko] rfl (by kernel_rfl) hs.2 (by kernel_rfl) (by kernel_rfl) rfl)<|Rt 5 y<|?_
 refine R0 6 rfl<|iX (ub (aM z (aM O F)) f) (k9 (x.getD 0 0) 0 a d) fun c4 bu a7=>?_
 have Q:=uz F a7
 refine bB ⟨(cB ((ai a4 Q (fun x hx=>(aa (fun e=>(aG (ag f) lr I) (e▸hx)) ay)) (fun _ _ h=>h))).rd a5 0 (by omega)),(aY a7 (Ne.symm (nb (ag f) (le (le W.size J.size) E.size) a2)) a6)⟩ fun bv=>Rt 7 bv<|re<|tn<|rt<|bV bu (vI 0)<|?_
 have hs:fC dir b=(⟨(x.getD 0 0),0,a⟩,0):=by
   unfold fC
   (try simp only[i,j,k,o,r,s,u,D,B,bj,bQ,hth,M,reduceIte])
   all_goals rfl
 rw[← eS]
 refine fN hs ?_
 exact⟨_,rfl,⟨iU a d,(by as_aux_lemma=>kernel_rfl),(aS.upd (bG.rdt be (Y _ _ _ _ _ (a0).rd)) (uz N Q) (ah (aW (ub (aM z E) f) (by decide)) aC)),b8 (x:=(x.getD 0 0)) (by omega),ci (x:=0) (by omega)⟩,(ud a3 Q l)⟩
theorem qW{m:Md}{v:Value}{b:List Int}{w:World}{dir:Int}(h:aO m w v b)(hb:b.length≤1048576) : Calls Tryz.prog 57 #[.int .i64 dir,v] w (oZ (dZ dir b) w):=by
  obtain⟨A,cp,rfl,hc,_⟩:=h.shape
  exact oz h hb hc
theorem gD{m:Md}{v:Value}{b:List Int}{w:World}{dir:Int}{F:bq}{E:Int}(hX:dZ dir b=(F,E))(h:aO m w v b)(hb:b.length≤1048576) : Calls Tryz.prog 57 #[.int .i64 dir,v] w (fun e w'=>∃ x,e = .returned (.tuple #[.agg (k9 F.unit F.tid F.msg x),.int .i64 E])∧(aS true w' (iU F.msg x).toList F.msg∧(0≤F.unit∧F.unit<256)∧(0≤F.tid∧F.tid<65536))∧aD [] w w'):=by
  refine(qW h hb).mono ?_
  rintro e w' ⟨cs,rfl,h1,h2⟩
  rw[hX] at h1 ⊢
  obtain⟨c,rfl,h3,h4,h5⟩:=h1
  obtain⟨x,rfl⟩:=lm h3
  exact⟨x,by rw[jJ],⟨h3,h4,h5⟩,h2⟩
open Go.RowKit
theorem o1{m:Md}{A:Option Addr}{cp:Nat}{b:List Int}{w:World}{dir:Int}(hsl:aO m w (.slice A b.length cp) b)(hb:b.length≤1048576)(hcp:b.length≤cp) :
    Calls Tryz.prog 53 #[vI dir,.slice A b.length cp] w (lC (.slice A b.length cp) b (cg dir b) w):=by
 have hln:(b.length:Int)≤1048576:=by omega
 have hrb:=aO.range hsl
 refine en 76 Tryz.func53 rfl<|sg<|aK #[vB 0,vW 0,vB 0,vB 0,vW 0,vW 0,vW 0,vW 0,vW 0,vW 0,vW 0,vW 0,vW 0,vW 0,nS,nS,nS,nS,vB 0,vB 0,vB 0,vB 0,vB 0,nS] fun bk bm o h s=>Pl 1<|cy 3<|sq<|sq<|go<|Pl 3<|cV 3 [13] 16 13 (dir != 0) (dir != 1) (fun K a0 a1=>?_) ?_
 have bn:=av a1
 exact Pl 3<|ce a0 _ rfl
 refine nt<|cb (((dir != 0)&&(dir != 1))) (fun f=>?_) (fun f=>?_)
 have I:=(aR f).1
 have J:=(aR f).2
 have bo:=av I
 have br:=av J
 refine ak 1<|aE h #[vB 0,vW 0,vB 0,vB 0,vW 0,vW 0,vW 0,vW 0,vW 0,vW 0,vW 0,vW 0,vW 0,vW 0,nS,nS,nS,nS,vB 0,vB 0,vB 0,vB 0,vB 0,nS] fun bs a2 a3=>aj 1<|bh<|bV a2 (vI 1)<|?_
 have hs:eG dir b=(bq.zero,1):=by
   unfold eG
   (try simp only[f,I,J,bj,bQ,reduceIte])
   all_goals rfl
 rw[← eU hrb]
 refine eA hs ?_
 exact dJ (ud s a3 o)
 refine bp<|sq<|ax 2<|cb ((decide ((b.length:Int)<8))) (fun i=>?_) (fun i=>?_)
 have a4:=of_decide_eq_true i
 refine ak 1<|aE h #[vB 0,vW 0,vB 0,vB 0,vW 0,vW 0,vW 0,vW 0,vW 0,vW 0,vW 0,vW 0,vW 0,vW 0,nS,nS,nS,nS,vB 0,vB 0,vB 0,vB 0,vB 0,nS] fun bt a5 a6=>aj 1<|bh<|bV a5 (vI 2)<|?_
 have hs:eG dir b=(bq.zero,2):=by
   unfold eG
   (try simp only[f,i,bj,bQ,reduceIte])
   all_goals rfl
 rw[← eU hrb]
 refine eA hs ?_
 exact dJ (ud s a6 o)
 have a4:=of_decide_eq_false i
 refine bp<|sq<|ax 2<|cb ((decide (260<(b.length:Int)))) (fun j=>?_) (fun j=>?_)
 have a7:=of_decide_eq_true j
 refine ak 1<|aE h #[vB 0,vW 0,vB 0,vB 0,vW 0,vW 0,vW 0,vW 0,vW 0,vW 0,vW 0,vW 0,vW 0,vW 0,nS,nS,nS,nS,vB 0,vB 0,vB 0,vB 0,vB 0,nS] fun bu a8 a9=>aj 1<|bh<|bV a8 (vI 3)<|?_
 have hs:eG dir b=(bq.zero,3):=by
   unfold eG
   (try simp only[f,i,j,bj,bQ,reduceIte])
   all_goals rfl
 rw[← eU hrb]
 refine eA hs ?_
 exact dJ (ud s a9 o)
 have a7:=of_decide_eq_false j
 refine bp<|sq<|ak 1<|?_
 have z:=aO.old hsl s
 refine ea (aO.at_ z 2 (by omega)) fun aa ac ae af bv=>L0<|iV b.length 2 ae (by omega)<|L0<|dX (p:=⟨aa,ac+2,none⟩) (v:=vB (b.getD 2 0)) af<|Pl 2<|bl 28 (((b.getD 2 0)!=0)) (fun r=>?_) (fun r=>?_)
 have ai:=av r
 refine aj 5<|c1<|ak 1<|aE h #[vB 0,vW 0,vB 0,vB 0,vW 0,vW 0,vW 0,vW 0,vW 0,vW 0,vW 0,vW 0,vW 0,vW 0,nS,nS,nS,nS,vB 0,vB 0,vB 0,vB 0,vB 0,nS] fun bw al am=>aj 1<|bh<|bV al (vI 13)<|?_
 have hs:eG dir b=(bq.zero,13):=by
   unfold eG
   (try simp only[f,i,j,r,bj,bQ,reduceIte])
   all_goals rfl
 rw[← eU hrb]
 refine eA hs ?_
 exact dJ (ud s am o)
 have ai:=aJ r
 refine Pl 1<|ea (aO.at_ z 3 (by omega)) fun an ap aq au bx=>L1<|iV b.length 3 aq (by omega)<|L1<|dX (p:=⟨an,ap+3,none⟩) (v:=vB (b.getD 3 0)) au<|aj 2<|cb (((b.getD 3 0)!=0)) (fun t=>?_) (fun t=>?_)
 have ay:=av t
 refine ak 1<|aE h #[vB 0,vW 0,vB 0,vB 0,vW 0,vW 0,vW 0,vW 0,vW 0,vW 0,vW 0,vW 0,vW 0,vW 0,nS,nS,nS,nS,vB 0,vB 0,vB 0,vB 0,vB 0,nS] fun bz aA aB=>aj 1<|bh<|bV aA (vI 13)<|?_
 have hs:eG dir b=(bq.zero,13):=by
   unfold eG
   (try simp only[f,i,j,r,t,bj,bQ,reduceIte])
   all_goals rfl
 rw[← eU hrb]
 refine eA hs ?_
 exact dJ (ud s aB o)
 have ay:=aJ t
 refine bp<|sq<|sq<|ea (aO.at_ z 4 (by omega)) fun aD aF aG aH bA=>ea (aO.at_ z 5 (by omega)) fun aI aL aN aP bC=>Rg 13 (fun w'=>w'.cell? ⟨aD,aF+4,none⟩=some (vB (b.getD 4 0))∧w'.cell? ⟨aI,aL+5,none⟩=some (vB (b.getD 5 0))) fun bD l=>bB ⟨(uc l aH),(uc l aP)⟩ fun e=>Rt 0 e<|kj 1 e b.length 4 4 rfl aG (by omega)<|Rl 2 e (fun _ hs=>hs.1)<|Rr 3 e (vI (b.getD 4 0)) (fun _ _=>bF (vI (IntKind.i64.wrap (b.getD 4 0))) (by kernel_rfl) (congrArg (Value.int .i64) (i64_in (by omega))))<|Rr 4 e (vI (256*(b.getD 4 0))) (fun _ _=>bF (vI (IntKind.i64.wrap (256*(b.getD 4 0)))) (by kernel_rfl) (congrArg (Value.int .i64) (IntWalk.i64_in _ (by omega))))<|Rt 5 e<|kj 6 e b.length 5 5 rfl aN (by omega)<|Rl 7 e (fun _ hs=>hs.2)<|Rr 8 e (vI (b.getD 5 0)) (fun _ _=>bF (vI (IntKind.i64.wrap (b.getD 5 0))) (by kernel_rfl) (congrArg (Value.int .i64) (i64_in (by omega))))<|Rr 9 e (vI ((256*(b.getD 4 0))+(b.getD 5 0))) (fun _ _=>bF (vI (IntKind.i64.wrap ((256*(b.getD 4 0))+(b.getD 5 0)))) (by kernel_rfl) (congrArg (Value.int .i64) (IntWalk.i64_in _ (by omega))))<|Rt 10 e<|Rr 11 e (vI ((b.length:Int)-6)) (fun _ _=>bF (vI (IntKind.i64.wrap ((b.length:Int)-6))) (by kernel_rfl) (congrArg (Value.int .i64) (IntWalk.i64_in _ (by omega))))<|Rt 12 e<|re<|tn<|?_
 have L:=aM s l
 refine cb ((((256*(b.getD 4 0))+(b.getD 5 0))!=((b.length:Int)-6))) (fun u=>?_) (fun u=>?_)
 have aQ:=av u
 refine ak 1<|?_
 refine aE (ub l h) #[vB 0,vW 0,vB 0,vB 0,vW 0,vW 0,vW 0,vW 0,vW 0,vW 0,vW 0,vW 0,vW 0,vW 0,nS,nS,nS,nS,vB 0,vB 0,vB 0,vB 0,vB 0,nS] fun bE aS aT=>aj 1<|bh<|bV aS (vI 5)<|?_
 have hs:eG dir b=(bq.zero,5):=by
   unfold eG
   (try simp only[f,i,j,r,t,u,bj,bQ,reduceIte])
   all_goals rfl
 rw[← eU hrb]
 refine eA hs ?_
 exact dJ (ud L aT o)
 have aQ:=aJ u
 refine bp<|ak 2<|iy (dw (P:=Tryz.prog) 27 5 1 Tryz.underlying27 rfl rfl A b.length cp 7 (by omega)) fun aU hrun84 M=>L0<|f9 (.slice aU (b.length-7) (cp-7)) (cH (kl:=.i64) (k:=((7:Nat) : Int)) (A:=A) (n:=b.length) (c:=cp) rfl Tryz.underlying27 (by kernel_rfl) (by kernel_rfl) (hrun84 _ _))<|?_
 have N:=aO.old z l
 refine pr (di dir (b.drop 7)) fun a D E=>?_
 refine az<|e2 (gC E (M _ _ _ _ _ N) (by rw[List.length_drop];omega)) fun x90 bH aV F=>?_
 have aX:=bG.sub aV (fun m' w' q=>(M _ _ _ _ _ q))
 refine Pl 3<|aK mZ fun O bI Q aZ b0=>aE aZ (iU a x90) fun bJ b1 b2=>aj 1<|sq<|ax 2<|?_
 have R:=ud b0 b2 Q
 have C:=aM F R
 have S:=aM L C
 refine cb ((D != 0)) (fun B=>?_) (fun B=>?_)
 have b3:=av B
 refine ak 2<|?_
 refine aE (ub (aM l C) h) #[vB 0,vW 0,vB 0,vB 0,vW 0,vW 0,vW 0,vW 0,vW 0,vW 0,vW 0,vW 0,vW 0,vW 0,nS,nS,nS,nS,vB 0,vB 0,vB 0,vB 0,vB 0,nS] fun bK b4 b5=>aj 1<|bh<|bV b4 (vI D)<|?_
 have hs:eG dir b=(bq.zero,D):=by
   unfold eG
   (try simp only[f,i,j,r,t,u,B,bj,bQ,E,reduceIte])
   all_goals rfl
 rw[← eU hrb]
 refine eA hs ?_
 exact dJ (ud S b5 o)
 have b3:=aJ B
 refine bp<|sq<|?_
 have G:=aO.old N C
 refine ea (aO.at_ G 6 (by omega)) fun b6 b7 T b9 bL=>ea (aO.at_ G 0 (by omega)) fun ba bb U bc bM=>ea (aO.at_ G 1 (by omega)) fun bd be V bf bN=>Rg 18 (fun w'=>w'.cell? ⟨b6,b7+6,none⟩=some (vB (b.getD 6 0))∧w'.cell? ⟨ba,bb+0,none⟩=some (vB (b.getD 0 0))∧w'.cell? ⟨bd,be+1,none⟩=some (vB (b.getD 1 0))∧w'.heap[O]? = some (.cells (iU a x90) 45 (0,0))) fun bO y=>?_
 have W:=ub y b1
 refine bB ⟨(uc y b9),(uc y bc),(uc y bf),W⟩ fun d=>Rt 0 d<|kj 1 d b.length 6 6 rfl T (by omega)<|Rl 2 d (fun _ hs=>hs.1)<|Rt 3 d<|kj 4 d b.length 0 0 rfl U (by omega)<|Rl 5 d (fun _ hs=>hs.2.1)<|Rr 6 d (vW (b.getD 0 0)) (fun _ _=>bF (vW (IntKind.u16.wrap (b.getD 0 0))) (by kernel_rfl) (congrArg (Value.int .u16) (i6 (by omega))))<|Rt 7 d<|Rt 8 d<|kj 9 d b.length 1 1 rfl V (by omega)<|Rl 10 d (fun _ hs=>hs.2.2.1)<|Rr 11 d (vW (b.getD 1 0)) (fun _ _=>bF (vW (IntKind.u16.wrap (b.getD 1 0))) (by kernel_rfl) (congrArg (Value.int .u16) (i6 (by omega))))<|Rt 12 d<|Rt 13 d<|Rr 14 d (.agg (iU a x90)) (fun w' hs=>hG (g:=O) (off:=0) [vB a.code,vB a.fail,vW a.addr,vW a.count,vW a.value,vW a.and_,vW a.or_,vW a.addr2,vW a.sub,vW a.status,vW a.events,vW a.messages,.slice x90.aw a.words.length x90.kw,.slice x90.ab a.bits.length x90.kb,.slice x90.ad a.data.length x90.kd,.slice x90.ar a.recs.length x90.kr,vB a.mei,vB a.kind,vB a.level,vB a.more,vB a.next,.slice x90.ao a.objects.length x90.ko] rfl (by kernel_rfl) hs.2.2.2 (by kernel_rfl) (by kernel_rfl) rfl)<|Rt 15 d<|?_
 refine R0 16 rfl<|iX (ub (aM l (aM C y)) h) (k9 (b.getD 6 0) ((((256*(b.getD 0 0))%65536)+(b.getD 1 0))%65536) a x90) fun bP bg X=>?_
 have Y:=uz y X
 have Z:=ud S Y o
 have H:=aO.old hsl Z
 refine bB ⟨(cB H T 6 (by omega)),(cB H U 0 (by omega)),(cB H V 1 (by omega)),(aY X (Ne.symm (nb (ag h) (le l.size F.size) Q)) W)⟩ fun bi=>Rt 17 bi<|re<|tn<|rt<|bV bg (vI 0)<|?_
 have hs:eG dir b=(⟨(b.getD 6 0),((((256*(b.getD 0 0))%65536)+(b.getD 1 0))%65536),a⟩,0):=by
   unfold eG
   (try simp only[f,i,j,r,t,u,B,bj,bQ,E,reduceIte])
   all_goals rfl
 rw[← eU hrb]
 refine eA hs ?_
 exact⟨x90,rfl,⟨(bG.upd aX (uz R Y) (ah (aW (ub (aM l F) h) (by decide)) aC)),b8 (x:=(b.getD 6 0)) (by omega),ci (x:=((((256*(b.getD 0 0))%65536)+(b.getD 1 0))%65536)) (by omega)⟩,Z⟩
theorem oC{m:Md}{v:Value}{b:List Int}{w:World}{dir:Int}(h:aO m w v b)(hb:b.length≤1048576) : Calls Tryz.prog 53 #[.int .i64 dir,v] w (lC v b (cg dir b) w):=by
  obtain⟨A,cp,rfl,hc,_⟩:=h.shape
  exact o1 h hb hc
theorem lR{m:Md}{v:Value}{b:List Int}{w:World}{dir:Int}{F:bq}{E:Int}(hX:cg dir b=(F,E))(h:aO m w v b)(hb:b.length≤1048576) : Calls Tryz.prog 53 #[.int .i64 dir,v] w (fun e w'=>∃ x,e = .returned (.tuple #[.agg (k9 F.unit F.tid F.msg x),.int .i64 E])∧(bG v b w' (iU F.msg x).toList F.msg∧(0≤F.unit∧F.unit<256)∧(0≤F.tid∧F.tid<65536))∧aD [] w w'):=by
  refine(oC h hb).mono ?_
  rintro e w' ⟨x,rfl,h1,h2⟩
  rw[hX] at h1 ⊢
  exact⟨x,rfl,h1,h2⟩
open Go.RowKit
def lw (R:List Ev × Nat)(w:World)(e:Ending)(w':World) : Prop:=∃ v,e = .returned (.tuple #[v,.int .i64 ((R.2:Nat) : Int)])∧lT w.heap.size w' v R.1∧aD [] w w'
theorem nu{d:Int}{k:Nat}{b:List Int}{L:List Ev}{R:List Ev × Nat}(h:(L++(dV d k b).1,(dV d k b).2)=R)(hk:b.length≤k)(h6:6≤b.length) :
    (bK b<8→(L++[Ev.mk 5 bq.zero]++(dV d (k-1) (b.drop (min (bK b) (b.length:Int)).toNat)).1,(dV d (k-1) (b.drop (min (bK b) (b.length:Int)).toNat)).2)=R) ∧
    (¬ bK b<8→260<bK b→(L++[Ev.mk 3 bq.zero]++(dV d (k-1) (b.drop (min (bK b) (b.length:Int)).toNat)).1,(dV d (k-1) (b.drop (min (bK b) (b.length:Int)).toNat)).2)=R) ∧
    (¬ (bK b<8∨260<bK b)→(b.length:Int)<bK b→R=(L,b.length)) ∧
    (¬ (bK b<8∨260<bK b)→¬ (b.length:Int)<bK b→∀ F E,cg d (b.take (bK b).toNat)=(F,E)→(L++[Ev.mk E F]++(dV d (k-1) (b.drop (bK b).toNat)).1,(dV d (k-1) (b.drop (bK b).toNat)).2)=R):=by
  obtain⟨k,rfl⟩ : ∃ k',k=k'+1:=⟨k-1,by omega⟩
  rw[Nat.add_sub_cancel]
  unfold dV at h
  rw[if_neg (by omega)] at h
  refine⟨fun h1=>?_,fun h1 h2=>?_,fun h1 h2=>?_,fun h1 h2 F E hF=>?_⟩
  · rw[if_pos (.inl h1),if_pos h1] at h
    rw[← h,List.append_assoc]
    rfl
  · rw[if_pos (.inr h2),if_neg h1] at h
    rw[← h,List.append_assoc]
    rfl
  · rw[if_neg h1,if_pos h2] at h
    rw[← h,List.append_nil]
  · rw[if_neg h1,if_neg h2,hF] at h
    rw[← h,List.append_assoc]
    rfl
theorem yM{A:Option Addr}{cp:Nat}{b:List Int}{w:World}{dir:Int}(hsl:aO true w (.slice A b.length cp) b)(hb:b.length≤1048576) :
    Calls Tryz.prog 17 #[vI dir,.slice A b.length cp] w (lw (dV dir b.length b) w):=by
 have hln:(b.length:Int)≤1048576:=by omega
 refine en 71 Tryz.func17 rfl<|ak 2<|cy 1<|sq<|bk<|?_
 refine fE (fun x=>[(0,vI dir),(1,.slice x.2.2.1 x.2.2.2.1 x.2.2.2.2.1),(6,.slice x.2.2.2.2.2.2.1 x.2.2.2.2.2.1.length x.2.2.2.2.2.2.2)]) (fun(x:Nat × List Int × Option Addr × Nat × Nat × List Ev × Option Addr × Nat) w'=>aD [] w w'∧aO true w' (.slice x.2.2.1 x.2.2.2.1 x.2.2.2.2.1) x.2.1∧lT w.heap.size w' (.slice x.2.2.2.2.2.2.1 x.2.2.2.2.2.1.length x.2.2.2.2.2.2.2) x.2.2.2.2.2.1∧(x.2.2.2.1=x.2.1.length)∧(x.2.1.length≤x.1)∧(x.2.2.2.2.2.1.length+x.2.1.length≤b.length)∧((x.2.2.2.2.2.1++(dV dir x.1 x.2.1).1,(dV dir x.1 x.2.1).2)=(dV dir b.length b))) (fun x=>x.2.2.2.1) (b.length,b,A,b.length,cp,[],none,0) ⟨aD.refl _ _,hsl,(aQ.nil w.heap.size _ _ (cI true) _),rfl,(Nat.le_refl _),(by(try dsimp only);simp),rfl⟩ ?_
 rintro⟨k,xs,Ab,nb,cpx,L,Bq,cq⟩ F ⟨j,a3,a4,a5,a6,a7,a8⟩
 refine eH [(0,vI dir),(1,.slice Ab nb cpx),(6,.slice Bq L.length cq)] ?_
 have i:aO true F (.slice Ab nb cpx) xs:=a3
 have g:lT w.heap.size F (.slice Bq L.length cq) L:=a4
 have a9:nb=xs.length:=a5
 have aa:xs.length≤k:=a6
 have bj:L.length+xs.length≤b.length:=a7
 have l:(L++(dV dir k xs).1,(dV dir k xs).2)=(dV dir b.length b):=a8
 have hxr:∀ x,x∈xs→0≤x∧x<256:=aO.range i
 have hnb:=a9
 have hkx:=aa
 have hcx:=aI.cap i
 refine sq<|ax 3<|cb ((decide (6≤(nb:Int)))) (fun t=>?_) (fun t=>?_)
 have ab:=of_decide_eq_true t
 refine bp<|bk<|sq<|ea (aO.at_ i 4 (by omega)) fun ac ad ae af bl=>ea (aO.at_ i 5 (by omega)) fun ag ah al am bm=>Rg 12 (fun w'=>w'.cell? ⟨ac,ad+4,none⟩=some (vB (xs.getD 4 0))∧w'.cell? ⟨ag,ah+5,none⟩=some (vB (xs.getD 5 0))) fun G d=>bB ⟨(uc d af),(uc d am)⟩ fun f=>Rt 0 f<|kj 1 f nb 4 4 rfl ae (by omega)<|Rl 2 f (fun _ hs=>hs.1)<|Rr 3 f (vI (xs.getD 4 0)) (fun _ _=>bF (vI (IntKind.i64.wrap (xs.getD 4 0))) (by kernel_rfl) (congrArg (Value.int .i64) (i64_in (by omega))))<|Rr 4 f (vI (256*(xs.getD 4 0))) (fun _ _=>bF (vI (IntKind.i64.wrap (256*(xs.getD 4 0)))) (by kernel_rfl) (congrArg (Value.int .i64) (IntWalk.i64_in _ (by omega))))<|Rr 5 f (vI (6+(256*(xs.getD 4 0)))) (fun _ _=>bF (vI (IntKind.i64.wrap (6+(256*(xs.getD 4 0))))) (by kernel_rfl) (congrArg (Value.int .i64) (IntWalk.i64_in _ (by omega))))<|Rt 6 f<|kj 7 f nb 5 5 rfl al (by omega)<|Rl 8 f (fun _ hs=>hs.2)<|Rr 9 f (vI (xs.getD 5 0)) (fun _ _=>bF (vI (IntKind.i64.wrap (xs.getD 5 0))) (by kernel_rfl) (congrArg (Value.int .i64) (i64_in (by omega))))<|Rr 10 f (vI ((6+(256*(xs.getD 4 0)))+(xs.getD 5 0))) (fun _ _=>bF (vI (IntKind.i64.wrap ((6+(256*(xs.getD 4 0)))+(xs.getD 5 0)))) (by kernel_rfl) (congrArg (Value.int .i64) (IntWalk.i64_in _ (by omega))))<|Rt 11 f<|re<|tn<|sq<|ak 3<|eE 3 [27] 30 27 (decide (((6+(256*(xs.getD 4 0)))+(xs.getD 5 0))<8)) (decide (260<((6+(256*(xs.getD 4 0)))+(xs.getD 5 0)))) (fun K an ao=>?_) ?_
 have bo:=of_decide_eq_false ao
 exact Pl 3<|ce an _ rfl
 refine nt<|?_
 have p:=aM j d
 refine cb (((decide (((6+(256*(xs.getD 4 0)))+(xs.getD 5 0))<8))||(decide (260<((6+(256*(xs.getD 4 0)))+(xs.getD 5 0)))))) (fun q=>?_) (fun q=>?_)
 refine ax 1<|sq<|ax 2<|cb ((decide (((6+(256*(xs.getD 4 0)))+(xs.getD 5 0))<8))) (fun r=>?_) (fun r=>?_)
 have ap:=of_decide_eq_true r
 refine go<|Pl 1<|aL 3<|L0<|ep (m:=1) (e:=87) #[vI 5,vB 0,vW 0,vB 0,vB 0,vW 0,vW 0,vW 0,vW 0,vW 0,vW 0,vW 0,vW 0,vW 0,vW 0,nS,nS,nS,nS,vB 0,vB 0,vB 0,vB 0,vB 0,nS] fun bs bt aq ar u=>?_
 have au:=f5 (m:=true) (w0:=G) (x:=(Ev.mk 5 bq.zero)) aq ar ⟨⟨none,0,none,0,none,0,none,0,none,0⟩,by kernel_rfl,dY,by decide,by decide⟩
 have v:=aM d u
 have H:=ai g v (fun x hx=>ay) (cI.upd v aC)
 refine L0<|eb (xs:=L) (ys:=([(Ev.mk 5 bq.zero)])) (.agg #[vI 0,vB 0,vW 0,vB 0,vB 0,vW 0,vW 0,vW 0,vW 0,vW 0,vW 0,vW 0,vW 0,vW 0,vW 0,nS,nS,nS,nS,vB 0,vB 0,vB 0,vB 0,vB 0,nS]) 25 168 H au.rd cI.ones (fun w' hv=>cI.upd hv (b9 (bi _ H (by decide)) aC)) (by(try simp only[cD,aN]);omega) (le (le j.size d.size) u.size) fun av aw bu aF I bv=>Pl 1<|aL 4<|L0<|f9 (vI (min ((6+(256*(xs.getD 4 0)))+(xs.getD 5 0)) (nb:Int))) (nF (a:=((6+(256*(xs.getD 4 0)))+(xs.getD 5 0))) (b:=(nb:Int)) rfl (by kernel_rfl) (by kernel_rfl))<|iy (fY (P:=Tryz.prog) 27 5 1 Tryz.underlying27 rfl rfl Ab nb cpx (lo:=(min ((6+(256*(xs.getD 4 0)))+(xs.getD 5 0)) (nb:Int))) (((min ((6+(256*(xs.getD 4 0)))+(xs.getD 5 0)) (nb:Int))).toNat) (by omega) (by omega)) fun J hrun69 aG=>L0<|f9 (.slice J (nb-(((min ((6+(256*(xs.getD 4 0)))+(xs.getD 5 0)) (nb:Int))).toNat)) (cpx-(((min ((6+(256*(xs.getD 4 0)))+(xs.getD 5 0)) (nb:Int))).toNat))) (cH (kl:=.i64) (k:=(min ((6+(256*(xs.getD 4 0)))+(xs.getD 5 0)) (nb:Int))) (A:=Ab) (n:=nb) (c:=cpx) rfl Tryz.underlying27 (by kernel_rfl) (by kernel_rfl) (hrun69 _ _))<|aj 1<|xt<|tx<|bx<|?_
 have hz:=(nu l hkx (by omega)).1 (show bK xs<8 by unfold bK;omega)
 rw[← hnb] at hz
 exact dH ((k-1),(xs.drop (((min ((6+(256*(xs.getD 4 0)))+(xs.getD 5 0)) (nb:Int))).toNat)),J,(nb-(((min ((6+(256*(xs.getD 4 0)))+(xs.getD 5 0)) (nb:Int))).toNat)),(cpx-(((min ((6+(256*(xs.getD 4 0)))+(xs.getD 5 0)) (nb:Int))).toNat)),(L++[(Ev.mk 5 bq.zero)]),av,aw) ⟨(ut p (ut (aD.mono (S':=(ob Bq++[])) u aA) I (aB il aA)) (aB (bE g lr) aA)),(aG _ _ _ _ _ (aO.upd' i (ut (aD.mono (S':=(ob Bq++[])) v aA) I (aB il aA)) (b9 (bi _ g (by decide)) aC))),aF,(by(try dsimp only);rw[List.length_drop];omega),(by(try dsimp only);rw[List.length_drop];omega),(by(try dsimp only);simp only[cD,List.length_drop];omega),hz⟩ (by dsimp only;omega)
 have ap:=of_decide_eq_false r
 refine bp<|ak 3<|L0<|ep (m:=1) (e:=87) #[vI 3,vB 0,vW 0,vB 0,vB 0,vW 0,vW 0,vW 0,vW 0,vW 0,vW 0,vW 0,vW 0,vW 0,vW 0,nS,nS,nS,nS,vB 0,vB 0,vB 0,vB 0,vB 0,nS] fun bw bz aH aJ z=>?_
 have aP:=f5 (m:=true) (w0:=G) (x:=(Ev.mk 3 bq.zero)) aH aJ ⟨⟨none,0,none,0,none,0,none,0,none,0⟩,by kernel_rfl,dY,by decide,by decide⟩
 have B:=aM d z
 have M:=ai g B (fun x hx=>ay) (cI.upd B aC)
 refine L0<|eb (xs:=L) (ys:=([(Ev.mk 3 bq.zero)])) (.agg #[vI 0,vB 0,vW 0,vB 0,vB 0,vW 0,vW 0,vW 0,vW 0,vW 0,vW 0,vW 0,vW 0,vW 0,vW 0,nS,nS,nS,nS,vB 0,vB 0,vB 0,vB 0,vB 0,nS]) 25 168 M aP.rd cI.ones (fun w' hv=>cI.upd hv (b9 (bi _ M (by decide)) aC)) (by(try simp only[cD,aN]);omega) (le (le j.size d.size) z.size) fun aR aT bA aU N bC=>Pl 1<|aL 4<|L0<|f9 (vI (min ((6+(256*(xs.getD 4 0)))+(xs.getD 5 0)) (nb:Int))) (nF (a:=((6+(256*(xs.getD 4 0)))+(xs.getD 5 0))) (b:=(nb:Int)) rfl (by kernel_rfl) (by kernel_rfl))<|iy (fY (P:=Tryz.prog) 27 5 1 Tryz.underlying27 rfl rfl Ab nb cpx (lo:=(min ((6+(256*(xs.getD 4 0)))+(xs.getD 5 0)) (nb:Int))) (((min ((6+(256*(xs.getD 4 0)))+(xs.getD 5 0)) (nb:Int))).toNat) (by omega) (by omega)) fun O hrun90 aV=>L0<|f9 (.slice O (nb-(((min ((6+(256*(xs.getD 4 0)))+(xs.getD 5 0)) (nb:Int))).toNat)) (cpx-(((min ((6+(256*(xs.getD 4 0)))+(xs.getD 5 0)) (nb:Int))).toNat))) (cH (kl:=.i64) (k:=(min ((6+(256*(xs.getD 4 0)))+(xs.getD 5 0)) (nb:Int))) (A:=Ab) (n:=nb) (c:=cpx) rfl Tryz.underlying27 (by kernel_rfl) (by kernel_rfl) (hrun90 _ _))<|aj 1<|xt<|tx<|bx<|?_
 have hgt:260<((6+(256*(xs.getD 4 0)))+(xs.getD 5 0)):=by have y:=q;rw[r] at y;exact of_decide_eq_true (by simpa using y)
 have hz:=(nu l hkx (by omega)).2.1 (show ¬ bK xs<8 by unfold bK;omega) (show 260<bK xs by unfold bK;omega)
 rw[← hnb] at hz
 exact dH ((k-1),(xs.drop (((min ((6+(256*(xs.getD 4 0)))+(xs.getD 5 0)) (nb:Int))).toNat)),O,(nb-(((min ((6+(256*(xs.getD 4 0)))+(xs.getD 5 0)) (nb:Int))).toNat)),(cpx-(((min ((6+(256*(xs.getD 4 0)))+(xs.getD 5 0)) (nb:Int))).toNat)),(L++[(Ev.mk 3 bq.zero)]),aR,aT) ⟨(ut p (ut (aD.mono (S':=(ob Bq++[])) z aA) N (aB il aA)) (aB (bE g lr) aA)),(aV _ _ _ _ _ (aO.upd' i (ut (aD.mono (S':=(ob Bq++[])) B aA) N (aB il aA)) (b9 (bi _ g (by decide)) aC))),aU,(by(try dsimp only);rw[List.length_drop];omega),(by(try dsimp only);rw[List.length_drop];omega),(by(try dsimp only);simp only[cD,List.length_drop];omega),hz⟩ (by dsimp only;omega)
 have aW:=(cv q).1
 have aX:=(cv q).2
 have bD:=of_decide_eq_false aW
 have bH:=of_decide_eq_false aX
 refine bp<|sq<|ax 4<|cb ((decide ((nb:Int)<((6+(256*(xs.getD 4 0)))+(xs.getD 5 0))))) (fun C=>?_) (fun C=>?_)
 have aY:=of_decide_eq_true C
 refine ax 5<|bh<|br<|tr<|br<|tr<|rr (.tuple #[.slice Bq L.length cq,vI (nb:Int)])<|?_
 have hz:=(nu l hkx (by omega)).2.2.1 (show ¬ (bK xs<8∨260<bK xs) by unfold bK;omega) (show(xs.length:Int)<bK xs by unfold bK;omega)
 rw[hz]
 exact⟨_,by rw[hnb],(ai g d (fun x hx=>ay) (cI.upd d aC)),p⟩
 have aY:=of_decide_eq_false C
 refine bp<|ak 3<|iy (rU (P:=Tryz.prog) 27 5 1 Tryz.underlying27 rfl rfl Ab nb cpx (k:=((6+(256*(xs.getD 4 0)))+(xs.getD 5 0))) ((((6+(256*(xs.getD 4 0)))+(xs.getD 5 0))).toNat) (by omega) (by omega) (by omega)) fun aZ hrun99 Q=>L0<|f9 (.slice aZ ((((6+(256*(xs.getD 4 0)))+(xs.getD 5 0))).toNat) cpx) (jd (kl:=.i64) (k:=((6+(256*(xs.getD 4 0)))+(xs.getD 5 0))) (A:=Ab) (n:=nb) (c:=cpx) rfl Tryz.underlying27 (by kernel_rfl) (by kernel_rfl) (hrun99 _ _))<|?_
 have R:=aO.upd' i d aC
 refine pr (cg dir (xs.take ((((6+(256*(xs.getD 4 0)))+(xs.getD 5 0))).toNat))) fun h o S=>?_
 refine az<|e2 (lR S (Q _ _ _ _ _ R) (by rw[List.length_take];omega)) fun D bI b0 s=>?_
 obtain⟨b1,b2,b3⟩:=b0
 have T:=aO.upd' R s aC
 have b4:=bG.rdt b1 (Q _ _ _ _ _ T)
 refine Pl 3<|aK #[vB 0,vW 0,vB 0,vB 0,vW 0,vW 0,vW 0,vW 0,vW 0,vW 0,vW 0,vW 0,vW 0,vW 0,nS,nS,nS,nS,vB 0,vB 0,vB 0,vB 0,vB 0,nS] fun bJ bL b5 b6 U=>aE b6 (k9 h.unit h.tid h.msg D) fun b7 b8 V=>Pl 1<|aL 2<|L0<|cO b8<|Pl 1<|L0<|ep (m:=1) (e:=87) (lV ⟨o,h⟩ D) fun bM bN ba bb W=>?_
 have E:=ud U (aM V W) b5
 have bc:=f5 (w0:=b7) (x:=(Ev.mk o h)) ba bb ⟨D,rfl,(aS.upd b4 E aC),b2,b3⟩
 have X:=aM s E
 have Y:=aM d X
 have Z:=ai g Y (fun x hx=>ay) (cI.upd Y aC)
 refine L0<|eb (xs:=L) (ys:=([(Ev.mk o h)])) (.agg #[vI 0,vB 0,vW 0,vB 0,vB 0,vW 0,vW 0,vW 0,vW 0,vW 0,vW 0,vW 0,vW 0,vW 0,vW 0,nS,nS,nS,nS,vB 0,vB 0,vB 0,vB 0,vB 0,nS]) 25 168 Z bc.rd cI.ones (fun w' hv=>cI.upd hv (b9 (bi _ Z (by decide)) aC)) (by(try simp only[cD,aN]);omega) (le (le (le (le (le j.size d.size) s.size) U.size) V.size) W.size) fun bd be bO bf a0 bP=>aj 1<|go<|Pl 2<|iy (fY (P:=Tryz.prog) 27 5 1 Tryz.underlying27 rfl rfl Ab nb cpx (lo:=((6+(256*(xs.getD 4 0)))+(xs.getD 5 0))) ((((6+(256*(xs.getD 4 0)))+(xs.getD 5 0))).toNat) (by omega) (by omega)) fun a1 hrun141 bg=>L0<|f9 (.slice a1 (nb-((((6+(256*(xs.getD 4 0)))+(xs.getD 5 0))).toNat)) (cpx-((((6+(256*(xs.getD 4 0)))+(xs.getD 5 0))).toNat))) (cH (kl:=.i64) (k:=((6+(256*(xs.getD 4 0)))+(xs.getD 5 0))) (A:=Ab) (n:=nb) (c:=cpx) rfl Tryz.underlying27 (by kernel_rfl) (by kernel_rfl) (hrun141 _ _))<|Pl 1<|nl<|bn<|?_
 have hz:=(nu l hkx (by omega)).2.2.2 (show ¬ (bK xs<8∨260<bK xs) by unfold bK;omega) (show ¬ (xs.length:Int)<bK xs by unfold bK;omega) h o S
 have a2:=aM d s
 exact dH ((k-1),(xs.drop ((((6+(256*(xs.getD 4 0)))+(xs.getD 5 0))).toNat)),a1,(nb-((((6+(256*(xs.getD 4 0)))+(xs.getD 5 0))).toNat)),(cpx-((((6+(256*(xs.getD 4 0)))+(xs.getD 5 0))).toNat)),(L++[(Ev.mk o h)]),bd,be) ⟨(ut p (ut (aD.mono (S':=(ob Bq++[])) X aA) a0 (aB il aA)) (aB (bE g lr) aA)),(bg _ _ _ _ _ (aO.upd' T (ut (aD.mono (S':=(ob Bq++[])) E aA) a0 (aB il aA)) (b9 (bi _ (ai g a2 (fun x hx=>ay) (cI.upd a2 aC)) (by decide)) aC))),bf,(by(try dsimp only);rw[List.length_drop];omega),(by(try dsimp only);rw[List.length_drop];omega),(by(try dsimp only);simp only[cD,List.length_drop];omega),hz⟩ (by dsimp only;omega)
 have ab:=of_decide_eq_false t
 refine xt<|tx<|tx<|bx<|tn<|ax 5<|rt<|rr (.tuple #[.slice Bq L.length cq,vI (nb:Int)])<|?_
 have hz:(dV dir b.length b)=(L,xs.length):=by rw[← l,jE (by omega),List.append_nil]
 rw[hz]
 exact⟨_,by rw[hnb],g,j⟩
theorem AW{v:Value}{b:List Int}{w:World}{dir:Int}(h:aO true w v b)(hb:b.length≤1048576) : Calls Tryz.prog 17 #[.int .i64 dir,v] w (lw (dV dir b.length b) w):=by
  obtain⟨A,cp,rfl,_,_⟩:=h.shape
  exact yM h hb
open Go.RowKit
theorem jb{b:List Int}{i e:Nat}(hi:i+1≤e)(a:b.getD i 0=58)(q:(b.getD (((e:Nat) : Int)-1).toNat 0==10)=true) : i+2≤e:=by
  by_cases h:e=i+1
  · subst h
    rw[show((((i+1:Nat) : Nat) : Int)-1).toNat=i from by omega,a] at q
    cases q
  · omega
theorem Ba{b:List Int}{i e:Nat}(q:(((b.getD e 0)!=58)&&(decide ((((e:Nat) : Int)-((i:Nat) : Int))<514)))=false)(hn:e-i<514) : b.getD e 0=58:=by
  rw[Bool.and_eq_false_iff] at q
  rcases q with q|q
  · simpa using q
  · have:=of_decide_eq_false q
    omega
theorem xY{A:Option Addr}{cp:Nat}{b:List Int}{w:World}{dir:Int}(hsl:aO true w (.slice A b.length cp) b)(hb:b.length≤1048576)(hcp:b.length≤cp) :
    Calls Tryz.prog 23 #[vI dir,.slice A b.length cp] w (lw (hM dir b) w):=by
 have hln:(b.length:Int)≤1048576:=by omega
 refine en 124 Tryz.func23 rfl<|ak 2<|aL 1<|aL 1<|nl<|tn<|sq<|bk<|?_
 refine fE (fun x=>[(0,vI dir),(1,.slice A b.length cp),(6,.slice x.2.2.1 x.2.1.length x.2.2.2),(7,vI (x.1:Int))]) (fun(x:Nat × List Ev × Option Addr × Nat) w'=>aD [] w w'∧aO true w' (.slice A b.length cp) b∧lT w.heap.size w' (.slice x.2.2.1 x.2.1.length x.2.2.2) x.2.1∧(x.1≤b.length)∧(x.2.1.length≤x.1)∧(kB dir b x.1 x.2.1)) (fun x=>b.length-x.1) (0,[],none,0) ⟨aD.refl _ _,hsl,(aQ.nil w.heap.size _ _ (cI true) _),(by(try dsimp only);omega),(by(try dsimp only);simp),(.inl rfl)⟩ ?_
 rintro⟨i,L,Bq,cq⟩ O ⟨j,bW,bX,bY,bZ,c2⟩
 refine eH [(0,vI dir),(1,.slice A b.length cp),(6,.slice Bq L.length cq),(7,vI (i:Int))] ?_
 have B:aO true O (.slice A b.length cp) b:=bW
 have d:lT w.heap.size O (.slice Bq L.length cq) L:=bX
 have f2:i≤b.length:=bY
 have f3:L.length≤i:=bZ
 have Q:kB dir b i L:=c2
 refine sq<|ax 4<|cb ((decide ((i:Int)<(b.length:Int)))) (fun R=>?_) (fun R=>?_)
 have c3:=of_decide_eq_true R
 refine bp<|bk<|sq<|ak 2<|ea (aO.at_ B i (by omega)) fun S T c4 c5 f4=>L0<|iV b.length i c4 (by omega)<|L0<|dX (p:=⟨S,T+i,none⟩) (v:=vB (b.getD i 0)) c5<|aj 1<|cb (((b.getD i 0)!=58)) (fun I=>?_) (fun I=>?_)
 have c6:=av I
 refine ak 1<|b6 ((i:Int)+1)<|aj 1<|xt<|tx<|bx<|?_
 have hz:=sM Q (by omega) (by omega)
 exact dH ((i+1),L,Bq,cq) ⟨j,B,d,(by(try dsimp only);omega),(by(try dsimp only);omega),hz⟩ (by omega)
 have c6:=aJ I
 refine bp<|ak 1<|b6 ((i:Int)+1)<|aj 1<|sq<|bk<|?_
 have f:b.getD i 0=58:=by have hq:=I;simpa using hq
 have hin:=xz Q (by omega) f
 refine fE (fun x=>[(0,vI dir),(1,.slice A b.length cp),(6,.slice Bq L.length cq),(7,vI (i:Int)),(8,vI ((x:Nat) : Int)),(12,vI (i:Int)),(13,.slice A b.length cp),(14,vI (b.length:Int)),(15,.bool (decide ((i:Int)<(b.length:Int)))),(16,.slice A b.length cp),(17,vI (i:Int)),(18,.pointer (some (⟨S,T+i,none⟩))),(19,vB (b.getD i 0)),(20,.bool ((b.getD i 0)!=58)),(23,vI (i:Int)),(24,vI ((i:Int)+1))]) (fun(x:Nat) w'=>aD [] O w'∧(i+1≤x)∧(x≤b.length)∧(x-i≤514)∧(jq dir b i x L)) (fun x=>b.length-x) (i+1) ⟨aD.refl _ _,(by(try dsimp only);omega),(by(try dsimp only);omega),(by(try dsimp only);omega),hin⟩ ?_
 rintro e o ⟨a,c7,c8,c9,ca⟩
 refine eH [(0,vI dir),(1,.slice A b.length cp),(6,.slice Bq L.length cq),(7,vI (i:Int)),(8,vI (e:Int)),(12,vI (i:Int)),(13,.slice A b.length cp),(14,vI (b.length:Int)),(15,.bool (decide ((i:Int)<(b.length:Int)))),(16,.slice A b.length cp),(17,vI (i:Int)),(18,.pointer (some (⟨S,T+i,none⟩))),(19,vB (b.getD i 0)),(20,.bool ((b.getD i 0)!=58)),(23,vI (i:Int)),(24,vI ((i:Int)+1))] ?_
 have f6:i+1≤e:=c7
 have f7:e≤b.length:=c8
 have f8:e-i≤514:=c9
 have h:jq dir b i e L:=ca
 refine sq<|ak 5<|?_
 have g:=aM j a
 refine bl 29 ((decide ((e:Int)<(b.length:Int)))) (fun U=>?_) (fun U=>?_)
 have cc:=of_decide_eq_true U
 refine Pl 2<|?_
 have k:=aO.upd' B a aC
 refine ea (aO.at_ k e (by omega)) fun cd cf cg ch fa=>L1<|iV b.length e cg (by omega)<|L1<|dX (p:=⟨cd,cf+e,none⟩) (v:=vB (b.getD e 0)) ch<|Pl 3<|cV 5 [36] 41 36 ((b.getD e 0)!=58) (decide (((e:Int)-(i:Int))<514)) (fun K ci cj=>?_) ?_
 have fb:=av cj
 exact Pl 2<|L1<|Oi ((e:Int)-(i:Int))<|Pl 2<|ce ci _ rfl
 refine Pl 1<|bl 42 ((((b.getD e 0)!=58)&&(decide (((e:Int)-(i:Int))<514)))) (fun C=>?_) (fun C=>?_)
 have V:=(aR C).1
 have ck:=(aR C).2
 have fc:=av V
 have fd:=of_decide_eq_true ck
 refine Pl 2<|L1<|Oi ((e:Int)-1)<|ea (aO.at_ k ((((e:Int)-1)).toNat) (by omega)) fun ao ap aq ar fe=>L1<|iZ b.length ((((e:Int)-1)).toNat) ((e:Int)-1) (by omega) aq (by omega)<|L1<|dX (p:=⟨ao,ap+((((e:Int)-1)).toNat),none⟩) (v:=vB (b.getD ((((e:Int)-1)).toNat) 0)) ar<|Pl 2<|bl 49 (((b.getD ((((e:Int)-1)).toNat) 0)==10)) (fun q=>?_) (fun q=>?_)
 have cl:=am q
 refine Pl 2<|L1<|Oi ((e:Int)-2)<|?_
 have ff:=jb (by omega) f q
 refine ea (aO.at_ k ((((e:Int)-2)).toNat) (by omega)) fun aw aF aG aH fg=>L1<|iZ b.length ((((e:Int)-2)).toNat) ((e:Int)-2) (by omega) aG (by omega)<|L1<|dX (p:=⟨aw,aF+((((e:Int)-2)).toNat),none⟩) (v:=vB (b.getD ((((e:Int)-2)).toNat) 0)) aH<|Pl 3<|cV 5 [57] 62 57 ((b.getD ((((e:Int)-2)).toNat) 0)==13) (decide (2<((e:Int)-(i:Int)))) (fun K cm cn=>?_) ?_
 have fh:=am cn
 exact Pl 2<|L1<|Oi ((e:Int)-(i:Int))<|Pl 2<|ce cm _ rfl
 refine aj 2<|cb ((!(((b.getD ((((e:Int)-2)).toNat) 0)==13)&&(decide (2<((e:Int)-(i:Int))))))) (fun F=>?_) (fun F=>?_)
 have G:(((b.getD ((((e:Int)-2)).toNat) 0)==13)&&(decide (2<((e:Int)-(i:Int)))))=false:=by simpa only[Bool.not_eq_true',Bool.not_eq_false'] using F
 refine bp<|bk<|go<|Pl 1<|b6 ((e:Int)+1)<|Pl 1<|nl<|bn<|?_
 have hzf:zE b i e=false:=by
   unfold zE
   have z0:=q
   have z1:=F
   have z2:=G
   revert z0 z1 z2
   cases (b.getD ((e:Int)-1).toNat 0==10)<;>cases (b.getD ((e:Int)-2).toNat 0==13)<;>cases (decide (2<(e:Int)-(i:Int)))<;>simp
 have hstep:=mV h (by omega) (by omega) f (by have hq:=V;simpa using hq) (by omega) hzf
 exact dH (e+1) ⟨a,(by(try dsimp only);omega),(by(try dsimp only);omega),(by(try dsimp only);omega),hstep⟩ (by omega)
 have G:(((b.getD ((((e:Int)-2)).toNat) 0)==13)&&(decide (2<((e:Int)-(i:Int)))))=true:=by simpa only[Bool.not_eq_true',Bool.not_eq_false'] using F
 have W:=(aR G).1
 have X:=(aR G).2
 have q66nap:=am W
 have q66nbp:=of_decide_eq_true X
 refine xt<|tx<|tx<|bx<|tn<|ak 2<|b6 ((e:Int)-(i:Int))<|aj 1<|sq<|bk<|ax 3<|cb ((decide (513<((e:Int)-(i:Int))))) (fun Y=>?_) (fun Y=>?_)
 have co:=of_decide_eq_true Y
 refine go<|Pl 2<|L0<|ep (m:=1) (e:=87) #[vI 3,vB 0,vW 0,vB 0,vB 0,vW 0,vW 0,vW 0,vW 0,vW 0,vW 0,vW 0,vW 0,vW 0,vW 0,nS,nS,nS,nS,vB 0,vB 0,vB 0,vB 0,vB 0,nS] fun fi fj cr cs Z=>?_
 have cu:=f5 (m:=true) (w0:=o) (x:=(Ev.mk 3 bq.zero)) cr cs ⟨⟨none,0,none,0,none,0,none,0,none,0⟩,by kernel_rfl,dY,by decide,by decide⟩
 have aI:=aM a Z
 have aP:=ai d aI (fun x hx=>ay) (cI.upd aI aC)
 refine L0<|eb (xs:=L) (ys:=([(Ev.mk 3 bq.zero)])) (.agg #[vI 0,vB 0,vW 0,vB 0,vB 0,vW 0,vW 0,vW 0,vW 0,vW 0,vW 0,vW 0,vW 0,vW 0,vW 0,nS,nS,nS,nS,vB 0,vB 0,vB 0,vB 0,vB 0,nS]) 25 168 aP cu.rd cI.ones (fun w' hv=>cI.upd hv (b9 (bi _ aP (by decide)) aC)) (by(try simp only[cD,aN]);omega) (le (le j.size a.size) Z.size) fun cv cw fk cx cy fl=>Pl 1<|nl<|bn<|tn<|go<|Pl 2<|nl<|bn<|?_
 have hz:=jR h (by omega) (by omega)
 have aT:=ut (aD.mono (S':=(ob Bq++[])) Z aA) cy (aB il aA)
 exact dH (e,(L++[(Ev.mk 3 bq.zero)]),cv,cw) ⟨(ut g aT (aB (bE d lr) aA)),(aO.upd' k aT (b9 (bi _ (ai d a (fun x hx=>ay) (cI.upd a aC)) (by decide)) aC)),cx,(by(try dsimp only);omega),(by(try dsimp only);simp only[cD];omega),hz⟩ (by omega)
 have co:=of_decide_eq_false Y
 refine ak 3<|sy 84 X<|Pl 2<|L1<|Oi ((e:Int)-1)<|L1<|iZ b.length ((((e:Int)-1)).toNat) ((e:Int)-1) (by omega) aq (by omega)<|L1<|dX (p:=⟨ao,ap+((((e:Int)-1)).toNat),none⟩) (v:=vB (b.getD ((((e:Int)-1)).toNat) 0)) ar<|Pl 3<|sy 92 q<|Pl 2<|L1<|Oi ((e:Int)-2)<|?_
 have fn:=jb (by omega) f q
 refine L1<|iZ b.length ((((e:Int)-2)).toNat) ((e:Int)-2) (by omega) aG (by omega)<|L1<|dX (p:=⟨aw,aF+((((e:Int)-2)).toNat),none⟩) (v:=vB (b.getD ((((e:Int)-2)).toNat) 0)) aH<|aj 3<|ct W<|ak 4<|iy (eh (P:=Tryz.prog) 27 5 1 Tryz.underlying27 rfl rfl A b.length cp (lo:=(i:Int)) (up:=(e:Int)) (((i:Int)).toNat) (((e:Int)).toNat) (by omega) (by omega) (by omega) (by omega) (by omega)) fun cz hrun88 cA=>L0<|f9 (.slice cz ((((e:Int)).toNat)-(((i:Int)).toNat)) (cp-(((i:Int)).toNat))) (d9 (kl:=.i64) (kh:=.i64) (lo:=(i:Int)) (hi:=(e:Int)) (A:=A) (n:=b.length) (c:=cp) rfl Tryz.underlying27 (by kernel_rfl) (by kernel_rfl) (by kernel_rfl) (hrun88 _ _ _))<|pr (dZ dir ((b.take (((e:Int)).toNat)).drop (((i:Int)).toNat))) fun s J aU=>?_
 refine az<|e2 (gD aU (cA _ _ _ _ _ k) (by rw[List.length_drop,List.length_take];omega)) fun x93 fo cB aV=>?_
 obtain⟨cC,cE,cF⟩:=cB
 refine Pl 3<|aK #[vB 0,vW 0,vB 0,vB 0,vW 0,vW 0,vW 0,vW 0,vW 0,vW 0,vW 0,vW 0,vW 0,vW 0,nS,nS,nS,nS,vB 0,vB 0,vB 0,vB 0,vB 0,nS] fun fp fq cG cH aW=>aE cH (k9 s.unit s.tid s.msg x93) fun cJ cK aX=>aj 1<|go<|Pl 2<|L0<|cO cK<|Pl 1<|L0<|ep (m:=1) (e:=87) (lV ⟨J,s⟩ x93) fun fr fs cL cM aY=>?_
 have aZ:=ud aW (aM aX aY) cG
 have cN:=f5 (w0:=cJ) (x:=(Ev.mk J s)) cL cM ⟨x93,rfl,(aS.upd cC aZ aC),cE,cF⟩
 have b0:=aM aV aZ
 have b1:=aM a b0
 have b2:=ai d b1 (fun x hx=>ay) (cI.upd b1 aC)
 refine L0<|eb (xs:=L) (ys:=([(Ev.mk J s)])) (.agg #[vI 0,vB 0,vW 0,vB 0,vB 0,vW 0,vW 0,vW 0,vW 0,vW 0,vW 0,vW 0,vW 0,vW 0,vW 0,nS,nS,nS,nS,vB 0,vB 0,vB 0,vB 0,vB 0,nS]) 25 168 b2 cN.rd cI.ones (fun w' hv=>cI.upd hv (b9 (bi _ b2 (by decide)) aC)) (by(try simp only[cD,aN]);omega) (le (le (le (le (le j.size a.size) aV.size) aW.size) aX.size) aY.size) fun cP cQ ft cR cS fu=>Pl 1<|nl<|bn<|tn<|go<|Pl 2<|nl<|bn<|?_
 have hzt:zE b i e=true:=by
   unfold zE
   have z0:=q
   have z1:=F
   have z2:=G
   have z3:=W
   have z4:=X
   revert z0 z1 z2 z3 z4
   cases (b.getD ((e:Int)-1).toNat 0==10)<;>cases (b.getD ((e:Int)-2).toNat 0==13)<;>cases (decide (2<(e:Int)-(i:Int)))<;>simp
 have hz:=nA h (by omega) (by omega) f (by omega) hzt aU
 have b3:=ut (aD.mono (S':=(ob Bq++[])) b0 aA) cS (aB il aA)
 exact dH (e,(L++[(Ev.mk J s)]),cP,cQ) ⟨(ut g b3 (aB (bE d lr) aA)),(aO.upd' k b3 (b9 (bi _ (ai d a (fun x hx=>ay) (cI.upd a aC)) (by decide)) aC)),cR,(by(try dsimp only);omega),(by(try dsimp only);simp only[cD];omega),hz⟩ (by omega)
 have cl:=au q
 refine aj 15<|c1<|bp<|bk<|go<|Pl 1<|b6 ((e:Int)+1)<|Pl 1<|nl<|bn<|?_
 have hzf:zE b i e=false:=by
   unfold zE
   have z0:=q
   revert z0
   cases (b.getD ((e:Int)-1).toNat 0==10)<;>cases (b.getD ((e:Int)-2).toNat 0==13)<;>cases (decide (2<(e:Int)-(i:Int)))<;>simp
 have hstep:=mV h (by omega) (by omega) f (by have hq:=V;simpa using hq) (by omega) hzf
 exact dH (e+1) ⟨a,(by(try dsimp only);omega),(by(try dsimp only);omega),(by(try dsimp only);omega),hstep⟩ (by omega)
 refine aj 22<|c0<|xt<|tx<|tx<|bx<|tn<|ak 2<|b6 ((e:Int)-(i:Int))<|Pl 1<|nl<|tn<|sq<|bk<|ax 3<|cb ((decide (513<((e:Int)-(i:Int))))) (fun a0=>?_) (fun a0=>?_)
 have cT:=of_decide_eq_true a0
 refine go<|Pl 2<|L0<|ep (m:=1) (e:=87) #[vI 3,vB 0,vW 0,vB 0,vB 0,vW 0,vW 0,vW 0,vW 0,vW 0,vW 0,vW 0,vW 0,vW 0,vW 0,nS,nS,nS,nS,vB 0,vB 0,vB 0,vB 0,vB 0,nS] fun fv fw cU cW a1=>?_
 have cX:=f5 (m:=true) (w0:=o) (x:=(Ev.mk 3 bq.zero)) cU cW ⟨⟨none,0,none,0,none,0,none,0,none,0⟩,by kernel_rfl,dY,by decide,by decide⟩
 have b4:=aM a a1
 have b5:=ai d b4 (fun x hx=>ay) (cI.upd b4 aC)
 refine L0<|eb (xs:=L) (ys:=([(Ev.mk 3 bq.zero)])) (.agg #[vI 0,vB 0,vW 0,vB 0,vB 0,vW 0,vW 0,vW 0,vW 0,vW 0,vW 0,vW 0,vW 0,vW 0,vW 0,nS,nS,nS,nS,vB 0,vB 0,vB 0,vB 0,vB 0,nS]) 25 168 b5 cX.rd cI.ones (fun w' hv=>cI.upd hv (b9 (bi _ b5 (by decide)) aC)) (by(try simp only[cD,aN]);omega) (le (le j.size a.size) a1.size) fun cY cZ fx d0 d1 fy=>Pl 1<|nl<|bn<|tn<|go<|Pl 2<|nl<|bn<|?_
 have hz:=jR h (by omega) (by omega)
 have b7:=ut (aD.mono (S':=(ob Bq++[])) a1 aA) d1 (aB il aA)
 exact dH (e,(L++[(Ev.mk 3 bq.zero)]),cY,cZ) ⟨(ut g b7 (aB (bE d lr) aA)),(aO.upd' k b7 (b9 (bi _ (ai d a (fun x hx=>ay) (cI.upd a aC)) (by decide)) aC)),d0,(by(try dsimp only);omega),(by(try dsimp only);simp only[cD];omega),hz⟩ (by omega)
 have cT:=of_decide_eq_false a0
 refine ak 3<|bl 84 ((decide (2<((e:Int)-(i:Int))))) (fun l=>?_) (fun l=>?_)
 have d2:=of_decide_eq_true l
 refine Pl 2<|L1<|Oi ((e:Int)-1)<|ea (aO.at_ k ((((e:Int)-1)).toNat) (by omega)) fun d3 d4 d5 d6 fz=>L1<|iZ b.length ((((e:Int)-1)).toNat) ((e:Int)-1) (by omega) d5 (by omega)<|L1<|dX (p:=⟨d3,d4+((((e:Int)-1)).toNat),none⟩) (v:=vB (b.getD ((((e:Int)-1)).toNat) 0)) d6<|Pl 3<|bl 92 (((b.getD ((((e:Int)-1)).toNat) 0)==10)) (fun r=>?_) (fun r=>?_)
 have d7:=am r
 refine Pl 2<|L1<|Oi ((e:Int)-2)<|?_
 have fA:=jb (by omega) f r
 refine ea (aO.at_ k ((((e:Int)-2)).toNat) (by omega)) fun d8 da db dc fB=>L1<|iZ b.length ((((e:Int)-2)).toNat) ((e:Int)-2) (by omega) db (by omega)<|L1<|dX (p:=⟨d8,da+((((e:Int)-2)).toNat),none⟩) (v:=vB (b.getD ((((e:Int)-2)).toNat) 0)) dc<|aj 3<|cb (((b.getD ((((e:Int)-2)).toNat) 0)==13)) (fun D=>?_) (fun D=>?_)
 have dd:=am D
 refine ak 4<|iy (eh (P:=Tryz.prog) 27 5 1 Tryz.underlying27 rfl rfl A b.length cp (lo:=(i:Int)) (up:=(e:Int)) (((i:Int)).toNat) (((e:Int)).toNat) (by omega) (by omega) (by omega) (by omega) (by omega)) fun de hrun165 df=>L0<|f9 (.slice de ((((e:Int)).toNat)-(((i:Int)).toNat)) (cp-(((i:Int)).toNat))) (d9 (kl:=.i64) (kh:=.i64) (lo:=(i:Int)) (hi:=(e:Int)) (A:=A) (n:=b.length) (c:=cp) rfl Tryz.underlying27 (by kernel_rfl) (by kernel_rfl) (by kernel_rfl) (hrun165 _ _ _))<|pr (dZ dir ((b.take (((e:Int)).toNat)).drop (((i:Int)).toNat))) fun t M b8=>?_
 refine az<|e2 (gD b8 (df _ _ _ _ _ k) (by rw[List.length_drop,List.length_take];omega)) fun a2 fC dg ba=>?_
 obtain⟨dh,di,dj⟩:=dg
 refine Pl 3<|aK #[vB 0,vW 0,vB 0,vB 0,vW 0,vW 0,vW 0,vW 0,vW 0,vW 0,vW 0,vW 0,vW 0,vW 0,nS,nS,nS,nS,vB 0,vB 0,vB 0,vB 0,vB 0,nS] fun fD fF dk dl bb=>aE dl (k9 t.unit t.tid t.msg a2) fun dm dn bc=>aj 1<|go<|Pl 2<|L0<|cO dn<|Pl 1<|L0<|ep (m:=1) (e:=87) (lV ⟨M,t⟩ a2) fun fG fH dp dq bd=>?_
 have be:=ud bb (aM bc bd) dk
 have dr:=f5 (w0:=dm) (x:=(Ev.mk M t)) dp dq ⟨a2,rfl,(aS.upd dh be aC),di,dj⟩
 have bf:=aM ba be
 have bg:=aM a bf
 have bh:=ai d bg (fun x hx=>ay) (cI.upd bg aC)
 refine L0<|eb (xs:=L) (ys:=([(Ev.mk M t)])) (.agg #[vI 0,vB 0,vW 0,vB 0,vB 0,vW 0,vW 0,vW 0,vW 0,vW 0,vW 0,vW 0,vW 0,vW 0,vW 0,nS,nS,nS,nS,vB 0,vB 0,vB 0,vB 0,vB 0,nS]) 25 168 bh dr.rd cI.ones (fun w' hv=>cI.upd hv (b9 (bi _ bh (by decide)) aC)) (by(try simp only[cD,aN]);omega) (le (le (le (le (le j.size a.size) ba.size) bb.size) bc.size) bd.size) fun ds dt fI du dv fJ=>Pl 1<|nl<|bn<|tn<|go<|Pl 2<|nl<|bn<|?_
 have hzt:zE b i e=true:=by
   unfold zE
   have z0:=l
   have z1:=r
   have z2:=D
   revert z0 z1 z2
   cases (b.getD ((e:Int)-1).toNat 0==10)<;>cases (b.getD ((e:Int)-2).toNat 0==13)<;>cases (decide (2<(e:Int)-(i:Int)))<;>simp
 have hz:=nA h (by omega) (by omega) f (by omega) hzt b8
 have bj:=ut (aD.mono (S':=(ob Bq++[])) bf aA) dv (aB il aA)
 exact dH (e,(L++[(Ev.mk M t)]),ds,dt) ⟨(ut g bj (aB (bE d lr) aA)),(aO.upd' k bj (b9 (bi _ (ai d a (fun x hx=>ay) (cI.upd a aC)) (by decide)) aC)),du,(by(try dsimp only);omega),(by(try dsimp only);simp only[cD];omega),hz⟩ (by omega)
 have dd:=au D
 refine ax 5<|cb (((e:Int)==(b.length:Int))) (fun a3=>?_) (fun a3=>?_)
 have dw:=am a3
 refine ax 4<|rt<|br<|tr<|br<|tr<|br<|tr<|rr (.tuple #[.slice Bq L.length cq,vI ((e:Int)-(i:Int))])<|?_
 have hzf:zE b i e=false:=by
   unfold zE
   have z0:=l
   have z1:=r
   have z2:=D
   revert z0 z1 z2
   cases (b.getD ((e:Int)-1).toNat 0==10)<;>cases (b.getD ((e:Int)-2).toNat 0==13)<;>cases (decide (2<(e:Int)-(i:Int)))<;>simp
 have hz:hM dir b=(L,e-i):=fm (eN h (by omega) (by omega) f (by omega) hzf) (by omega)
 rw[hz]
 exact⟨_,(by rw[show((e-i:Nat) : Int)=(e:Int)-(i:Int) from by omega]),(ai d a (fun x hx=>ay) (cI.upd a aC)),g⟩
 have dw:=au a3
 refine go<|Pl 2<|L0<|ep (m:=1) (e:=87) #[vI 12,vB 0,vW 0,vB 0,vB 0,vW 0,vW 0,vW 0,vW 0,vW 0,vW 0,vW 0,vW 0,vW 0,vW 0,nS,nS,nS,nS,vB 0,vB 0,vB 0,vB 0,vB 0,nS] fun fK fL dx dy a4=>?_
 have dz:=f5 (m:=true) (w0:=o) (x:=(Ev.mk 12 bq.zero)) dx dy ⟨⟨none,0,none,0,none,0,none,0,none,0⟩,by kernel_rfl,dY,by decide,by decide⟩
 have bm:=aM a a4
 have bo:=ai d bm (fun x hx=>ay) (cI.upd bm aC)
 refine L0<|eb (xs:=L) (ys:=([(Ev.mk 12 bq.zero)])) (.agg #[vI 0,vB 0,vW 0,vB 0,vB 0,vW 0,vW 0,vW 0,vW 0,vW 0,vW 0,vW 0,vW 0,vW 0,vW 0,nS,nS,nS,nS,vB 0,vB 0,vB 0,vB 0,vB 0,nS]) 25 168 bo dz.rd cI.ones (fun w' hv=>cI.upd hv (b9 (bi _ bo (by decide)) aC)) (by(try simp only[cD,aN]);omega) (le (le j.size a.size) a4.size) fun dA dB fM dC dD fN=>Pl 1<|nl<|bn<|tn<|go<|Pl 2<|nl<|bn<|?_
 have hzf:zE b i e=false:=by
   unfold zE
   have z0:=l
   have z1:=r
   have z2:=D
   revert z0 z1 z2
   cases (b.getD ((e:Int)-1).toNat 0==10)<;>cases (b.getD ((e:Int)-2).toNat 0==13)<;>cases (decide (2<(e:Int)-(i:Int)))<;>simp
 have hz:=lG h (by omega) (by omega) f (by omega) hzf (Ba C (by omega))
 have bs:=ut (aD.mono (S':=(ob Bq++[])) a4 aA) dD (aB il aA)
 exact dH (e,(L++[(Ev.mk 12 bq.zero)]),dA,dB) ⟨(ut g bs (aB (bE d lr) aA)),(aO.upd' k bs (b9 (bi _ (ai d a (fun x hx=>ay) (cI.upd a aC)) (by decide)) aC)),dC,(by(try dsimp only);omega),(by(try dsimp only);simp only[cD];omega),hz⟩ (by omega)
 have d7:=au r
 refine aj 8<|c0<|ax 5<|cb (((e:Int)==(b.length:Int))) (fun a5=>?_) (fun a5=>?_)
 have dE:=am a5
 refine ax 4<|rt<|br<|tr<|br<|tr<|br<|tr<|rr (.tuple #[.slice Bq L.length cq,vI ((e:Int)-(i:Int))])<|?_
 have hzf:zE b i e=false:=by
   unfold zE
   have z0:=l
   have z1:=r
   revert z0 z1
   cases (b.getD ((e:Int)-1).toNat 0==10)<;>cases (b.getD ((e:Int)-2).toNat 0==13)<;>cases (decide (2<(e:Int)-(i:Int)))<;>simp
 have hz:hM dir b=(L,e-i):=fm (eN h (by omega) (by omega) f (by omega) hzf) (by omega)
 rw[hz]
 exact⟨_,(by rw[show((e-i:Nat) : Int)=(e:Int)-(i:Int) from by omega]),(ai d a (fun x hx=>ay) (cI.upd a aC)),g⟩
 have dE:=au a5
 refine go<|Pl 2<|L0<|ep (m:=1) (e:=87) #[vI 12,vB 0,vW 0,vB 0,vB 0,vW 0,vW 0,vW 0,vW 0,vW 0,vW 0,vW 0,vW 0,vW 0,vW 0,nS,nS,nS,nS,vB 0,vB 0,vB 0,vB 0,vB 0,nS] fun fO fP dF dG a6=>?_
 have dI:=f5 (m:=true) (w0:=o) (x:=(Ev.mk 12 bq.zero)) dF dG ⟨⟨none,0,none,0,none,0,none,0,none,0⟩,by kernel_rfl,dY,by decide,by decide⟩
 have bt:=aM a a6
 have bu:=ai d bt (fun x hx=>ay) (cI.upd bt aC)
 refine L0<|eb (xs:=L) (ys:=([(Ev.mk 12 bq.zero)])) (.agg #[vI 0,vB 0,vW 0,vB 0,vB 0,vW 0,vW 0,vW 0,vW 0,vW 0,vW 0,vW 0,vW 0,vW 0,vW 0,nS,nS,nS,nS,vB 0,vB 0,vB 0,vB 0,vB 0,nS]) 25 168 bu dI.rd cI.ones (fun w' hv=>cI.upd hv (b9 (bi _ bu (by decide)) aC)) (by(try simp only[cD,aN]);omega) (le (le j.size a.size) a6.size) fun dJ dK fQ dL dM fR=>Pl 1<|nl<|bn<|tn<|go<|Pl 2<|nl<|bn<|?_
 have hzf:zE b i e=false:=by
   unfold zE
   have z0:=l
   have z1:=r
   revert z0 z1
   cases (b.getD ((e:Int)-1).toNat 0==10)<;>cases (b.getD ((e:Int)-2).toNat 0==13)<;>cases (decide (2<(e:Int)-(i:Int)))<;>simp
 have hz:=lG h (by omega) (by omega) f (by omega) hzf (Ba C (by omega))
 have bv:=ut (aD.mono (S':=(ob Bq++[])) a6 aA) dM (aB il aA)
 exact dH (e,(L++[(Ev.mk 12 bq.zero)]),dJ,dK) ⟨(ut g bv (aB (bE d lr) aA)),(aO.upd' k bv (b9 (bi _ (ai d a (fun x hx=>ay) (cI.upd a aC)) (by decide)) aC)),dL,(by(try dsimp only);omega),(by(try dsimp only);simp only[cD];omega),hz⟩ (by omega)
 have d2:=of_decide_eq_false l
 refine aj 16<|c0<|ax 5<|cb (((e:Int)==(b.length:Int))) (fun a7=>?_) (fun a7=>?_)
 have dN:=am a7
 refine ax 4<|rt<|br<|tr<|br<|tr<|br<|tr<|rr (.tuple #[.slice Bq L.length cq,vI ((e:Int)-(i:Int))])<|?_
 have hzf:zE b i e=false:=by
   unfold zE
   have z0:=l
   revert z0
   cases (b.getD ((e:Int)-1).toNat 0==10)<;>cases (b.getD ((e:Int)-2).toNat 0==13)<;>cases (decide (2<(e:Int)-(i:Int)))<;>simp
 have hz:hM dir b=(L,e-i):=fm (eN h (by omega) (by omega) f (by omega) hzf) (by omega)
 rw[hz]
 exact⟨_,(by rw[show((e-i:Nat) : Int)=(e:Int)-(i:Int) from by omega]),(ai d a (fun x hx=>ay) (cI.upd a aC)),g⟩
 have dN:=au a7
 refine go<|Pl 2<|L0<|ep (m:=1) (e:=87) #[vI 12,vB 0,vW 0,vB 0,vB 0,vW 0,vW 0,vW 0,vW 0,vW 0,vW 0,vW 0,vW 0,vW 0,vW 0,nS,nS,nS,nS,vB 0,vB 0,vB 0,vB 0,vB 0,nS] fun fS fT dO dP a8=>?_
 have dQ:=f5 (m:=true) (w0:=o) (x:=(Ev.mk 12 bq.zero)) dO dP ⟨⟨none,0,none,0,none,0,none,0,none,0⟩,by kernel_rfl,dY,by decide,by decide⟩
 have bw:=aM a a8
 have bz:=ai d bw (fun x hx=>ay) (cI.upd bw aC)
 refine L0<|eb (xs:=L) (ys:=([(Ev.mk 12 bq.zero)])) (.agg #[vI 0,vB 0,vW 0,vB 0,vB 0,vW 0,vW 0,vW 0,vW 0,vW 0,vW 0,vW 0,vW 0,vW 0,vW 0,nS,nS,nS,nS,vB 0,vB 0,vB 0,vB 0,vB 0,nS]) 25 168 bz dQ.rd cI.ones (fun w' hv=>cI.upd hv (b9 (bi _ bz (by decide)) aC)) (by(try simp only[cD,aN]);omega) (le (le j.size a.size) a8.size) fun dR dS fU dT dU fV=>Pl 1<|nl<|bn<|tn<|go<|Pl 2<|nl<|bn<|?_
 have hzf:zE b i e=false:=by
   unfold zE
   have z0:=l
   revert z0
   cases (b.getD ((e:Int)-1).toNat 0==10)<;>cases (b.getD ((e:Int)-2).toNat 0==13)<;>cases (decide (2<(e:Int)-(i:Int)))<;>simp
 have hz:=lG h (by omega) (by omega) f (by omega) hzf (Ba C (by omega))
 have bA:=ut (aD.mono (S':=(ob Bq++[])) a8 aA) dU (aB il aA)
 exact dH (e,(L++[(Ev.mk 12 bq.zero)]),dR,dS) ⟨(ut g bA (aB (bE d lr) aA)),(aO.upd' k bA (b9 (bi _ (ai d a (fun x hx=>ay) (cI.upd a aC)) (by decide)) aC)),dT,(by(try dsimp only);omega),(by(try dsimp only);simp only[cD];omega),hz⟩ (by omega)
 have cc:=of_decide_eq_false U
 refine aj 35<|c0<|xt<|tx<|tx<|bx<|tn<|ak 2<|b6 ((e:Int)-(i:Int))<|Pl 1<|nl<|tn<|sq<|bk<|ax 3<|cb ((decide (513<((e:Int)-(i:Int))))) (fun a9=>?_) (fun a9=>?_)
 have dV:=of_decide_eq_true a9
 refine go<|Pl 2<|L0<|ep (m:=1) (e:=87) #[vI 3,vB 0,vW 0,vB 0,vB 0,vW 0,vW 0,vW 0,vW 0,vW 0,vW 0,vW 0,vW 0,vW 0,vW 0,nS,nS,nS,nS,vB 0,vB 0,vB 0,vB 0,vB 0,nS] fun fW fX dW e0 aa=>?_
 have e1:=f5 (m:=true) (w0:=o) (x:=(Ev.mk 3 bq.zero)) dW e0 ⟨⟨none,0,none,0,none,0,none,0,none,0⟩,by kernel_rfl,dY,by decide,by decide⟩
 have ab:=aM a aa
 have bB:=ai d ab (fun x hx=>ay) (cI.upd ab aC)
 refine L0<|eb (xs:=L) (ys:=([(Ev.mk 3 bq.zero)])) (.agg #[vI 0,vB 0,vW 0,vB 0,vB 0,vW 0,vW 0,vW 0,vW 0,vW 0,vW 0,vW 0,vW 0,vW 0,vW 0,nS,nS,nS,nS,vB 0,vB 0,vB 0,vB 0,vB 0,nS]) 25 168 bB e1.rd cI.ones (fun w' hv=>cI.upd hv (b9 (bi _ bB (by decide)) aC)) (by(try simp only[cD,aN]);omega) (le (le j.size a.size) aa.size) fun e3 e4 fY e5 bC fZ=>Pl 1<|nl<|bn<|tn<|go<|Pl 2<|nl<|bn<|?_
 have hz:=jR h (by omega) (by omega)
 exact dH (e,(L++[(Ev.mk 3 bq.zero)]),e3,e4) ⟨(ut g (ut (aD.mono (S':=(ob Bq++[])) aa aA) bC (aB il aA)) (aB (bE d lr) aA)),(aO.upd' B (ut (aD.mono (S':=(ob Bq++[])) ab aA) bC (aB il aA)) (b9 (bi _ d (by decide)) aC)),e5,(by(try dsimp only);omega),(by(try dsimp only);simp only[cD];omega),hz⟩ (by omega)
 have dV:=of_decide_eq_false a9
 refine ak 3<|bl 84 ((decide (2<((e:Int)-(i:Int))))) (fun u=>?_) (fun u=>?_)
 have e6:=of_decide_eq_true u
 refine Pl 2<|L1<|Oi ((e:Int)-1)<|?_
 have E:=aO.upd' B a aC
 refine ea (aO.at_ E ((((e:Int)-1)).toNat) (by omega)) fun e7 e8 e9 ec g0=>L1<|iZ b.length ((((e:Int)-1)).toNat) ((e:Int)-1) (by omega) e9 (by omega)<|L1<|dX (p:=⟨e7,e8+((((e:Int)-1)).toNat),none⟩) (v:=vB (b.getD ((((e:Int)-1)).toNat) 0)) ec<|Pl 3<|bl 92 (((b.getD ((((e:Int)-1)).toNat) 0)==10)) (fun y=>?_) (fun y=>?_)
 have ed:=am y
 refine Pl 2<|L1<|Oi ((e:Int)-2)<|?_
 have g1:=jb (by omega) f y
 refine ea (aO.at_ E ((((e:Int)-2)).toNat) (by omega)) fun ee ef eg ei g2=>L1<|iZ b.length ((((e:Int)-2)).toNat) ((e:Int)-2) (by omega) eg (by omega)<|L1<|dX (p:=⟨ee,ef+((((e:Int)-2)).toNat),none⟩) (v:=vB (b.getD ((((e:Int)-2)).toNat) 0)) ei<|aj 3<|cb (((b.getD ((((e:Int)-2)).toNat) 0)==13)) (fun H=>?_) (fun H=>?_)
 have ej:=am H
 refine ak 4<|iy (eh (P:=Tryz.prog) 27 5 1 Tryz.underlying27 rfl rfl A b.length cp (lo:=(i:Int)) (up:=(e:Int)) (((i:Int)).toNat) (((e:Int)).toNat) (by omega) (by omega) (by omega) (by omega) (by omega)) fun ek hrun303 el=>L0<|f9 (.slice ek ((((e:Int)).toNat)-(((i:Int)).toNat)) (cp-(((i:Int)).toNat))) (d9 (kl:=.i64) (kh:=.i64) (lo:=(i:Int)) (hi:=(e:Int)) (A:=A) (n:=b.length) (c:=cp) rfl Tryz.underlying27 (by kernel_rfl) (by kernel_rfl) (by kernel_rfl) (hrun303 _ _ _))<|pr (dZ dir ((b.take (((e:Int)).toNat)).drop (((i:Int)).toNat))) fun z N bD=>?_
 refine az<|e2 (gD bD (el _ _ _ _ _ E) (by rw[List.length_drop,List.length_take];omega)) fun ac g3 em bF=>?_
 obtain⟨eo,eq,er⟩:=em
 refine Pl 3<|aK #[vB 0,vW 0,vB 0,vB 0,vW 0,vW 0,vW 0,vW 0,vW 0,vW 0,vW 0,vW 0,vW 0,vW 0,nS,nS,nS,nS,vB 0,vB 0,vB 0,vB 0,vB 0,nS] fun g4 g5 es et bG=>aE et (k9 z.unit z.tid z.msg ac) fun eu ev bH=>aj 1<|go<|Pl 2<|L0<|cO ev<|Pl 1<|L0<|ep (m:=1) (e:=87) (lV ⟨N,z⟩ ac) fun g6 g7 ew ex bI=>?_
 have bJ:=ud bG (aM bH bI) es
 have ey:=f5 (w0:=eu) (x:=(Ev.mk N z)) ew ex ⟨ac,rfl,(aS.upd eo bJ aC),eq,er⟩
 have bK:=aM bF bJ
 have bL:=aM a bK
 have bM:=ai d bL (fun x hx=>ay) (cI.upd bL aC)
 refine L0<|eb (xs:=L) (ys:=([(Ev.mk N z)])) (.agg #[vI 0,vB 0,vW 0,vB 0,vB 0,vW 0,vW 0,vW 0,vW 0,vW 0,vW 0,vW 0,vW 0,vW 0,vW 0,nS,nS,nS,nS,vB 0,vB 0,vB 0,vB 0,vB 0,nS]) 25 168 bM ey.rd cI.ones (fun w' hv=>cI.upd hv (b9 (bi _ bM (by decide)) aC)) (by(try simp only[cD,aN]);omega) (le (le (le (le (le j.size a.size) bF.size) bG.size) bH.size) bI.size) fun ez eA g8 eB eC g9=>Pl 1<|nl<|bn<|tn<|go<|Pl 2<|nl<|bn<|?_
 have hzt:zE b i e=true:=by
   unfold zE
   have z0:=u
   have z1:=y
   have z2:=H
   revert z0 z1 z2
   cases (b.getD ((e:Int)-1).toNat 0==10)<;>cases (b.getD ((e:Int)-2).toNat 0==13)<;>cases (decide (2<(e:Int)-(i:Int)))<;>simp
 have hz:=nA h (by omega) (by omega) f (by omega) hzt bD
 have bN:=ut (aD.mono (S':=(ob Bq++[])) bK aA) eC (aB il aA)
 exact dH (e,(L++[(Ev.mk N z)]),ez,eA) ⟨(ut g bN (aB (bE d lr) aA)),(aO.upd' E bN (b9 (bi _ (ai d a (fun x hx=>ay) (cI.upd a aC)) (by decide)) aC)),eB,(by(try dsimp only);omega),(by(try dsimp only);simp only[cD];omega),hz⟩ (by omega)
 have ej:=au H
 refine ax 5<|cb (((e:Int)==(b.length:Int))) (fun ad=>?_) (fun ad=>?_)
 have eD:=am ad
 refine ax 4<|rt<|br<|tr<|br<|tr<|br<|tr<|rr (.tuple #[.slice Bq L.length cq,vI ((e:Int)-(i:Int))])<|?_
 have hzf:zE b i e=false:=by
   unfold zE
   have z0:=u
   have z1:=y
   have z2:=H
   revert z0 z1 z2
   cases (b.getD ((e:Int)-1).toNat 0==10)<;>cases (b.getD ((e:Int)-2).toNat 0==13)<;>cases (decide (2<(e:Int)-(i:Int)))<;>simp
 have hz:hM dir b=(L,e-i):=fm (eN h (by omega) (by omega) f (by omega) hzf) (by omega)
 rw[hz]
 exact⟨_,(by rw[show((e-i:Nat) : Int)=(e:Int)-(i:Int) from by omega]),(ai d a (fun x hx=>ay) (cI.upd a aC)),g⟩
 have eD:=au ad
 refine go<|Pl 2<|L0<|ep (m:=1) (e:=87) #[vI 12,vB 0,vW 0,vB 0,vB 0,vW 0,vW 0,vW 0,vW 0,vW 0,vW 0,vW 0,vW 0,vW 0,vW 0,nS,nS,nS,nS,vB 0,vB 0,vB 0,vB 0,vB 0,nS] fun ga gb eE eF ae=>?_
 have eG:=f5 (m:=true) (w0:=o) (x:=(Ev.mk 12 bq.zero)) eE eF ⟨⟨none,0,none,0,none,0,none,0,none,0⟩,by kernel_rfl,dY,by decide,by decide⟩
 have bO:=aM a ae
 have bP:=ai d bO (fun x hx=>ay) (cI.upd bO aC)
 refine L0<|eb (xs:=L) (ys:=([(Ev.mk 12 bq.zero)])) (.agg #[vI 0,vB 0,vW 0,vB 0,vB 0,vW 0,vW 0,vW 0,vW 0,vW 0,vW 0,vW 0,vW 0,vW 0,vW 0,nS,nS,nS,nS,vB 0,vB 0,vB 0,vB 0,vB 0,nS]) 25 168 bP eG.rd cI.ones (fun w' hv=>cI.upd hv (b9 (bi _ bP (by decide)) aC)) (by(try simp only[cD,aN]);omega) (le (le j.size a.size) ae.size) fun eI eJ gc eK eL gd=>Pl 1<|nl<|bn<|tn<|go<|Pl 2<|nl<|bn<|?_
 have hz:kB dir b e (L++[(Ev.mk 12 bq.zero)]):=by exfalso;omega
 have bQ:=ut (aD.mono (S':=(ob Bq++[])) ae aA) eL (aB il aA)
 exact dH (e,(L++[(Ev.mk 12 bq.zero)]),eI,eJ) ⟨(ut g bQ (aB (bE d lr) aA)),(aO.upd' E bQ (b9 (bi _ (ai d a (fun x hx=>ay) (cI.upd a aC)) (by decide)) aC)),eK,(by(try dsimp only);omega),(by(try dsimp only);simp only[cD];omega),hz⟩ (by omega)
 have ed:=au y
 refine aj 8<|c0<|ax 5<|cb (((e:Int)==(b.length:Int))) (fun af=>?_) (fun af=>?_)
 have eM:=am af
 refine ax 4<|rt<|br<|tr<|br<|tr<|br<|tr<|rr (.tuple #[.slice Bq L.length cq,vI ((e:Int)-(i:Int))])<|?_
 have hzf:zE b i e=false:=by
   unfold zE
   have z0:=u
   have z1:=y
   revert z0 z1
   cases (b.getD ((e:Int)-1).toNat 0==10)<;>cases (b.getD ((e:Int)-2).toNat 0==13)<;>cases (decide (2<(e:Int)-(i:Int)))<;>simp
 have hz:hM dir b=(L,e-i):=fm (eN h (by omega) (by omega) f (by omega) hzf) (by omega)
 rw[hz]
 exact⟨_,(by rw[show((e-i:Nat) : Int)=(e:Int)-(i:Int) from by omega]),(ai d a (fun x hx=>ay) (cI.upd a aC)),g⟩
 have eM:=au af
 refine go<|Pl 2<|L0<|ep (m:=1) (e:=87) #[vI 12,vB 0,vW 0,vB 0,vB 0,vW 0,vW 0,vW 0,vW 0,vW 0,vW 0,vW 0,vW 0,vW 0,vW 0,nS,nS,nS,nS,vB 0,vB 0,vB 0,vB 0,vB 0,nS] fun ge gf eO eP ag=>?_
 have eQ:=f5 (m:=true) (w0:=o) (x:=(Ev.mk 12 bq.zero)) eO eP ⟨⟨none,0,none,0,none,0,none,0,none,0⟩,by kernel_rfl,dY,by decide,by decide⟩
 have bR:=aM a ag
 have bS:=ai d bR (fun x hx=>ay) (cI.upd bR aC)
 refine L0<|eb (xs:=L) (ys:=([(Ev.mk 12 bq.zero)])) (.agg #[vI 0,vB 0,vW 0,vB 0,vB 0,vW 0,vW 0,vW 0,vW 0,vW 0,vW 0,vW 0,vW 0,vW 0,vW 0,nS,nS,nS,nS,vB 0,vB 0,vB 0,vB 0,vB 0,nS]) 25 168 bS eQ.rd cI.ones (fun w' hv=>cI.upd hv (b9 (bi _ bS (by decide)) aC)) (by(try simp only[cD,aN]);omega) (le (le j.size a.size) ag.size) fun eR eS gg eT eU gh=>Pl 1<|nl<|bn<|tn<|go<|Pl 2<|nl<|bn<|?_
 have hz:kB dir b e (L++[(Ev.mk 12 bq.zero)]):=by exfalso;omega
 have bT:=ut (aD.mono (S':=(ob Bq++[])) ag aA) eU (aB il aA)
 exact dH (e,(L++[(Ev.mk 12 bq.zero)]),eR,eS) ⟨(ut g bT (aB (bE d lr) aA)),(aO.upd' E bT (b9 (bi _ (ai d a (fun x hx=>ay) (cI.upd a aC)) (by decide)) aC)),eT,(by(try dsimp only);omega),(by(try dsimp only);simp only[cD];omega),hz⟩ (by omega)
 have e6:=of_decide_eq_false u
 refine aj 16<|c0<|ax 5<|cb (((e:Int)==(b.length:Int))) (fun ah=>?_) (fun ah=>?_)
 have eV:=am ah
 refine ax 4<|rt<|br<|tr<|br<|tr<|br<|tr<|rr (.tuple #[.slice Bq L.length cq,vI ((e:Int)-(i:Int))])<|?_
 have hzf:zE b i e=false:=by
   unfold zE
   have z0:=u
   revert z0
   cases (b.getD ((e:Int)-1).toNat 0==10)<;>cases (b.getD ((e:Int)-2).toNat 0==13)<;>cases (decide (2<(e:Int)-(i:Int)))<;>simp
 have hz:hM dir b=(L,e-i):=fm (eN h (by omega) (by omega) f (by omega) hzf) (by omega)
 rw[hz]
 exact⟨_,(by rw[show((e-i:Nat) : Int)=(e:Int)-(i:Int) from by omega]),(ai d a (fun x hx=>ay) (cI.upd a aC)),g⟩
 have eV:=au ah
 refine go<|Pl 2<|L0<|ep (m:=1) (e:=87) #[vI 12,vB 0,vW 0,vB 0,vB 0,vW 0,vW 0,vW 0,vW 0,vW 0,vW 0,vW 0,vW 0,vW 0,vW 0,nS,nS,nS,nS,vB 0,vB 0,vB 0,vB 0,vB 0,nS] fun gi gj eW eX al=>?_
 have eY:=f5 (m:=true) (w0:=o) (x:=(Ev.mk 12 bq.zero)) eW eX ⟨⟨none,0,none,0,none,0,none,0,none,0⟩,by kernel_rfl,dY,by decide,by decide⟩
 have an:=aM a al
 have bU:=ai d an (fun x hx=>ay) (cI.upd an aC)
 refine L0<|eb (xs:=L) (ys:=([(Ev.mk 12 bq.zero)])) (.agg #[vI 0,vB 0,vW 0,vB 0,vB 0,vW 0,vW 0,vW 0,vW 0,vW 0,vW 0,vW 0,vW 0,vW 0,vW 0,nS,nS,nS,nS,vB 0,vB 0,vB 0,vB 0,vB 0,nS]) 25 168 bU eY.rd cI.ones (fun w' hv=>cI.upd hv (b9 (bi _ bU (by decide)) aC)) (by(try simp only[cD,aN]);omega) (le (le j.size a.size) al.size) fun eZ f0 gk f1 bV gl=>Pl 1<|nl<|bn<|tn<|go<|Pl 2<|nl<|bn<|?_
 have hz:kB dir b e (L++[(Ev.mk 12 bq.zero)]):=by exfalso;omega
 exact dH (e,(L++[(Ev.mk 12 bq.zero)]),eZ,f0) ⟨(ut g (ut (aD.mono (S':=(ob Bq++[])) al aA) bV (aB il aA)) (aB (bE d lr) aA)),(aO.upd' B (ut (aD.mono (S':=(ob Bq++[])) an aA) bV (aB il aA)) (b9 (bi _ d (by decide)) aC)),f1,(by(try dsimp only);omega),(by(try dsimp only);simp only[cD];omega),hz⟩ (by omega)
 have c3:=of_decide_eq_false R
 refine xt<|tx<|tx<|bx<|tn<|ax 3<|rt<|rr (.tuple #[.slice Bq L.length cq,vI 0])<|?_
 have hz:hM dir b=(L,0):=v6 Q (by omega)
 rw[hz]
 exact⟨_,rfl,d,j⟩
theorem Bm{v:Value}{b:List Int}{w:World}{dir:Int}(h:aO true w v b)(hb:b.length≤1048576) : Calls Tryz.prog 23 #[.int .i64 dir,v] w (lw (hM dir b) w):=by
  obtain⟨A,cp,rfl,hc,_⟩:=h.shape
  exact xY h hb hc
open Go.RowKit
theorem hZ{k d:Int}{ps:List Pc}{i:Nat}{s:List Int × List Ev}(h:er k d (ps.take i)=s)(hi:ps.length≤i) : er k d ps=s:=by rwa [List.take_of_length_le hi] at h
theorem gJ.mk{A:Option Addr}(hA:∀ y,y∈ob A→False){w:World}{x:Ev}{cs:List Value}(h:cI true w x cs) : gJ A w.heap.size w x cs:=⟨Nat.le_refl _,fun w' X hu ha=>cI.upd hu (fun y hy=>by
  rcases ha y hy with k|k|⟨c,t,fr,k,k2⟩
  · exact .inl k
  · exact(hA y k).elim
  · exact .inr ⟨rfl,c,t,fr,k,.inl k2⟩) x cs h⟩
theorem ic:∀ y,y∈ob none→False:=fun y hy=>by simp[ob] at hy
theorem uQ{m:Md}{A:Option Addr}{cp:Nat}{ps:List Pc}{w:World}{k0 d:Int}(hd:d=0∨d=1)(h:iS m w (.slice A ps.length cp) ps)(hps:ps.length≤1000)(hsum:el ps≤100000) : Calls Tryz.prog 36 #[vI k0,vI d,.slice A ps.length cp] w (lw (ek k0 d ps) w):=by
 have hz:=aI.len h
 refine en 72 Tryz.func36 rfl<|ax 2<|sq<|ak 3<|cV 3 [14] 17 14 (d != 0) (d != 1) (fun K a0 a1=>?_) ?_
 have b4:=av a1
 exact Pl 3<|ce a0 _ rfl
 refine nt<|cf (yF hd)<|bp<|ak 1<|aL 1<|nl<|tn<|sq<|ax 1<|bk<|?_
 refine fE (fun x=>[(0,vI k0),(1,vI d),(2,.slice A ps.length cp),(6,nS),(7,vI 0),(8,.slice x.2.2.1 x.2.1.length x.2.2.2.1),(9,.slice x.2.2.2.2.2.1 x.2.2.2.2.1.length x.2.2.2.2.2.2.1),(10,vI (x.1:Int))]) (fun(x:Nat × List Int × Option Addr × Nat × List Ev × Option Addr × Nat × Nat) w'=>aD [] w w'∧du w.heap.size w' (.slice x.2.2.1 x.2.1.length x.2.2.2.1) x.2.1∧u6 x.2.2.1 x.2.2.2.2.2.2.2 w.heap.size w' (.slice x.2.2.2.2.2.1 x.2.2.2.2.1.length x.2.2.2.2.2.2.1) x.2.2.2.2.1∧x.2.2.2.2.2.2.2≤w'.heap.size∧(x.1≤ps.length)∧(er k0 d (ps.take x.1)=(x.2.1,x.2.2.2.2.1))∧(x.2.1.length≤el (ps.take x.1))∧(x.2.2.2.2.1.length≤x.1)) (fun x=>ps.length-x.1) (0,[],none,0,[],none,0,w.heap.size) ⟨aD.refl _ _,(aQ.nil w.heap.size _ _ ma _),(aQ.nil w.heap.size _ _ (gJ none w.heap.size) _),lr,(by(try dsimp only);omega),rfl,(by(try dsimp only);exact Nat.zero_le _),(by(try dsimp only);exact Nat.zero_le _)⟩ ?_
 rintro⟨i,b,Ab,cpb,o,Bq,cq,n⟩ D ⟨a,a2,a3,a4,a5,a6,a7,a8⟩
 refine eH [(0,vI k0),(1,vI d),(2,.slice A ps.length cp),(6,nS),(7,vI 0),(8,.slice Ab b.length cpb),(9,.slice Bq o.length cq),(10,vI (i:Int))] ?_
 have g:du w.heap.size D (.slice Ab b.length cpb) b:=a2
 have f:u6 Ab n w.heap.size D (.slice Bq o.length cq) o:=a3
 have a9:n≤D.heap.size:=a4
 have hni:=a9
 have b5:i≤ps.length:=a5
 have j:er k0 d (ps.take i)=(b,o):=a6
 have b7:b.length≤el (ps.take i):=a7
 have b8:o.length≤i:=a8
 refine sq<|ax 4<|cb ((decide ((i:Int)<(ps.length:Int)))) (fun E=>?_) (fun E=>?_)
 have aa:=of_decide_eq_true E
 refine bp<|sq<|bk<|ak 3<|l0 (iS.elt h i (by omega)) fun L M b9 ba bb ab ac N O ad bc P=>L0<|lx 2 ps.length i N (by omega)<|Pl 1<|?_
 have Q:=ub a O
 refine L0<|dX (p:=⟨L,M+i*2+0,none⟩) (v:=.slice ab ((ps.getD i Pc.z).bytes.length) ac) (eJ Q P 0 rfl (by decide))<|?_
 have hpart:=mX (ps:=ps) (k:=i) (by omega)
 refine L0<|eb (R:=ma) (xs:=b) (ys:=((ps.getD i Pc.z).bytes)) (vB 0) 1 1 g (aO.old ad a) nO (fun _ _ _ _ h=>h) (by(try simp only[cD,aN]);omega) a.size fun S T bd F c U=>Pl 1<|aL 3<|?_
 have G:=ut a c (aB (bE g lr) aA)
 refine bl 33 ((k0==0)) (fun r=>?_) (fun r=>?_)
 have ae:=am r
 refine Pl 2<|L1<|lx 2 ps.length i N (by omega)<|Pl 1<|?_
 refine L1<|dX (p:=⟨L,M+i*2+1,none⟩) (v:=.bool ((ps.getD i Pc.z).tick)) (eJ (aD.blk c (aZ (aG (ag O) lr g) ay) Q) P 1 rfl (by decide))<|aj 1<|cb ((ps.getD i Pc.z).tick) (fun H=>?_) (fun H=>?_)
 refine ak 3<|?_
 have hpt:=fU (ps:=ps) i
 refine az<|nk (v9 (dir:=d) (ended:=true) (F).rd (by(try simp only[List.length_append]);omega)) fun be bf V af bg bh I=>?_
 have bi:=jg (d:=d) (b:=(b++(ps.getD i Pc.z).bytes)) (e:=true)
 have J:=aM c I
 have W:=ai f J (fun x hx=>(aZ ((cz f g (by decide)) x hx) ay)) (fun x cs q=>gJ.upd J (qg eX) q)
 refine L0<|eb (R:=gJ none V.heap.size) (xs:=o) (ys:=(dI d (b++(ps.getD i Pc.z).bytes) true)) (.agg #[vI 0,vB 0,vW 0,vB 0,vB 0,vW 0,vW 0,vW 0,vW 0,vW 0,vW 0,vW 0,vW 0,vW 0,vW 0,nS,nS,nS,nS,vB 0,vB 0,vB 0,vB 0,vB 0,nS]) 25 168 (aQ.map W fun x cs q=>gJ.row (A2:=none) (fun y hy=>(ic y hy).elim) (Nat.le_trans hni J.size) (Nat.le_refl _) q) (aQ.map af fun x cs q=>gJ.mk ic q).rd gJ.ones (fun w' hv x cs q=>gJ.upd hv (qQ W (by decide) eX) q) (by(try simp only[cD,aN]);omega) (le (le a.size c.size) I.size) fun ah al bj an X bm=>aj 1<|go<|Pl 1<|nl<|bn<|tn<|go<|Pl 1<|b6 ((i:Int)+1)<|Pl 1<|nl<|?_
 exact dH ((i+1),[],none,0,(o++(dI d (b++(ps.getD i Pc.z).bytes) true)),ah,al,V.heap.size) ⟨(ut G (ut (aD.mono (S':=(ob Bq++[])) I aA) X (aB il aA)) (aB (bE f lr) aA)),(aQ.nil w.heap.size _ _ ma _),an,X.size,(by(try dsimp only);omega),(by(try dsimp only);rw[gZ (by omega),j];unfold dB;simp only[r,H,Bool.true_and,Bool.false_and,cond_true,cond_false]),(by(try dsimp only);have y:=ga (ps:=ps) (k:=i) (by omega);(try simp only[List.length_append,List.length_nil]);omega),(by(try dsimp only);(try simp only[List.length_append]);omega)⟩ (by omega)
 refine sk<|bn<|tn<|go<|Pl 1<|b6 ((i:Int)+1)<|Pl 1<|nl<|?_
 exact dH ((i+1),(b++(ps.getD i Pc.z).bytes),S,T,o,Bq,cq,n) ⟨G,F,(aQ.map (ai f c (fun x hx=>(aZ ((cz f g (by decide)) x hx) ay)) (fun x cs q=>gJ.upd c (qg eX) q)) fun x cs q=>gJ.row (vq U (Nat.le_trans hni lr)) (Nat.le_refl _) (Nat.le_trans hni c.size) q),(Nat.le_trans hni c.size),(by(try dsimp only);omega),(by(try dsimp only);rw[gZ (by omega),j];unfold dB;simp only[r,H,Bool.true_and,Bool.false_and,cond_true,cond_false]),(by(try dsimp only);have y:=ga (ps:=ps) (k:=i) (by omega);(try simp only[List.length_append,List.length_nil]);omega),(by(try dsimp only);(try simp only[List.length_append]);omega)⟩ (by omega)
 have ae:=au r
 refine aj 6<|c0<|sk<|bn<|tn<|go<|Pl 1<|b6 ((i:Int)+1)<|Pl 1<|nl<|?_
 exact dH ((i+1),(b++(ps.getD i Pc.z).bytes),S,T,o,Bq,cq,n) ⟨G,F,(aQ.map (ai f c (fun x hx=>(aZ ((cz f g (by decide)) x hx) ay)) (fun x cs q=>gJ.upd c (qg eX) q)) fun x cs q=>gJ.row (vq U (Nat.le_trans hni lr)) (Nat.le_refl _) (Nat.le_trans hni c.size) q),(Nat.le_trans hni c.size),(by(try dsimp only);omega),(by(try dsimp only);rw[gZ (by omega),j];unfold dB;simp only[r,Bool.true_and,Bool.false_and,cond_true,cond_false]),(by(try dsimp only);have y:=ga (ps:=ps) (k:=i) (by omega);(try simp only[List.length_append,List.length_nil]);omega),(by(try dsimp only);(try simp only[List.length_append]);omega)⟩ (by omega)
 have aa:=of_decide_eq_false E
 refine xt<|tx<|tx<|bx<|tn<|sq<|ax 1<|bk<|ax 2<|cb ((k0==0)) (fun l=>?_) (fun l=>?_)
 have ao:=am l
 refine ax 3<|sq<|ax 2<|cb ((decide (256<(b.length:Int)))) (fun t=>?_) (fun t=>?_)
 have ap:=of_decide_eq_true t
 refine go<|Pl 1<|aL 3<|?_
 have hpt:=fU (ps:=ps) i
 refine az<|nk (v9 (dir:=d) (ended:=false) (g).rd (by(try simp only[List.length_append]);omega)) fun bo bq aq ar bs bt u=>?_
 have bu:=jg (d:=d) (b:=b) (e:=false)
 have Y:=ai f u (fun x hx=>ay) (fun x cs q=>gJ.upd u eX q)
 refine L0<|eb (R:=gJ none aq.heap.size) (xs:=o) (ys:=(dI d b false)) (.agg #[vI 0,vB 0,vW 0,vB 0,vB 0,vW 0,vW 0,vW 0,vW 0,vW 0,vW 0,vW 0,vW 0,vW 0,vW 0,nS,nS,nS,nS,vB 0,vB 0,vB 0,vB 0,vB 0,nS]) 25 168 (aQ.map Y fun x cs q=>gJ.row (A2:=none) (fun y hy=>(ic y hy).elim) (Nat.le_trans hni u.size) (Nat.le_refl _) q) (aQ.map ar fun x cs q=>gJ.mk ic q).rd gJ.ones (fun w' hv x cs q=>gJ.upd hv (qQ Y (by decide) eX) q) (by(try simp only[cD,aN]);omega) (le a.size u.size) fun aw aC bv aE aF bw=>aj 3<|rt<|br<|tr<|rr (.tuple #[.slice aw ((o++(dI d b false)).length) aC,vI 0])<|?_
 have hfold:=hZ j (by omega)
 have hl:u7 b=0:=by unfold u7;rw[if_neg (by have y:=of_decide_eq_true t;omega)]
 have hs:ek k0 d ps=((o++(dI d b false)),0):=by unfold ek;rw[hfold];unfold fT;simp only[l,cond_true,cond_false,hl]
 rw[hs]
 exact⟨_,rfl,u6.own aE,(ut a (ut (aD.mono (S':=(ob Bq++[])) u aA) aF (aB il aA)) (aB (bE f lr) aA))⟩
 have ap:=of_decide_eq_false t
 refine bp<|ak 3<|?_
 have hpt:=fU (ps:=ps) i
 refine az<|nk (v9 (dir:=d) (ended:=false) (g).rd (by(try simp only[List.length_append]);omega)) fun bz bA aH aJ bB bC B=>?_
 have bD:=jg (d:=d) (b:=b) (e:=false)
 have Z:=ai f B (fun x hx=>ay) (fun x cs q=>gJ.upd B eX q)
 refine L0<|eb (R:=gJ none aH.heap.size) (xs:=o) (ys:=(dI d b false)) (.agg #[vI 0,vB 0,vW 0,vB 0,vB 0,vW 0,vW 0,vW 0,vW 0,vW 0,vW 0,vW 0,vW 0,vW 0,vW 0,nS,nS,nS,nS,vB 0,vB 0,vB 0,vB 0,vB 0,nS]) 25 168 (aQ.map Z fun x cs q=>gJ.row (A2:=none) (fun y hy=>(ic y hy).elim) (Nat.le_trans hni B.size) (Nat.le_refl _) q) (aQ.map aJ fun x cs q=>gJ.mk ic q).rd gJ.ones (fun w' hv x cs q=>gJ.upd hv (qQ Z (by decide) eX) q) (by(try simp only[cD,aN]);omega) (le a.size B.size) fun aK aP bF aR aS bG=>aj 3<|rt<|br<|tr<|rr (.tuple #[.slice aK ((o++(dI d b false)).length) aP,vI (b.length:Int)])<|?_
 have hfold:=hZ j (by omega)
 have hl:u7 b=b.length:=by unfold u7;rw[if_pos (by have y:=of_decide_eq_false t;omega)]
 have hs:ek k0 d ps=((o++(dI d b false)),b.length):=by unfold ek;rw[hfold];unfold fT;simp only[l,cond_true,cond_false,hl]
 rw[hs]
 exact⟨_,rfl,u6.own aR,(ut a (ut (aD.mono (S':=(ob Bq++[])) B aA) aS (aB il aA)) (aB (bE f lr) aA))⟩
 have ao:=au l
 refine ax 2<|cb ((k0==1)) (fun s=>?_) (fun s=>?_)
 have aT:=am s
 refine ak 2<|?_
 have hpt:=fU (ps:=ps) i
 refine az<|nk (Bm (dir:=d) (g).rd (by(try simp only[List.length_append]);omega)) fun aU aV bH aW bI bJ aX=>aj 4<|rt<|br<|tr<|rr (.tuple #[.slice aU (((hM d b).1).length) aV,vI (((hM d b).2:Nat) : Int)])<|?_
 have hfold:=hZ j (by omega)
 have hs:ek k0 d ps=(hM d b):=by unfold ek;rw[hfold];unfold fT;simp only[l,s,cond_true,cond_false]
 rw[hs]
 exact⟨_,rfl,aQ.weaken aW a.size,(aM a aX)⟩
 have aT:=au s
 refine ax 2<|cb ((k0==2)) (fun C=>?_) (fun C=>?_)
 have aY:=am C
 refine ak 2<|?_
 have hpt:=fU (ps:=ps) i
 refine az<|nk (AW (dir:=d) (g).rd (by(try simp only[List.length_append]);omega)) fun b0 b1 bK b2 bL bM b3=>aj 4<|rt<|br<|tr<|rr (.tuple #[.slice b0 (((dV d b.length b).1).length) b1,vI (((dV d b.length b).2:Nat) : Int)])<|?_
 have hfold:=hZ j (by omega)
 have hs:ek k0 d ps=(dV d b.length b):=by unfold ek;rw[hfold];unfold fT;simp only[l,s,C,cond_true,cond_false]
 rw[hs]
 exact⟨_,rfl,aQ.weaken b2 a.size,(aM a b3)⟩
 have aY:=au C
 refine sk<|bn<|tn<|ax 2<|rt<|rr (.tuple #[nS,vI 0])<|?_
 have hfold:=hZ j (by omega)
 have hs:ek k0 d ps=([],0):=by unfold ek;rw[hfold];unfold fT;simp only[l,s,C,cond_true,cond_false]
 rw[hs]
 exact⟨_,rfl,aQ.nil ..,a⟩
theorem xP{v:Value}{w:World}{k0 d:Int}(e0:(d != 0)=true)(e1:(d != 1)=true) : Calls Tryz.prog 36 #[vI k0,vI d,v] w (lw ([],0) w):=by
 exact en 72 Tryz.func36 rfl<|ax 2<|sq<|ak 3<|sy 14 e0<|aj 3<|ct e1<|ax 2<|bh<|rr (.tuple #[nS,vI 0])<|⟨_,rfl,aQ.nil ..,(aD.refl [] _)⟩
theorem yt{m:Md}{v:Value}{ps:List Pc}{w:World}{k0 d:Int}(hd:d=0∨d=1)(h:iS m w v ps)(hps:ps.length≤1000)(hsum:el ps≤100000) : Calls Tryz.prog 36 #[.int .i64 k0,.int .i64 d,v] w (lw (ek k0 d ps) w):=by
  obtain⟨A,cp,rfl,_,_⟩:=h.shape
  exact uQ hd h hps hsum
open Go.RowKit
theorem iS.range{m:Md}{w:World}{v:Value}{ps:List Pc}(h:iS m w v ps) : ∀ x,x∈(ps.map Pc.bytes).flatten→0≤x∧x<256:=by
  intro x hx
  obtain⟨l,hl,hx⟩:=List.mem_flatten.1 hx
  obtain⟨p,hp,rfl⟩:=List.mem_map.1 hl
  obtain⟨j,hj,e⟩:=List.getElem_of_mem hp
  obtain⟨A,c,rfl,_,_,_,h3⟩:=h
  obtain⟨b,off,cells,t,fr,_,_,_,h4⟩:=h3 (by omega)
  obtain⟨cs,_,⟨v,_,h5⟩,_⟩:=h4 j p (by rw[List.getElem?_eq_getElem hj,e])
  exact h5.range x hx
theorem rz{w:World}{k d:Int}(hb:(o7 k==0)=true) : Calls Tryz.prog 37 #[vI k,vI d] w (bD (.pointer none) w):=by
 exact en 36 Tryz.func37 rfl<|ax 1<|sq<|ak 1<|az<|m1 (i7 (k:=k)) fun b a=>Pl 2<|sy 8 hb<|Pl 7<|nl<|tn<|c1<|ax 1<|bh<|rr (.pointer none)<|⟨rfl,a⟩
theorem pL{w:World}{k d:Int}(hb:((d != 0)&&(d != 1))=true) : Calls Tryz.prog 37 #[vI k,vI d] w (bD (.pointer none) w):=by
 refine en 36 Tryz.func37 rfl<|ax 1<|sq<|ak 1<|az<|m1 (i7 (k:=k)) fun i c=>Pl 2<|cu 7 [8] 15 ((((o7 k)==0)||((d != 0)&&(d != 1)))) (fun K b=>?_) ?_
 refine bl 8 (((o7 k)==0)) (fun a=>?_) (fun a=>?_)
 have e:=am a
 exact Pl 7<|ce b true (by rw[a];rfl)
 have e:=au a
 refine Pl 3<|cV 3 [11] 14 11 (d != 0) (d != 1) (fun K f g=>?_) ?_
 have j:=av g
 exact Pl 3<|ce f _ rfl
 exact Pl 1<|ce b ((d != 0)&&(d != 1)) (by rw[a];rfl)
 refine nt<|?_
 have h:(((o7 k)==0)||((d != 0)&&(d != 1)))=true:=by simp only[hb,bs]
 exact ct h<|ax 1<|bh<|rr (.pointer none)<|⟨rfl,c⟩
theorem oD{w:World}{k d:Int}(hb:o9 k d=false) : Calls Tryz.prog 37 #[.int .i64 k,.int .i64 d] w (bD (.pointer none) w):=by
  rcases zh hb with h|h
  · exact rz h
  · exact pL h
theorem vN{v:Value}{w:World}{k d:Int}(hb:o9 k d=false) : Calls Tryz.prog 34 #[vI k,vI d,v] w (lw ([],0) w):=by
 exact en 32 Tryz.func34 rfl<|ak 2<|aL 2<|az<|m1 (oD hb) fun b a=>aj 1<|sq<|ax 2<|c1<|ax 2<|bh<|rr (.tuple #[nS,vI 0])<|⟨_,rfl,aQ.nil ..,a⟩
theorem BC{m:Md}{v:Value}{ps:List Pc}{w:World}{k d:Int}(h:iS m w v ps)(hps:ps.length≤1000)(hsum:el ps≤100000) : Calls Tryz.prog 34 #[.int .i64 k,.int .i64 d,v] w (lw (lb k d ps) w):=by
  unfold lb
  cases hb:o9 k d with
  | false=>exact vN hb
  | true =>
    obtain⟨hk,hd⟩:=zf hb
    show Calls _ _ _ _ (lw (ek k d ps) w)
    rw[wq hk h.range]
    exact rM hk hd h hps hsum
theorem Ao{m:Md}{v:Value}{ps:List Pc}{w:World}{k d:Int}(h:iS m w v ps)(hps:ps.length≤1000)(hsum:el ps≤100000) : Calls Tryz.prog 36 #[.int .i64 k,.int .i64 d,v] w (lw (lb k d ps) w):=by
  by_cases hd:d=0∨d=1
  · rw[← xp hd]
    exact yt hd h hps hsum
  · have e0:(d != 0)=true:=bne_iff_ne.2 fun e=>hd (.inl e)
    have e1:(d != 1)=true:=bne_iff_ne.2 fun e=>hd (.inr e)
    have e:lb k d ps=([],0):=by
      unfold lb o9
      rw[show(d==0)=false by rw[beq_eq_false_iff_ne];omega,show(d==1)=false by rw[beq_eq_false_iff_ne];omega]
      simp
    rw[e]
    exact xP e0 e1
theorem uk{ev:Operand→Value}{o:Oper}{x y:Operand}{t:TypeId}(p:Option Addr){v:Bool}{w:World}(ho:o.op = .binOp .neq 62 x y t)(hx:ev x = .pointer p)(hy:ev y = .pointer none)(hv:p.isSome=v) : (execOp ev o).run Tryz.prog w = .ok (.value (.bool v)) w:=by
  have hg:eqGuard .neq 62 x y (.pointer p) (.pointer none)=pure ():=rfl
  have h:=run_neq_pointer_nil (P:=Tryz.prog) w 62 p (by kernel_rfl)
  rw[show(!p.isNone)=v by rw[← hv];cases p<;>rfl] at h
  unfold execOp
  simp only[ho,hx,hy,hg,Sem.run_bind,h,Sem.run_pure,Result.andThen]
def Df (b:Bool)(w:World)(e:Ending)(w':World) : Prop:=∃ o:Option Addr,e = .returned (.pointer o)∧o.isSome=b∧aD [] w w'
theorem AR{w:World}{k d:Int}:Calls Tryz.prog 37 #[.int .i64 k,.int .i64 d] w (Df (o9 k d) w):=by
  cases hb:o9 k d with
  | false=>exact(oD hb).mono fun e w' ⟨h1,h2⟩=>⟨none,h1,rfl,h2⟩
  | true =>
    obtain⟨hk,hd⟩:=zf hb
    exact(rN hk hd).mono fun e w' ⟨s,g,h1,_,_,_,h2⟩=>⟨_,h1,rfl,h2⟩
open Go.RowKit
theorem wm{A:Option Addr}{cp:Nat}{L:List Ev}{w:World}(h:nq true w (.slice A L.length cp) L)(hL:L.length≤200000) : Calls Tryz.prog 39 #[.slice A L.length cp] w (fun e w'=>∃ v,e = .returned v∧aQ w.heap.size 47 24 (kn true) w' v (aF L)∧aD [] w w'):=by
 have hz:=aI.len h
 refine en 26 Tryz.func39 rfl<|ak 1<|cy 1<|sq<|ax 1<|bk<|?_
 refine fE (fun x=>[(0,.slice A L.length cp),(2,nS),(3,.slice x.2.2.1 x.2.1.length x.2.2.2),(4,vI (x.1:Int))]) (fun(x:Nat × List bq × Option Addr × Nat) w'=>aD [] w w'∧aQ w.heap.size 47 24 (kn true) w' (.slice x.2.2.1 x.2.1.length x.2.2.2) x.2.1∧(x.1≤L.length)∧(x.2.1.length≤x.1)∧(x.2.1=aF (L.take x.1))) (fun x=>L.length-x.1) (0,[],none,0) ⟨aD.refl _ _,(aQ.nil w.heap.size _ _ (kn true) _),(by(try dsimp only);omega),(by(try dsimp only);exact Nat.le_refl _),rfl⟩ ?_
 rintro⟨k,fs,B,cq⟩ t ⟨c,u,y,z,C⟩
 refine eH [(0,.slice A L.length cp),(2,nS),(3,.slice B fs.length cq),(4,vI (k:Int))] ?_
 have d:aQ w.heap.size 47 24 (kn true) t (.slice B fs.length cq) fs:=u
 have Q:k≤L.length:=y
 have R:fs.length≤k:=z
 have g:fs=aF (L.take k):=C
 refine sq<|ax 4<|cb ((decide ((k:Int)<(L.length:Int)))) (fun i=>?_) (fun i=>?_)
 have D:=of_decide_eq_true i
 refine bp<|sq<|bk<|ak 2<|Ak (nq.elt h k (by omega) (Ev.bad 0)) fun E F S T U a n G o q=>L0<|lx 25 L.length k n (by omega)<|Pl 1<|?_
 have r:=ub c G
 refine L0<|dX (p:=⟨E,F+k*25+0,none⟩) (v:=vI ((L.getD k (Ev.bad 0)).e)) (eJ r q 0 (by kernel_rfl) (by decide))<|aj 1<|cb ((((L.getD k (Ev.bad 0)).e)==0)) (fun b=>?_) (fun b=>?_)
 have H:=am b
 refine go<|Pl 3<|L0<|lx 25 L.length k n (by omega)<|Pl 1<|L0<|Bl [vB ((L.getD k (Ev.bad 0)).f.unit),vW ((L.getD k (Ev.bad 0)).f.tid),vB ((L.getD k (Ev.bad 0)).f.msg.code),vB ((L.getD k (Ev.bad 0)).f.msg.fail),vW ((L.getD k (Ev.bad 0)).f.msg.addr),vW ((L.getD k (Ev.bad 0)).f.msg.count),vW ((L.getD k (Ev.bad 0)).f.msg.value),vW ((L.getD k (Ev.bad 0)).f.msg.and_),vW ((L.getD k (Ev.bad 0)).f.msg.or_),vW ((L.getD k (Ev.bad 0)).f.msg.addr2),vW ((L.getD k (Ev.bad 0)).f.msg.sub),vW ((L.getD k (Ev.bad 0)).f.msg.status),vW ((L.getD k (Ev.bad 0)).f.msg.events),vW ((L.getD k (Ev.bad 0)).f.msg.messages),.slice a.aw ((L.getD k (Ev.bad 0)).f.msg.words.length) a.kw,.slice a.ab ((L.getD k (Ev.bad 0)).f.msg.bits.length) a.kb,.slice a.ad ((L.getD k (Ev.bad 0)).f.msg.data.length) a.kd,.slice a.ar ((L.getD k (Ev.bad 0)).f.msg.recs.length) a.kr,vB ((L.getD k (Ev.bad 0)).f.msg.mei),vB ((L.getD k (Ev.bad 0)).f.msg.kind),vB ((L.getD k (Ev.bad 0)).f.msg.level),vB ((L.getD k (Ev.bad 0)).f.msg.more),vB ((L.getD k (Ev.bad 0)).f.msg.next),.slice a.ao ((L.getD k (Ev.bad 0)).f.msg.objects.length) a.ko] r (lu (k:=1) (m:=24) q (by kernel_rfl) (by decide))<|L0<|ep (m:=1) (e:=47) (k9 ((L.getD k (Ev.bad 0)).f.unit) ((L.getD k (Ev.bad 0)).f.tid) ((L.getD k (Ev.bad 0)).f.msg) a) fun V W I J j=>?_
 have l:=aM c j
 have K:=AP I J ⟨a,rfl,(aS.old (o.1) l),o.2⟩
 have s:=ai d j (fun x hx=>ay) (kn.upd j aC)
 refine L0<|eb (xs:=fs) (ys:=([(L.getD k (Ev.bad 0)).f])) (.agg uD) 24 160 s (K).rd kn.ones (fun w' hv=>kn.upd hv (b9 (bi _ s (by decide)) aC)) (by(try simp only[cD,aN]);omega) l.size fun M N X O P Y=>Pl 1<|nl<|bn<|tn<|go<|Pl 1<|b6 ((k:Int)+1)<|Pl 1<|nl<|?_
 exact dH ((k+1),(fs++[(L.getD k (Ev.bad 0)).f]),M,N) ⟨(ut l P (aB (bE d lr) aA)),O,(by(try dsimp only);omega),(by(try dsimp only);(try simp only[cD]);omega),(by(try dsimp only);exact(kI (by omega) g).1 b)⟩ (by omega)
 have H:=au b
 exact sk<|bn<|tn<|go<|Pl 1<|b6 ((k:Int)+1)<|Pl 1<|nl<|dH ((k+1),fs,B,cq) ⟨c,d,(by(try dsimp only);omega),(by(try dsimp only);(try simp only[cD]);omega),(by(try dsimp only);exact(kI (by omega) g).2 b)⟩ (by omega)
 have D:=of_decide_eq_false i
 refine xt<|tx<|tx<|bx<|tn<|ax 2<|rt<|rr (.slice B fs.length cq)<|?_
 have hs:fs=aF L:=by rw[g,List.take_of_length_le (by omega)]
 exact⟨_,rfl,by rw[← hs];exact d,c⟩
theorem yr{v:Value}{L:List Ev}{w:World}(h:nq true w v L)(hL:L.length≤200000) : Calls Tryz.prog 39 #[v] w (fun e w'=>∃ v,e = .returned v∧aQ w.heap.size 47 24 (kn true) w' v (aF L)∧aD [] w w'):=by
  obtain⟨A,cp,rfl,_,_⟩:=h.shape
  exact wm h hL
open Go.RowKit
theorem mi{w:World}{kf kd:Int}{mA:Md}{A:Option Addr}{cpA:Nat}{ps:List Pc}(hA:iS mA w (.slice A ps.length cpA) ps)(hpb:∀ p,p∈ps→p.bytes.length≤140737488355328)(hpl:ps.length≤4398046511104) :
    Calls Tryz.prog 7 #[vI kf,vI kd,.slice A ps.length cpA] w (bD (.bool true) w):=by
 have hzA:=aI.len hA
 refine en 113 Tryz.func7 rfl<|ak 1<|ng<|az<|m1 (@yP _) fun bJ S=>Pl 1<|aL 1<|?_
 have T:=iS.old hA S
 refine az<|m1 (uq T hpb hpl) fun bK U=>aj 1<|sq<|ax 2<|?_
 have o:=aM S U
 refine cb ((!(gK (ps.map Pc.bytes)))) (fun F=>?_) (fun F=>?_)
 have V:(gK (ps.map Pc.bytes))=false:=by simpa using F
 exact ax 2<|bh<|rr (.bool true)<|⟨rfl,o⟩
 have V:(gK (ps.map Pc.bytes))=true:=by simpa using F
 refine bp<|ak 3<|az<|e2 (nE (RdPn.old (iS.n hA) o) o.size (by have y:=(w8 (by assumption)).1;omega)) fun bL bM aV aW=>?_
 have W:=tW.any aV
 obtain⟨aX,aY,rfl,bN,bO⟩:=aI.shape W
 obtain⟨hf1,hf2⟩:=w8 V
 have hrl:=xu (k:=kf) (d:=kd) (ps:=ps) hA.range
 refine pr (lb kf kd ps) fun a h r=>?_
 have bP:a.length≤10000:=by rw[r] at hrl;exact Nat.le_trans hrl (by omega)
 have hz:=BC (k:=kf) (d:=kd) W (by omega) (by omega)
 rw[r] at hz
 refine az (args:=#[vI kf,vI kd,.slice aX ps.length aY])<|nk hz fun X Y bQ aZ bR bS b0=>Pl 5<|aL 3<|pr (lb kf kd ps) fun b i s=>?_
 have bT:b.length≤10000:=by rw[s] at hrl;exact Nat.le_trans hrl (by omega)
 have Z:=aM aW b0
 have hz:=Ao (k:=kf) (d:=kd) (iS.old T (aM U Z)) (by omega) (by omega)
 rw[s] at hz
 refine az (args:=#[vI kf,vI kd,.slice A ps.length cpA])<|nk hz fun a0 a1 bU b1 bV bW b2=>?_
 have t:aF a=aF b:=by have z:=r.symm.trans s;injection z with z1 z2;rw[z1]
 have hll:(aF a).length=(aF b).length:=by rw[t]
 refine Pl 5<|aL 2<|az (args:=#[vI kf,vI kd])<|e2 (AR (k:=kf) (d:=kd)) fun G bX b3 a2=>Pl 1<|aL 3<|cV 3 [44] 47 44 (decide (0≤kf)) (decide (kf≤2)) (fun K b4 b5=>?_) ?_
 have bY:=of_decide_eq_true b5
 exact Pl 3<|ce b4 _ rfl
 refine Pl 1<|cu 7 [48] 55 ((((decide (0≤kf))&&(decide (kf≤2)))&&((kd==0)||(kd==1)))) (fun K a3=>?_) ?_
 refine bl 48 (((decide (0≤kf))&&(decide (kf≤2)))) (fun l=>?_) (fun l=>?_)
 have b7:=(aR l).1
 have b8:=(aR l).2
 have bZ:=of_decide_eq_true b7
 have c0:=of_decide_eq_true b8
 refine Pl 3<|eE 3 [51] 54 51 (kd==0) (kd==1) (fun K b9 ba=>?_) ?_
 have c2:=au ba
 exact Pl 3<|ce b9 _ rfl
 exact Pl 1<|ce a3 ((kd==0)||(kd==1)) (by rw[l];rfl)
 exact Pl 7<|ce a3 false (by rw[l];rfl)
 refine Pl 1<|aL 1<|?_
 have H:=aM b2 a2
 have a4:=ai aZ H (fun x hx=>ay) (cI.upd H aC)
 refine az<|e2 (lA (L:=a) (a4).rd (by omega)) fun c3 c4 bb a5=>?_
 have I:=(bb).rd
 obtain⟨a6,a7,rfl,c5,c6⟩:=aI.shape I
 have c7:=aI.len I
 refine Pl 1<|aL 1<|?_
 have a8:=aM a2 a5
 have a9:=ai b1 a8 (fun x hx=>ay) (cI.upd a8 aC)
 refine az<|e2 (yr (L:=b) (a9).rd (by omega)) fun c8 bc bd J=>?_
 have M:=(bd).rd
 obtain⟨aa,ac,rfl,c9,ca⟩:=aI.shape M
 have cc:=aI.len M
 refine aj 1<|sq<|ax 5<|?_
 have ae:=aM a5 J
 have af:=aM o (aM Z (aM H ae))
 refine cb ((((aF a).length:Int)!=((aF b).length:Int))) (fun u=>?_) (fun u=>?_)
 have be:=av u
 refine ax 1<|bh<|rr (.bool false)<|?_
 have hs:false=true:=by have q:=u;simp[t] at q
 rw[hs]
 exact⟨rfl,af⟩
 have be:=aJ u
 refine bp<|sq<|ax 1<|bk<|?_
 refine fE (fun x=>[(7,.bool true),(9,.slice X a.length Y),(10,vI (h:Int)),(11,.slice a0 b.length a1),(12,vI (i:Int)),(13,.pointer G),(14,.bool (((decide (0≤kf))&&(decide (kf≤2)))&&((kd==0)||(kd==1)))),(15,.slice a6 ((aF a).length) a7),(16,.slice aa ((aF b).length) ac),(17,vI ((x:Nat) : Int))]) (fun(x:Nat) w'=>aD [] bc w'∧(x≤(aF a).length)) (fun x=>(aF a).length-x) 0 ⟨aD.refl _ _,(by(try dsimp only);omega)⟩ ?_
 rintro j cd ⟨v,bf⟩
 refine eH [(7,.bool true),(9,.slice X a.length Y),(10,vI (h:Int)),(11,.slice a0 b.length a1),(12,vI (i:Int)),(13,.pointer G),(14,.bool (((decide (0≤kf))&&(decide (kf≤2)))&&((kd==0)||(kd==1)))),(15,.slice a6 ((aF a).length) a7),(16,.slice aa ((aF b).length) ac),(17,vI (j:Int))] ?_
 have cf:j≤(aF a).length:=bf
 refine sq<|ax 4<|?_
 have ag:=aM af v
 refine cb ((decide ((j:Int)<((aF a).length:Int)))) (fun N=>?_) (fun N=>?_)
 have bg:=of_decide_eq_true N
 refine bp<|sq<|bk<|sq<|Ak (zI.elt I j (by omega) bq.zero) fun O ah bi bj bm e al bo an ap=>?_
 have cg:=an.2
 refine Ak (zI.elt M j (by omega) bq.zero) fun P aq bs bt bu f aA bv aB aE=>?_
 have ch:=aB.2
 refine Rg 25 (fun w'=>w'.heap[O]? = some (.cells bi bj bm)∧w'.heap[P]? = some (.cells bs bt bu)) fun ci aG=>?_
 have B:=aM v aG
 have aH:=aM J B
 have aK:=ub aH bo
 have aN:=ub B bv
 refine bB ⟨aK,aN⟩ fun c=>Rt 0 c<|Rt 1 c<|Ri 2 c 24 ((aF a).length) j (j:Int) rfl al (by omega)<|Rt 3 c<|Rr 4 c (.agg #[vB (((aF a).getD j bq.zero).unit),vW (((aF a).getD j bq.zero).tid)]) (fun w' hs=>hG (g:=O) (off:=ah+j*24+0) [vB (((aF a).getD j bq.zero).unit),vW (((aF a).getD j bq.zero).tid)] rfl (by kernel_rfl) hs.1 (by kernel_rfl) (by kernel_rfl) (lu (k:=0) (m:=2) ap (by kernel_rfl) (by decide)))<|Rt 5 c<|Rt 6 c<|Ri 7 c 24 ((aF b).length) j (j:Int) rfl aA (by omega)<|Rt 8 c<|Rr 9 c (.agg #[vB (((aF b).getD j bq.zero).unit),vW (((aF b).getD j bq.zero).tid)]) (fun w' hs=>hG (g:=P) (off:=aq+j*24+0) [vB (((aF b).getD j bq.zero).unit),vW (((aF b).getD j bq.zero).tid)] rfl (by kernel_rfl) hs.2 (by kernel_rfl) (by kernel_rfl) (lu (k:=0) (m:=2) aE (by kernel_rfl) (by decide)))<|Rr 10 c (.bool (!(((((aF a).getD j bq.zero).unit)==(((aF b).getD j bq.zero).unit))&&((((aF a).getD j bq.zero).tid)==(((aF b).getD j bq.zero).tid))))) (fun _ _=>pN (((aF a).getD j bq.zero).unit) (((aF a).getD j bq.zero).tid) (((aF b).getD j bq.zero).unit) (((aF b).getD j bq.zero).tid) rfl (by kernel_rfl) (by kernel_rfl) rfl)<|Rt 11 c<|?_
 have aO:=aM ag aG
 refine ze 82 ((!(((((aF a).getD j bq.zero).unit)==(((aF b).getD j bq.zero).unit))&&((((aF a).getD j bq.zero).tid)==(((aF b).getD j bq.zero).tid))))) (fun Q=>?_) (fun Q=>?_)
 have C:(((((aF a).getD j bq.zero).unit)==(((aF b).getD j bq.zero).unit))&&((((aF a).getD j bq.zero).tid)==(((aF b).getD j bq.zero).tid)))=false:=by simpa only[Bool.not_eq_true',Bool.not_eq_false'] using Q
 refine Ro 12 c<|Ro 13 c<|Ro 14 c<|Ro 15 c<|Ro 16 c<|Ro 17 c<|Ro 18 c<|Ro 19 c<|Ro 20 c<|Ro 21 c<|Ro 22 c<|Ro 23 c<|Rt 24 c<|re<|tn<|c1<|ax 1<|rt<|br<|tr<|tr<|br<|tr<|rr (.bool false)<|?_
 have hs:false=true:=by have q:=C;simp[t] at q
 rw[hs]
 exact⟨rfl,aO⟩
 have C:(((((aF a).getD j bq.zero).unit)==(((aF b).getD j bq.zero).unit))&&((((aF a).getD j bq.zero).tid)==(((aF b).getD j bq.zero).tid)))=true:=by simpa only[Bool.not_eq_true',Bool.not_eq_false'] using Q
 have bw:=(aR C).1
 have bz:=(aR C).2
 have q166nap:=am bw
 have q166nbp:=am bz
 refine Rt 12 c<|Rt 13 c<|Ri 14 c 24 ((aF a).length) j (j:Int) rfl al (by omega)<|Rt 15 c<|Rr 16 c (.agg (iU ((aF a).getD j bq.zero).msg e)) (fun w' hs=>hG (g:=O) (off:=ah+j*24+2) [vB (((aF a).getD j bq.zero).msg.code),vB (((aF a).getD j bq.zero).msg.fail),vW (((aF a).getD j bq.zero).msg.addr),vW (((aF a).getD j bq.zero).msg.count),vW (((aF a).getD j bq.zero).msg.value),vW (((aF a).getD j bq.zero).msg.and_),vW (((aF a).getD j bq.zero).msg.or_),vW (((aF a).getD j bq.zero).msg.addr2),vW (((aF a).getD j bq.zero).msg.sub),vW (((aF a).getD j bq.zero).msg.status),vW (((aF a).getD j bq.zero).msg.events),vW (((aF a).getD j bq.zero).msg.messages),.slice e.aw (((aF a).getD j bq.zero).msg.words.length) e.kw,.slice e.ab (((aF a).getD j bq.zero).msg.bits.length) e.kb,.slice e.ad (((aF a).getD j bq.zero).msg.data.length) e.kd,.slice e.ar (((aF a).getD j bq.zero).msg.recs.length) e.kr,vB (((aF a).getD j bq.zero).msg.mei),vB (((aF a).getD j bq.zero).msg.kind),vB (((aF a).getD j bq.zero).msg.level),vB (((aF a).getD j bq.zero).msg.more),vB (((aF a).getD j bq.zero).msg.next),.slice e.ao (((aF a).getD j bq.zero).msg.objects.length) e.ko] rfl (by kernel_rfl) hs.1 (by kernel_rfl) (by kernel_rfl) (lu (k:=2) (m:=22) ap (by kernel_rfl) (by decide)))<|Rt 17 c<|Rt 18 c<|Ri 19 c 24 ((aF b).length) j (j:Int) rfl aA (by omega)<|Rt 20 c<|Rr 21 c (.agg (iU ((aF b).getD j bq.zero).msg f)) (fun w' hs=>hG (g:=P) (off:=aq+j*24+2) [vB (((aF b).getD j bq.zero).msg.code),vB (((aF b).getD j bq.zero).msg.fail),vW (((aF b).getD j bq.zero).msg.addr),vW (((aF b).getD j bq.zero).msg.count),vW (((aF b).getD j bq.zero).msg.value),vW (((aF b).getD j bq.zero).msg.and_),vW (((aF b).getD j bq.zero).msg.or_),vW (((aF b).getD j bq.zero).msg.addr2),vW (((aF b).getD j bq.zero).msg.sub),vW (((aF b).getD j bq.zero).msg.status),vW (((aF b).getD j bq.zero).msg.events),vW (((aF b).getD j bq.zero).msg.messages),.slice f.aw (((aF b).getD j bq.zero).msg.words.length) f.kw,.slice f.ab (((aF b).getD j bq.zero).msg.bits.length) f.kb,.slice f.ad (((aF b).getD j bq.zero).msg.data.length) f.kd,.slice f.ar (((aF b).getD j bq.zero).msg.recs.length) f.kr,vB (((aF b).getD j bq.zero).msg.mei),vB (((aF b).getD j bq.zero).msg.kind),vB (((aF b).getD j bq.zero).msg.level),vB (((aF b).getD j bq.zero).msg.more),vB (((aF b).getD j bq.zero).msg.next),.slice f.ao (((aF b).getD j bq.zero).msg.objects.length) f.ko] rfl (by kernel_rfl) hs.2 (by kernel_rfl) (by kernel_rfl) (lu (k:=2) (m:=22) aE (by kernel_rfl) (by decide)))<|?_
 refine R0 22 rfl<|Oc<|m1 (mB (aS.old (an.1) aH) (aS.old (aB.1) B)) fun cj D=>?_
 refine bB ⟨(ub D aK),(ub D aN)⟩ fun aP=>Rt 23 aP<|Rt 24 aP<|re<|tn<|?_
 refine cb ((!(decide (((aF a).getD j bq.zero).msg=((aF b).getD j bq.zero).msg)))) (fun R=>?_) (fun R=>?_)
 have E:(decide (((aF a).getD j bq.zero).msg=((aF b).getD j bq.zero).msg))=false:=by simpa using R
 have bA:=of_decide_eq_false E
 refine ax 1<|rt<|br<|tr<|tr<|br<|tr<|rr (.bool false)<|?_
 have hs:false=true:=by have q:=E;simp[t] at q
 rw[hs]
 exact⟨rfl,(aM aO D)⟩
 have E:(decide (((aF a).getD j bq.zero).msg=((aF b).getD j bq.zero).msg))=true:=by simpa using R
 have bA:=of_decide_eq_true E
 refine sk<|bn<|tn<|go<|Pl 1<|b6 ((j:Int)+1)<|Pl 1<|nl<|?_
 exact dH (j+1) ⟨(aM B D),(by(try dsimp only);omega)⟩ (by omega)
 have bg:=of_decide_eq_false N
 refine xt<|tx<|tx<|bx<|tn<|ak 4<|?_
 have aQ:=aM ae v
 have aT:=aM J v
 refine L1<|Oc<|m1 (uh (xs:=a) (ys:=b) ((ai a4 aQ (fun x hx=>ay) (cI.upd aQ aC))).rd ((ai a9 aT (fun x hx=>ay) (cI.upd aT aC))).rd) fun ck bC=>Pl 2<|cV 4 [102] 106 102 (decide (a=b)) ((h:Int)==(i:Int)) (fun K bE bF=>?_) ?_
 have cl:=of_decide_eq_true bF
 exact Pl 4<|ce bE _ rfl
 refine Pl 1<|cV 5 [107] 112 107 ((decide (a=b))&&((h:Int)==(i:Int))) ((o9 kf kd)==(((decide (0≤kf))&&(decide (kf≤2)))&&((kd==0)||(kd==1)))) (fun K bG aU=>?_) ?_
 have bH:=(aR aU).1
 have bI:=(aR aU).2
 have cm:=of_decide_eq_true bH
 have cn:=am bI
 exact Pl 1<|L1<|f9 (.bool (o9 kf kd)) (uk G rfl (by kernel_rfl) (by kernel_rfl) b3)<|Pl 3<|ce bG _ rfl
 refine aj 1<|rt<|rr (.bool (((decide (a=b))&&((h:Int)==(i:Int)))&&((o9 kf kd)==(((decide (0≤kf))&&(decide (kf≤2)))&&((kd==0)||(kd==1))))))<|?_
 have hs:(((decide (a=b))&&((h:Int)==(i:Int)))&&((o9 kf kd)==(((decide (0≤kf))&&(decide (kf≤2)))&&((kd==0)||(kd==1)))))=true:=by have z:=r.symm.trans s;injection z with z1 z2;(try rw[z1]);(try rw[z2]);simp[o9]
 rw[hs]
 exact⟨rfl,(aM ag bC)⟩
theorem ln{w:World}{kf kd:Int}{mA:Md}{v:Value}{ps:List Pc}(hA:iS mA w v ps)(hpb:∀ p,p∈ps→p.bytes.length≤140737488355328)(hpl:ps.length≤4398046511104) : Calls Tryz.prog 7 #[.int .i64 kf,.int .i64 kd,v] w (bD (.bool true) w):=by
  obtain⟨A0,cp0,rfl,_,_⟩:=hA.shape
  exact mi hA hpb hpl
open Go.RowKit
section
variable {H:Type}{enc:TypeId × Value→H}{P:Program}{w:World}{base:Nat}{spare:Nat→Bool}{held:Bool}
theorem pE(b off:Nat)(sp:Option Nat)(n:Nat)(h:sp=none) : (⟨b,off,sp⟩ : Addr).add n=⟨b,off+n,none⟩:=iL b off n sp h
theorem t3{b off:Nat}{sp:Option Nat}{v:Value}(h:w.cell? ⟨b,off,sp⟩=some v) : sp=none:=by
  cases sp with
  | none=>rfl
  | some s =>
    unfold World.cell? at h
    simp at h
    split at h<;>cases h
theorem oQ{α:Type}{Pd:DataW H→Prop}{R:World→α→List Value→Prop}{t e:TypeId}{sz fuel:Nat}{cs:List Value}{x:DataW H × List MemPlace}(ht:P.underlying t=some (.slice e))(hsz:P.cellsOf e=sz)(hp:0<sz)
    (hel:∀ n cs' y,cs'.length=sz→DataW.trod enc P w base spare held n e cs'=some y→Pd y.1→∃ x,R w x cs') (hP:∀ elems spare,x.1 = .slice elems spare→∀ d,d∈elems→Pd d) (h:DataW.trod enc P w base spare held fuel t cs=some x) : ∃ v xs,cs=[v]∧aI false e sz R w v xs:=by
  rcases Go.Deep.open_slice ht h with⟨rfl,_⟩|⟨a,len,cap,m,n,D,Pl,rfl,_,hl,hm,hmm,hxe,hx⟩
  · exact⟨_,[],rfl,aI.nil ..⟩
  have hlm:len≤m:=by rw[hmm];split<;>omega
  have key:∀ i:Fin len,∃ y:α × List Value,w.cells? base (a.add (i*sz)) sz=some y.2∧y.2.length=sz∧R w y.1 y.2:=fun i=>by
    obtain⟨cs',h1,h2⟩:=hx i (by omega)
    rw[hsz] at h1
    obtain⟨_,hlen,_⟩:=World.cells?_some h1
    obtain⟨y,hy⟩:=hel n cs' _ hlen h2 (hP _ _ (by rw[hxe]) _ (List.mem_map.2 ⟨i.1,List.mem_range.2 i.2,rfl⟩))
    exact⟨(y,cs'),h1,hlen,hy⟩
  obtain⟨f,hf⟩:=Classical.axiomOfChoice key
  refine⟨_,List.ofFn fun i=>(f i).1,rfl,some a,cap,by simp,by simpa using hl,hm,(fun h=>by cases h),fun hpos=>?_⟩
  have hpos':0<len:=by simpa using hpos
  obtain⟨b,off,sp⟩:=a
  have hsp:sp=none:=by
    obtain⟨h1,h2,_⟩:=hf ⟨0,hpos'⟩
    obtain⟨_,_,h3⟩:=World.cells?_some h1
    have h4:=h3 0 hp
    rw[List.getElem?_eq_getElem (by omega)] at h4
    cases sp with
    | none=>rfl
    | some s =>
      simp[Addr.add] at h4
      exact t3 h4
  subst hsp
  have hc:∀ i:Fin len,∀ k u,(f i).2[k]? = some u→w.cell? ⟨b,off+i*sz+k,none⟩=some u:=fun i k u hu=>by
    obtain⟨h1,h2,_⟩:=hf i
    obtain⟨_,_,h3⟩:=World.cells?_some h1
    have hk:k<sz:=by have:=(List.getElem?_eq_some_iff.1 hu).1;omega
    have h4:=h3 k hk
    rw[pE _ _ _ _ rfl,pE _ _ _ _ rfl] at h4
    rw[h4,hu]
  have h0:∃ u,w.cell? ⟨b,off+0*sz+0,none⟩=some u:=by
    obtain⟨_,h2,_⟩:=hf ⟨0,hpos'⟩
    exact⟨_,hc ⟨0,hpos'⟩ 0 _ (List.getElem?_eq_getElem (by omega))⟩
  obtain⟨u,hu⟩:=h0
  unfold World.cell? at hu
  split at hu
  · rename_i cells t' fr hb
    refine⟨b,off,cells,t',fr,rfl,hb,fun h=>(by cases h),fun j y hj=>?_⟩
    have hjl:j<len:=by have:=(List.getElem?_eq_some_iff.1 hj).1;simpa using this
    have hy:(f ⟨j,hjl⟩).1=y:=by
      rw[List.getElem?_ofFn] at hj
      simpa [hjl] using hj
    obtain⟨_,h2,h3⟩:=hf ⟨j,hjl⟩
    refine⟨(f ⟨j,hjl⟩).2,h2,by rw[← hy];exact h3,fun i u hi=>?_⟩
    have:=hc ⟨j,hjl⟩ i u hi
    rw[c4 hb] at this
    exact this
  · cases hu
theorem yV{α:Type}{R:World→α→List Value→Prop}{t e:TypeId}{sz fuel:Nat}{cs:List Value}{x:DataW H × List MemPlace}(ht:P.underlying t=some (.slice e))(hsz:P.cellsOf e=sz)(hp:0<sz)
    (hel:∀ n cs' y,cs'.length=sz→DataW.trod enc P w base spare held n e cs'=some y→∃ x,R w x cs') (h:DataW.trod enc P w base spare held fuel t cs=some x) : ∃ v xs,cs=[v]∧aI false e sz R w v xs :=
  oQ (Pd:=fun _=>True) ht hsz hp (fun n cs' y h1 h2 _=>hel n cs' y h1 h2) (fun _ _ _ _ _=>trivial) h
end
section
variable {H:Type}{enc:TypeId × Value→H}{w:World}{base:Nat}{spare:Nat→Bool}{held:Bool}{n:Nat}{y:DataW H × List MemPlace}
theorem Bb{cs:List Value}(h:DataW.trod enc Tryz.prog w base spare held n 5 cs=some y) : ∃ x,ma w x cs:=by
  obtain⟨k,rfl,_,hw⟩:=DataW.trod_int Tryz.underlying5 h
  exact⟨k,rfl,t9 hw⟩
theorem yn{cs:List Value}(h:DataW.trod enc Tryz.prog w base spare held n 4 cs=some y) : ∃ x,mE w x cs:=by
  obtain⟨k,rfl,_⟩:=DataW.trod_bool Tryz.underlying4 h
  exact⟨k,rfl⟩
theorem Be{cs:List Value}(h:DataW.trod enc Tryz.prog w base spare held n 27 cs=some y) : ∃ v xs,cs=[v]∧aO false w v xs:=yV Tryz.underlying27 (by kernel_rfl) (by decide) (fun _ _ _ _ h=>Bb h) h
end
open Go.RowKit
theorem AU{cs:List Value}{o:Nat}{v:Value}(h:(cs.drop o).take 1=[v]) : cs.drop o=v :: cs.drop (o+1):=by
  cases hd:cs.drop o with
  | nil=>rw[hd] at h;cases h
  | cons a l =>
    rw[hd] at h
    have h1:a=v:=by simpa using h
    rw[h1,← List.drop_drop,hd]
    rfl
theorem vK{cs:List Value}{n:Nat}(h:cs.length=n) : cs.drop n=[]:=by rw[← h];simp
section
variable {H:Type}{enc:TypeId × Value→H}{w:World}{base:Nat}{spare:Nat→Bool}{held:Bool}{n:Nat}{y:DataW H × List MemPlace}
end
end Go.Proofs.YtdkhbcefkfgbdaaGreat
namespace Go.Proofs.YtdkhbcefkfgbdaaGreat
open Go.WideShapes
def D8 (w:World)(b:List Int)(cs:List Value) : Prop:=∃ v,cs=[v]∧aO false w v b∧b.length≤140737488355328
section
variable {H:Type}{enc:TypeId × Value→H}{w:World}{base:Nat}{spare:Nat→Bool}{held:Bool}{n:Nat}{y:DataW H × List MemPlace}
theorem A9{cs:List Value}(h:DataW.trod enc Tryz.prog w base spare held n 27 cs=some y)(hp:∀ e2 s2,y.1 = .slice e2 s2→e2.length≤140737488355328) : ∃ b,D8 w b cs:=by
  obtain⟨v,xs,hc,hr⟩:=Be h
  refine⟨xs,v,hc,hr,?_⟩
  obtain⟨A,c,hv,_,_⟩:=hr.shape
  rcases DataW.trod_slice Tryz.underlying27 h with⟨h1,_⟩|⟨a,len,cap,elems,rest,m,_,h1,h2,_,_,_,h3,_⟩
  · rw[hc] at h1
    simp only[List.cons.injEq,and_true] at h1
    rw[h1] at hv
    injection hv with _ h4 _
    omega
  · rw[hc] at h1
    simp only[List.cons.injEq,and_true] at h1
    rw[h1] at hv
    injection hv with _ h4 _
    have:=hp _ _ (by rw[h2])
    rw[List.length_map] at this
    omega
end
theorem hY{H:Type}{P:Program}{e:TypeId}{d:DataW H}{k:Nat}(hk:k∈d.weights P e) : ∀ {l:List (DataW H)},d∈l→k∈DataW.weightsAll P e l
  | [],h=>by cases h
  | x :: r,h=>by
    simp only[DataW.weightsAll,List.mem_append]
    rcases List.mem_cons.1 h with rfl|h
    · exact .inl hk
    · exact .inr (hY hk h)
end Go.Proofs.YtdkhbcefkfgbdaaGreat
namespace Go.Proofs.YtdkhbcefkfgbdaaGreat
open Go.WideShapes
theorem aI.ety{α:Type}{e e':TypeId}{sz:Nat}{R:World→α→List Value→Prop}{w:World}{v:Value}{xs:List α}(h:aI false e sz R w v xs) : aI false e' sz R w v xs:=by
  obtain⟨A,c,hv,h1,h2,h0,h3⟩:=h
  exact⟨A,c,hv,h1,h2,h0,fun hp=>by
    obtain⟨b,off,cells,t,fr,hA,hb,_,hx⟩:=h3 hp
    exact⟨b,off,cells,t,fr,hA,hb,(fun e=>by cases e),hx⟩⟩
def CN (w:World)(p:Pc)(cs:List Value) : Prop:=∃ v,cs=[v,.bool p.tick]∧aO false w v p.bytes∧p.bytes.length≤140737488355328
section
variable {H:Type}{enc:TypeId × Value→H}{w:World}{base:Nat}{spare:Nat→Bool}{held:Bool}{n:Nat}{y:DataW H × List MemPlace}
theorem y6{cs:List Value}(h:DataW.trod enc Tryz.prog w base spare held n 69 cs=some y)(hp:∀ l,y.1 = .agg l→∀ e2 s2,l[0]? = some (.slice e2 s2)→e2.length≤140737488355328) : ∃ p,CN w p cs:=by
  obtain⟨xs,m,rfl,hy,hlen,hxs,hf⟩:=DataW.trod_struct Tryz.underlying69 h
  rw[show Tryz.prog.cellsOf 69=2 from by kernel_rfl] at hlen
  replace hxs:xs.length=2:=hxs.trans (by kernel_rfl)
  obtain⟨y0,g0⟩ : ∃ y,xs[0]? = some y:=⟨_,List.getElem?_eq_getElem (show 0<xs.length by omega)⟩
  have f0:DataW.trod enc Tryz.prog w base spare held m 27 ((cs.drop 0).take (Tryz.prog.cellsOf 27))=xs[0]?:=hf 0 _ rfl
  rw[g0] at f0
  rw[show Tryz.prog.cellsOf 27=1 from by kernel_rfl] at f0
  obtain⟨b,v,e0,r0,r1⟩:=A9 f0 fun e2 s2 he=>hp _ (by rw[hy]) e2 s2 (by rw[List.getElem?_map,g0];exact congrArg some he)
  obtain⟨y1,g1⟩ : ∃ y,xs[1]? = some y:=⟨_,List.getElem?_eq_getElem (show 1<xs.length by omega)⟩
  have f1:DataW.trod enc Tryz.prog w base spare held m 4 ((cs.drop 1).take (Tryz.prog.cellsOf 4))=xs[1]?:=hf 1 _ rfl
  rw[g1] at f1
  rw[show Tryz.prog.cellsOf 4=1 from by kernel_rfl] at f1
  obtain⟨t,e1⟩:=yn f1
  have e1:(cs.drop 1).take 1=[.bool t]:=e1
  have hcs:cs=[v,.bool t]:=by
    show cs.drop 0=_
    rw[AU e0,AU e1,vK hlen]
  exact⟨⟨b,t⟩,v,hcs,r0,r1⟩
theorem xC{cs:List Value}(h:DataW.trod enc Tryz.prog w base spare held n 56 cs=some y)(hp:∀ elems sp,y.1 = .slice elems sp→(∀ d,d∈elems→∀ l,d = .agg l→∀ e2 s2,l[0]? = some (.slice e2 s2)→e2.length≤140737488355328)∧elems.length≤4398046511104) :
    ∃ v ps,cs=[v]∧iS false w v ps∧(∀ p,p∈ps→p.bytes.length≤140737488355328)∧ps.length≤4398046511104:=by
  obtain⟨v,xs,hc,hr⟩:=oQ (R:=CN) (sz:=2) (Pd:=fun d=>∀ l,d = .agg l→∀ e2 s2,l[0]? = some (.slice e2 s2)→e2.length≤140737488355328) Tryz.underlying56 (by kernel_rfl) (by decide) (fun _ _ _ _ h hp=>y6 h hp) (fun elems sp he=>(hp elems sp he).1) h
  refine⟨v,xs,hc,aI.ety (aI.any (R':=CJ false) hr (fun _ _ ⟨v,h1,h2,_⟩=>⟨v,h1,h2⟩)),fun x hx=>?_,?_⟩
  · obtain⟨A,c,rfl,_,_⟩:=hr.shape
    obtain⟨j,hj⟩:=List.getElem?_of_mem hx
    have hl:=(List.getElem?_eq_some_iff.1 hj).1
    obtain⟨_,_,_,_,_,_,_,_,_,⟨_,_,_,h4⟩,_⟩:=aI.elt hr Pc.z j hl
    rw[List.getD_eq_getElem?_getD,hj] at h4
    exact h4
  · obtain⟨A,c,hv,_,_⟩:=hr.shape
    rcases DataW.trod_slice Tryz.underlying56 h with⟨h1,_⟩|⟨a,len,cap,elems,rest,m,_,h1,h2,_,_,_,h3,_⟩
    · rw[hc] at h1
      simp only[List.cons.injEq,and_true] at h1
      rw[h1] at hv
      injection hv with _ h4 _
      omega
    · rw[hc] at h1
      simp only[List.cons.injEq,and_true] at h1
      rw[h1] at hv
      injection hv with _ h4 _
      have:=(hp _ _ (by rw[h2])).2
      rw[List.length_map] at this
      omega
end
theorem yd{H:Type}{ts:List TypeId}{ds:List (DataW H)}(h:(DataW.weightsEach Tryz.prog ts ds).all (·≤reachBytes)=true){j:Nat}{d:DataW H}(ht:ts[j]? = some 56)(hd:ds[j]? = some d) :
    ∀ elems sp,d = .slice elems sp→(∀ d2,d2∈elems→∀ l,d2 = .agg l→∀ e2 s2,l[0]? = some (.slice e2 s2)→e2.length≤140737488355328)∧elems.length≤4398046511104:=by
  rintro elems sp rfl
  refine⟨?_,?_⟩
  · rintro d2 hm l rfl e2 s2 h3
    obtain⟨r,rfl⟩ : ∃ r,l = .slice e2 s2 :: r:=by
      cases l with
      | nil=>cases h3
      | cons x r=>exact⟨r,by rw[List.getElem?_cons_zero] at h3;injection h3 with h3;rw[h3]⟩
    have hw:(e2.length+s2.length)*Tryz.prog.bytesOf 5∈(DataW.slice elems sp).weights Tryz.prog 56:=by
      simp only[DataW.weights,Tryz.underlying56,List.mem_cons,List.mem_append]
      refine .inr (.inl (hY ?_ hm))
      simp only[DataW.weights,Tryz.underlying69,List.map_cons,List.map_nil,DataW.weightsEach,List.mem_append]
      refine .inl ?_
      simp only[DataW.weights,Tryz.underlying27,List.mem_cons]
      exact .inl trivial
    have h2:=List.all_eq_true.1 h _ (DataW.weights_mem_each ht hd _ hw)
    have h3:(e2.length+s2.length)*Tryz.prog.bytesOf 5≤reachBytes:=by simpa using h2
    rw[show Tryz.prog.bytesOf 5=1 from by kernel_rfl] at h3
    have h4:reachBytes<2 ^ 47:=reachBytes_lt
    omega
  · have h2:=sized_slice h ht hd Tryz.underlying56
    rw[show Tryz.prog.bytesOf 69=32 from by kernel_rfl] at h2
    have h4:reachBytes<2 ^ 47:=reachBytes_lt
    omega
end Go.Proofs.YtdkhbcefkfgbdaaGreat
