/- Contracts of functions, part CSrtuTells4. -/
import Derived.Test.YtogbnemojakcpaaGreatCSrtuTells1
import Derived.Test.YtogbnemojakcpaaGreatCSrtuTells2
import Derived.Test.YtogbnemojakcpaaGreatCSrtuTells3
set_option linter.unusedVariables false
set_option linter.unusedSimpArgs false
set_option maxRecDepth 100000
set_option maxHeartbeats 4000000
namespace Go.Proofs.YtogbnemojakcpaaGreat
open Go.RowKit
theorem iO{A0:Option Addr}{w:World}:∀ x,x∈ob none→x∈ob A0∨w.heap.size≤x:=fun x hx=>by simp[ob] at hx
theorem kV{A0:Option Addr}{w:World}:∀ x,x∈ob A0→x∈ob A0∨w.heap.size≤x:=fun x hx=>.inl hx
theorem nJ{w:World}:∀ x cs,iw w x cs→∀ v,v∈cs→v.oneCell'=true:=fun x cs h v hv=>by
  rw[h.1] at hv
  simp at hv
  subst hv
  rfl
section
variable {n:Nat}{B:Option Addr}
def vW (n:Nat)(B:Option Addr)(X:List Nat) : Prop:=0<n→∀ x,x∈ob B→x∉X
theorem aB.low{α:Type}{m:Md}{e:TypeId}{sz c:Nat}{R:World→α→List Value→Prop}{w:World}{xs:List α}(h:aB m e sz R w (.slice B n c) xs) : 0<n→∀ x,x∈ob B→x<w.heap.size:=fun hn x hx=>by
  obtain⟨A',c',hv,_,_,_,h3⟩:=h
  injection hv with e1 e2 e3
  subst e1 e2 e3
  obtain⟨b,off,cells,t,fr,rfl,hh,_⟩:=h3 hn
  simp[ob] at hx
  subst hx
  exact ak hh
theorem aQ.far{m:Md}{c:Nat}{w w':World}{xs:List Int}{X:List Nat}(h:aQ m w (.slice B n c) xs)(hu:az X w w')(hd:vW n B X) : aQ m w' (.slice B n c) xs:=by
  obtain⟨A',c',hv,h1,h2,h0,h3⟩:=h
  injection hv with e1 e2 e3
  subst e1 e2 e3
  refine⟨_,_,rfl,h1,h2,h0,fun hp=>?_⟩
  obtain⟨b,off,cells,t,fr,rfl,hh,h4,h5⟩:=h3 hp
  exact⟨b,off,cells,t,fr,rfl,hu.blk (hd hp b (by simp[ob])) hh,h4,h5⟩
end
open Go.RowKit
def vD (n:Nat)(X:List Nat)(w:World) : Prop:=∀ y,y∈X→n≤y∨∃ cells t fr,w.heap[y]? = some (.cells cells t fr)∧t∉fX
def dT (n:Nat)(w:World)(x:Ev)(cs:List Value) : Prop:=n≤w.heap.size∧∀ (w':World)(X:List Nat),az X w w'→vD n X w→gh true w' x cs
theorem dT.mk{w:World}{x:Ev}{cs:List Value}(h:gh true w x cs) : dT w.heap.size w x cs:=⟨Nat.le_refl _,fun w' X hu ha=>gh.upd hu (fun y hy=>by
  rcases ha y hy with k|⟨c,t,fr,k,k2⟩
  · exact .inl k
  · exact .inr ⟨rfl,c,t,fr,k,.inl k2⟩) x cs h⟩
theorem dT.ev{n:Nat}{w:World}{x:Ev}{cs:List Value}(h:dT n w x cs) : gh true w x cs:=h.2 w [] (az.refl _ _) (fun y hy=>by cases hy)
theorem dT.mono{n n':Nat}{w:World}{x:Ev}{cs:List Value}(hn:n≤n')(hs:n'≤w.heap.size)(h:dT n w x cs) : dT n' w x cs:=⟨hs,fun w' X hu ha=>h.2 w' X hu fun y hy=>by
  rcases ha y hy with k|k
  · exact .inl (Nat.le_trans hn k)
  · exact .inr k⟩
theorem dT.upd{n:Nat}{w w':World}{X:List Nat}{x:Ev}{cs:List Value}(hu:az X w w')(ha:vD n X w)(h:dT n w x cs) : dT n w' x cs:=by
  refine⟨Nat.le_trans h.1 hu.size,fun w2 X2 hu2 ha2=>h.2 w2 (X++X2) ?_ ?_⟩
  · exact az.trans' (az.mono hu (fun y hy=>.inl (List.mem_append_left _ hy))) hu2 (fun y hy=>.inl (List.mem_append_right _ hy))
  · intro y hy
    rcases List.mem_append.1 hy with hy|hy
    · exact ha y hy
    · rcases ha2 y hy with k | ⟨cells,t,fr,k1,k2⟩
      · exact .inl k
      · by_cases hl:y<w.heap.size
        · by_cases hX:y∈X
          · exact ha y hX
          · exact .inr ⟨cells,t,fr,by rw[← hu.block y hl hX];exact k1,k2⟩
        · exact .inl (Nat.le_trans h.1 (by omega))
theorem dT.ones{n:Nat}{w:World}:∀ (x:Ev)(cs:List Value),dT n w x cs→∀ v,v∈cs→v.oneCell'=true:=fun x cs h=>gh.ones x cs h.ev
abbrev dB (n base:Nat) (w:World) (v:Value) (xs:List Ev) : Prop:=b6 base 122 25 (dT n) w v xs
theorem b6.map{α:Type}{base sz:Nat}{e:TypeId}{R R':World→α→List Value→Prop}{w:World}{v:Value}{xs:List α}(h:b6 base e sz R w v xs)(k:∀ x cs,R w x cs→R' w x cs) : b6 base e sz R' w v xs:=by
  obtain⟨cells,ho,hx⟩:=h
  refine⟨cells,ho,fun j x hj=>?_⟩
  obtain⟨cs,h1,h2,h3⟩:=hx j x hj
  exact⟨cs,h1,k _ _ h2,h3⟩
theorem lA.low{base:Nat}{w:World}{v:Value}{xs:List Ev}(h:lA base w v xs) : dB w.heap.size base w v xs:=b6.map h fun _ _=>dT.mk
theorem dB.own{n base:Nat}{w:World}{v:Value}{xs:List Ev}(h:dB n base w v xs) : lA base w v xs:=b6.map h fun _ _ q=>q.ev
theorem dB.up{n n' base:Nat}{w:World}{v:Value}{xs:List Ev}(hn:n≤n')(hs:n'≤w.heap.size)(h:dB n base w v xs) : dB n' base w v xs:=b6.map h fun _ _ q=>q.mono hn hs
theorem gF{n:Nat}:∀ x,x∈ob none→n≤x:=fun x hx=>by simp[ob] at hx
section
variable {n base g cp:Nat}{w w':World}{A:Option Addr}{X:List Nat}
end
open Go.RowKit
theorem tj{base g:Nat}{w:World}{cur:Array Value}(hb:base≤g)(hg:w.heap[g]? = some (.cells cur 5 (0,0)))(hc:cur.size≤maxLen) : fp base w (.slice (some ⟨g,0,none⟩) 0 cur.size) [] :=
  ⟨[],⟨rfl,.inr ⟨g,cur.size,cur,rfl,hb,hg,Nat.zero_le _,hc,(Nat.mul_one _).symm,by simp⟩⟩,fun j x hj=>by simp at hj⟩
theorem gS{P:Program}{m:Md}{w:World}(t ty e:TypeId)(ht:P.underlying t=some (.slice e))(hte:e=5)(hinfo:(P.info? e).map (fun i=>(i.zero,i.size,i.bytes))=some (some (.int .u8 0),1,1))
    {A:Option Addr} {xs ys:List Int} (HX:aQ true w (.slice A xs.length xs.length) xs) {u:Value} (HY:aQ m w u ys) (hl:xs.length+ys.length≤4194304) :
    ∃ A' cp w',(Builtin.append_ #[t,t] ty #[.slice A xs.length xs.length,u]).run P w = .ok (.slice A' (xs++ys).length cp) w'∧aQ true w' (.slice A' (xs++ys).length cp) (xs++ys)∧az [] w w'∧((A'=A∧w'=w)∨∃ c,fp w.heap.size w' (.slice A' 0 c) []):=by
  subst hte
  obtain⟨i0,hi,hz0,hz1,hz2⟩:=info_parts hinfo
  obtain⟨B,c,rfl,hc1,hc2⟩:=HY.shape
  by_cases hy:ys=[]
  · have hs:=r4 (P:=P) ht HY hy
    subst hy
    rw[← hz1] at hs
    rw[List.append_nil]
    exact⟨A,_,w,run_append_nothing w t t ty _ i0 ht hi A xs.length xs.length (Nat.le_refl _) _ hs,HX,az.refl _ _,.inl ⟨rfl,rfl⟩⟩
  have hyl:0<ys.length:=by
    cases ys with
    | nil=>exact absurd rfl hy
    | cons a r=>simp
  cases B with
  | none =>
    obtain⟨B,c',hv,_,_,h0,h3⟩:=HY
    injection hv with e1 e2 e3
    subst e1 e3
    obtain⟨b,off,cells,t,fr,hh,_⟩:=h3 hyl
    cases hh
  | some ad =>
    obtain⟨_,hnews⟩:=et i3.cell HY
    have hby:∀ x,x∈xs++ys→0≤x∧x<256:=fun x hx=>by
      rcases List.mem_append.1 hx with h|h
      · exact HX.rng x h
      · exact HY.rng x h
    have fin:∀ (cp:Nat) (w':World) (zs:Array Value),xs.length+ys.length≤cp→cp≤maxLen→zs.size=cp-(xs.length+ys.length)→w'.heap[w.heap.size]? = some (.cells (((xs++ys).map (Value.int .u8)).toArray++zs) 5 (0,0))→aQ true w' (.slice (some ⟨w.heap.size,0,none⟩) (xs++ys).length cp) (xs++ys)∧∃ c,fp w.heap.size w' (.slice (some ⟨w.heap.size,0,none⟩) 0 c) []:=fun cp w' zs h1 h2 hz h3=>by
      refine⟨⟨_,cp,rfl,by rw[List.length_append];exact h1,h2,(fun hA=>by cases hA),fun hp=>⟨w.heap.size,0,_,_,_,rfl,h3,(fun _=>⟨rfl,Nat.zero_le _⟩),fun j x hj=>?_⟩⟩,_,tj (Nat.le_refl _) h3 ?_⟩
      · refine⟨[.int .u8 x],rfl,⟨rfl,hby x (List.mem_of_getElem? hj)⟩,fun i u hi=>?_⟩
        cases i with
        | succ i=>simp at hi
        | zero =>
          have hi:Value.int .u8 x=u:=by simpa using hi
          subst hi
          have hlt:=(List.getElem?_eq_some_iff.1 hj).1
          rw[Array.getElem?_append_left (by simp;simpa using hlt)]
          simp only[Nat.zero_add,Nat.mul_one,Nat.add_zero]
          rw[List.getElem?_toArray,List.getElem?_map,hj]
          rfl
      · rw[Array.size_append,hz]
        simp
        omega
    have hzc:∀ k,(Builtin.zeroCells (Value.int .u8 0).cells k).size=k:=fun k=>by simp[Builtin.zeroCells,Value.cells]
    cases A with
    | none =>
      have hx0:xs=[]:=by
        obtain⟨B,c',hv,_,_,h0,h3⟩:=HX
        injection hv with e1 e2 e3
        subst e1
        have:=h0 rfl
        exact List.eq_nil_of_length_eq_zero (by omega)
      subst hx0
      have hr:=run_append_nil (P:=P) w t ty _ i0 (.int .u8 0) ht hi hz0 ad ys.length c (ys.map (Value.int .u8)) (by rw[hz1];simp) hnews hyl (by omega) (by rw[hz2];omega)
      have f:=fin (grownCap w ys.length 0 5) (w.drew.alloc (.cells ((ys.map (Value.int .u8)).toArray++Builtin.zeroCells (Value.int .u8 0).cells (grownCap w ys.length 0 5-ys.length)) 5)) (Builtin.zeroCells (Value.int .u8 0).cells (grownCap w ys.length 0 5-ys.length)) (by simpa using grownCap_ge w ys.length 0 _) (grownCap_le_maxLen _ _ _ _ (by unfold maxLen;omega)) (by rw[hzc];simp) (by simpa using dq w.drew _)
      exact⟨_,_,_,hr,f.1,((az.refl _ _).drew).alloc _,.inr f.2⟩
    | some bd =>
      obtain⟨_,holds⟩:=et i3.cell HX
      have hr:=run_append_grow (P:=P) w t ty _ i0 (.int .u8 0) ht hi hz0 bd xs.length xs.length (xs.map (Value.int .u8)) (by rw[hz1];simp) holds ad ys.length c (ys.map (Value.int .u8)) (by rw[hz1];simp) hnews (by omega) (by omega) (by
        rw[hz2]
        have:=nextslicecap_le (need:=xs.length+ys.length) (old:=xs.length) (by omega)
        omega)
      have f:=fin (grownCap w (xs.length+ys.length) xs.length 5) (w.drew.alloc (.cells ((xs.map (Value.int .u8)).toArray++(ys.map (Value.int .u8)).toArray++Builtin.zeroCells (Value.int .u8 0).cells (grownCap w (xs.length+ys.length) xs.length 5-(xs.length+ys.length))) 5)) (Builtin.zeroCells (Value.int .u8 0).cells (grownCap w (xs.length+ys.length) xs.length 5-(xs.length+ys.length))) (grownCap_ge w _ _ _) (grownCap_le_maxLen _ _ _ _ (by unfold maxLen;omega)) (by rw[hzc]) (by simpa using dq w.drew _)
      exact⟨some ⟨w.heap.size,0,none⟩,grownCap w (xs.length+ys.length) xs.length 5,_,by rw[hr,List.length_append],f.1,((az.refl _ _).drew).alloc _,.inr f.2⟩
section
variable {P:Program}{n:Nat}{D:List Deferred}{F:Fr}{w:World}{K:Fr→World→Prop}{Q:Exit→Act→World→Prop}{d:Option Tmp}{t:TypeId}{s:String}{af:Array Edge}{gu:Option (Nat × Bool)}
theorem uL{ty:TypeId}{x y:Operand}{m:Md}{A:Option Addr}{xs ys:List Int}{u:Value}(HX:aQ true w (.slice A xs.length xs.length) xs)(HY:aQ m w u ys)(hl:xs.length+ys.length≤4194304)
    (h:∀ A' cp w',aQ true w' (.slice A' (xs++ys).length cp) (xs++ys)→((A'=A∧w'=w)∨∃ c,fp w.heap.size w' (.slice A' 0 c) [])→az [] w w'→K (pt d (.slice A' (xs++ys).length cp) F) w') (hx:dQ F x=some (.slice A xs.length xs.length):=by kernel_rfl) (hy:dQ F y=some u:=by kernel_rfl)
    (hs:(kZ P ty,(P.info? 5).map (fun i=>(i.zero,i.size,i.bytes)),eR n d)=(some 5,some (some (.int .u8 0),1,1),true):=by kernel_rfl) : OG P ⟨d,.call { callee:=.builtin .append,args:=#[x,y],argTypes:=#[ty,ty] },t,s,af,gu⟩ n D F w K Q:=by
  simp only[Prod.mk.injEq] at hs
  obtain⟨h1,h2,h3⟩:=hs
  obtain⟨A',cp,w',hr,hv,hu,ho⟩:=gS (P:=P) (w:=w) ty t _ (dI h1) rfl h2 HX HY hl
  refine⟨fun a ha K' hK=>OW.mk ?_⟩
  have hx':=ha.ev hx
  have hy':=ha.ev hy
  unfold Oper.wp execOp
  simp only[resolve,invoke,builtin,Sem.run_bind,Sem.run_pure,Result.andThen_ok,List.map_toArray,List.map_cons,List.map_nil,hx',hy',hr]
  exact hK _ _ _ (h A' cp w' hv ho hu) (ha.put h3)
end
open Go.RowKit
def aJ (n base:Nat)(w:World)(g:Nat)(A:Option Addr)(c:Nat)(S:SS) : Prop:=(∃ cp,w.heap[g]? = some (.cells #[.int .i64 S.dir,.slice A S.held.length cp,.bool S.off] 124 (0,0))∧aQ true w (.slice A S.held.length cp) S.held∧S.held.length≤256∧S.held.length≤cp)∧fp base w (.slice A 0 c) []∧n≤w.heap.size∧(∀ x,x∈ob A→n≤x)∧base≤w.heap.size
section
variable {n base g c:Nat}{w w':World}{A:Option Addr}{S:SS}{X:List Nat}
theorem aJ.row(h:aJ n base w g A c S) : fp base w (.slice A 0 c) []:=h.2.1
theorem aJ.low(h:aJ n base w g A c S) : ∀ x,x∈ob A→n≤x:=h.2.2.2.1
theorem aJ.le(h:aJ n base w g A c S) : S.held.length≤256:=by
  obtain⟨⟨cp,_,_,h1,_⟩,_⟩:=h
  exact h1
theorem aJ.lt(h:aJ n base w g A c S) : g<w.heap.size:=by
  obtain⟨⟨cp,h1,_⟩,_⟩:=h
  exact ak h1
theorem aJ.cells(h:aJ n base w g A c S) : ∃ cs fr,w.heap[g]? = some (.cells cs 124 fr):=by
  obtain⟨⟨cp,h1,_⟩,_⟩:=h
  exact⟨_,_,h1⟩
theorem aJ.upd(h:aJ n base w g A c S)(hu:az X w w')(hg:g∉X)(hr:∀ x,x∈ob A→x∉X) : aJ n base w' g A c S:=by
  obtain⟨⟨cp,h1,h2,h3⟩,h4,h5,h6,h7⟩:=h
  exact⟨⟨cp,hu.blk hg h1,aQ.far h2 hu (fun _=>hr),h3⟩,ax h4 hu hr (fun _ _ q=>q),Nat.le_trans h5 hu.size,h6,Nat.le_trans h7 hu.size⟩
end
theorem dT.bad{n:Nat}{w:World}(hn:n≤w.heap.size){e:Int}{cs:List Value}(h:gh true w (Ev.bad e) cs) : dT n w (Ev.bad e) cs:=⟨hn,fun w' X hu ha=>by
  obtain⟨s,h1,h2,h3⟩:=h
  obtain⟨vw,vb,vd,vr,vo,k0,kw,kb,kd,kr,ko,kR⟩:=h2
  have nl:∀ {α:Type} {e:TypeId} {sz:Nat} {R:World→α→List Value→Prop} {v:Value},aB true e sz R w v []→aB true e sz R w' v []:=fun⟨A,c,hv,q1,q2,q3,q4⟩=>⟨A,c,hv,q1,q2,q3,fun hp=>absurd hp (Nat.lt_irrefl 0)⟩
  exact⟨s,h1,⟨vw,vb,vd,vr,vo,k0,nl kw,nl kb,nl kd,nl kr,nl ko,kR⟩,h3⟩⟩
theorem dB.nil{n base:Nat}{w:World}:dB n base w (.slice none 0 0) []:=b6.nil ..
theorem dB.bad{n base:Nat}{w:World}{v:Value}{e:Int}(hn:n≤w.heap.size)(h:lA base w v [Ev.bad e]) : dB n base w v [Ev.bad e]:=by
  obtain⟨cells,ho,hx⟩:=h
  refine⟨cells,ho,fun j x hj=>?_⟩
  obtain⟨cs,h1,h2,h3⟩:=hx j x hj
  cases j with
  | succ j=>simp at hj
  | zero =>
    have hj:Ev.bad e=x:=by simpa using hj
    subst hj
    exact⟨cs,h1,dT.bad hn h2,h3⟩
theorem nq{w:World}{d:Int}(hd:d=0∨d=1) : Calls Tryz.prog 38 #[.int .i64 d] w (fun e w'=>∃ g,e = .returned (.pointer (some ⟨g,0,none⟩))∧w.heap.size≤g∧aJ w.heap.size w.heap.size w' g none 0 ⟨d,[],false⟩∧az [] w w'):=by
 have h:((d != 0)&&(d != 1))=false:=by rcases hd with rfl | rfl<;>rfl
 refine en 12 Tryz.func38 rfl<|sg<|Pl 1<|nt<|sq<|sg<|Pl 3<|cu 3 [5] 8 (((d != 0)&&(d != 1))) (fun K c=>?_) ?_
 refine bl 5 ((d != 0)) (fun a=>?_) (fun a=>?_)
 have i:=al a
 exact Pl 3<|ce c (d != 1) (by rw[a];rfl)
 have i:=ae a
 exact Pl 3<|ce c false (by rw[a];rfl)
 refine nt<|cf h<|aX<|sg<|Pl 2<|L0<|dC #[.int .i64 d,.slice none 0 0,.bool false] fun f l j k b=>Pl 1<|nt<|rt<|rr (.pointer (some ⟨f,0,none⟩))<|?_
 exact⟨f,rfl,j,⟨⟨0,k,aB.nil ..,Nat.zero_le _,Nat.zero_le _⟩,b6.nil ..,b.size,gF,b.size⟩,b⟩
theorem ca{w:World}{n base g c:Nat}{A:Option Addr}{S:SS}(h:aJ n base w g A c S) : Calls Tryz.prog 42 #[.pointer (some ⟨g,0,none⟩)] w (c8 (.int .i64 ((S.held.length:Nat) : Int)) w):=by
 obtain⟨⟨cp,hb,hr,hl,hcp⟩,hrow,hn0,hlow,hbs⟩:=h
 have hcm:=aB.len hr
 refine en 8 Tryz.func42 rfl<|sg<|Pl 1<|ng<|Pl 3<|L0<|aZ hb 1<|Pl 2<|nt<|rt<|?_
 refine rr (.int .i64 ((S.held.length:Nat) : Int))<|?_
 exact⟨rfl,(az.refl [] _)⟩
open Go.RowKit
def um (n base:Nat)(S2:SS)(L:List Ev)(g:Nat)(A:Option Addr)(w:World)(e:Ending)(w':World) : Prop:=∃ v A2 c2 n2,e = .returned v∧dB n2 w.heap.size w' v L∧aJ n2 base w' g A2 c2 S2∧(∀ x,x∈ob A2→x∈ob A∨w.heap.size≤x)∧n≤n2∧az [g] w w'
theorem o5{w:World}{n base g c:Nat}{A:Option Addr}{S:SS}(h:aJ n base w g A c S){m:Md}{B:Option Addr}{cpb:Nat}{b:List Int}(hgA:g∉ob A)(hsl:aQ m w (.slice B b.length cpb) b)(hbl:b.length≤1048576)(hcb:b.length≤cpb) :
    Calls Tryz.prog 41 #[.pointer (some ⟨g,0,none⟩),.slice B b.length cpb] w (um n base (S.feed b).1 (S.feed b).2 g A w):=by
 obtain⟨⟨cp,hb,hr,hl,hcp⟩,hrow,hn0,hlow,hbs⟩:=h
 have hcm:=aB.len hr
 have hbm:=aB.len hsl
 refine en 53 Tryz.func41 rfl<|sg<|Pl 1<|nt<|sq<|sg<|Pl 3<|L0<|aZ hb 2<|nt<|cb (S.off) (fun l=>?_) (fun l=>?_)
 refine sg<|Pl 1<|nt<|rt<|tr<|rr (.slice none 0 0)<|?_
 have hs:S.feed b=(S,[]):=by unfold SS.feed;rw[l];rfl
 rw[hs]
 exact⟨_,A,c,n,rfl,dB.nil,⟨⟨cp,hb,hr,hl,hcp⟩,ax hrow (az.refl [] _) (fun x hx=>(by simp)) (fun _ _ q=>q),Nat.le_trans hn0 lr,hlow,Nat.le_trans hbs lr⟩,kV,Nat.le_refl _,(az.mono (S':=[g]) (az.refl [] _) av)⟩
 refine aX<|sg<|Pl 5<|L0<|aZ hb 1<|Pl 1<|L0<|Oi (256-((S.held.length:Nat) : Int))<|L0<|i7 (.int .i64 (min ((b.length:Nat) : Int) (256-((S.held.length:Nat) : Int)))) (nN (a:=((b.length:Nat) : Int)) (b:=(256-((S.held.length:Nat) : Int))) rfl (by kernel_rfl) (by kernel_rfl))<|Pl 1<|nt<|sq<|Rg 23 (fun w'=>w'.cell? ⟨g,1,none⟩=some (.slice A S.held.length cp)) fun R f=>?_
 have z:=ub f hb
 refine bg (au z rfl) fun d=>Rt 0 d<|Rt 1 d<|Rt 2 d<|Rt 3 d<|Rl 4 d (fun _ hs=>hs)<|Rt 5 d<|Rt 6 d<|Rt 7 d<|Rl 8 d (fun _ hs=>hs)<|Rt 9 d<|Rt 10 d<|Rt 11 d<|Rt 12 d<|?_
 refine Rl 13 d (fun _ hs=>hs)<|Rt 14 d<|?_
 have u:=aQ.upd' hr f aA
 refine Rr 15 d (.slice A S.held.length S.held.length) (fun _ _=>l0 (k1:=.i64) (k2:=.i64) (i1:=((S.held.length:Nat) : Int)) (i2:=((S.held.length:Nat) : Int)) (A:=A) (n:=S.held.length) (c:=cp) rfl Tryz.underlying22 (by kernel_rfl) (by kernel_rfl) (by kernel_rfl) (by kernel_rfl) rfl rfl (aB.cap u) (aB.adr u))<|Rt 16 d<|Rt 17 d<|jn (nV (P:=Tryz.prog) 22 5 1 Tryz.underlying22 rfl rfl B b.length cpb (k:=(min ((b.length:Nat) : Int) (256-((S.held.length:Nat) : Int)))) (((min ((b.length:Nat) : Int) (256-((S.held.length:Nat) : Int)))).toNat) (by omega) (by omega) (by omega)) fun G hrun30 H=>Rr 18 d (.slice G (((min ((b.length:Nat) : Int) (256-((S.held.length:Nat) : Int)))).toNat) cpb) (fun _ _=>gC (kl:=.i64) (k:=(min ((b.length:Nat) : Int) (256-((S.held.length:Nat) : Int)))) (A:=B) (n:=b.length) (c:=cpb) rfl Tryz.underlying22 (by kernel_rfl) (by kernel_rfl) (hrun30 _ _))<|?_
 refine R0 19 rfl<|uL (xs:=S.held) (ys:=(b.take (((min ((b.length:Nat) : Int) (256-((S.held.length:Nat) : Int)))).toNat))) (u).full (H _ _ _ _ _ (aQ.upd' hsl f aA)) (by(try simp only[List.length_take]);omega) fun o C T I J j=>?_
 have v:=ub j z
 refine bg (au v rfl) fun D=>Rt 20 D<|Rt 21 D<|vy 22 rfl<|bC v 1 #[.int .i64 S.dir,.slice o ((S.held++(b.take (((min ((b.length:Nat) : Int) (256-((S.held.length:Nat) : Int)))).toNat))).length) C,.bool S.off] fun E F i=>re<|tn<|sq<|sg<|Pl 4<|nt<|?_
 have p:=uz f (uz j i)
 refine cb (((min ((b.length:Nat) : Int) (256-((S.held.length:Nat) : Int)))==((b.length:Nat) : Int))) (fun y=>?_) (fun y=>?_)
 have K:=ap y
 refine sg<|Pl 1<|nt<|rt<|tr<|rr (.slice none 0 0)<|?_
 have hle:b.length≤256-S.held.length:=by omega
 have hs:S.feed b=(⟨S.dir,S.held++b,false⟩,[]):=by unfold SS.feed;rw[l,decide_eq_true hle];rfl
 rw[hs]
 have hz:(b.take (((min ((b.length:Nat) : Int) (256-((S.held.length:Nat) : Int)))).toNat))=b:=List.take_of_length_le (by omega)
 have hB:=F
 have hR:=(aQ.upd' I i (ah (aG v (by decide)) aA))
 rw[hz] at hB hR
 have hsh:=hR.cap
 have hgr:g∉ob A:=fun e=>hgA e
 have fin:∀ c2,fp base E (.slice o 0 c2) []→(∀ x,x∈ob o→n≤x)→(∀ x,x∈ob o→x∈ob A∨w.heap.size≤x)→um n base ⟨S.dir,S.held++b,false⟩ [] g A w (.returned (.slice none 0 0)) E:=fun c2 k1 k2 k3=>⟨_,o,c2,n,rfl,dB.nil,⟨⟨C,by rw[← l];exact hB,hR,by rw[List.length_append];omega,hsh⟩,k1,Nat.le_trans hn0 p.size,k2,Nat.le_trans hbs p.size⟩,k3,Nat.le_refl _,p⟩
 rcases J with⟨e1,e2⟩|⟨c2,k⟩
 · refine fin c ?_ ?_ ?_
   · rw[e1];exact ax hrow p (fun x hx=>(by rw[List.mem_singleton];intro e;exact hgA (e▸hx))) (fun _ _ q=>q)
   · rw[e1];exact hlow
   · rw[e1];exact kV
 · refine fin c2 ?_ ?_ ?_
   · exact b6.weaken (ax k i (fun x hx=>(by rw[List.mem_singleton];intro e;have:=lC k x hx;have:=ak hb;have:=f.size;omega)) (fun _ _ q=>q)) (Nat.le_trans hbs f.size)
   · exact fun x hx=>Nat.le_trans (Nat.le_trans hn0 f.size) (lC k x hx)
   · exact fun x hx=>.inr (Nat.le_trans f.size (lC k x hx))
 have K:=aq y
 refine aX<|sg<|Pl 4<|L0<|bC F 1 #[.int .i64 S.dir,.slice none 0 0,.bool S.off] fun U L r=>Pl 2<|L0<|bC L 2 #[.int .i64 S.dir,.slice none 0 0,.bool true] fun V M s=>ng<|Pl 1<|L0<|gA (m:=1) (e:=122) #[.int .i64 3,.int .u8 0,.int .u16 0,.int .u8 0,.int .u8 0,.int .u16 0,.int .u16 0,.int .u16 0,.int .u16 0,.int .u16 0,.int .u16 0,.int .u16 0,.int .u16 0,.int .u16 0,.int .u16 0,.slice none 0 0,.slice none 0 0,.slice none 0 0,.slice none 0 0,.int .u8 0,.int .u8 0,.int .u8 0,.int .u8 0,.int .u8 0,.slice none 0 0] fun N W O Q t=>?_
 refine Pl 1<|nt<|rt<|rr (.slice (some ⟨N,0,none⟩) 1 1)<|?_
 have hle:¬ b.length≤256-S.held.length:=by omega
 have hs:S.feed b=(⟨S.dir,[],true⟩,[Ev.bad 3]):=by unfold SS.feed;rw[l,decide_eq_false hle];rfl
 rw[hs]
 have hE:=oM (w0:=w) (x:=Ev.bad 3) (Nat.le_trans (le (le (le (le f.size j.size) i.size) r.size) s.size) O) Q ⟨⟨none,0,none,0,none,0,none,0,none,0⟩,by kernel_rfl,mp,by decide,by decide⟩
 exact⟨_,none,0,n,rfl,dB.bad (Nat.le_trans hn0 (le (le (le (le (le f.size j.size) i.size) r.size) s.size) t.size)) hE,⟨⟨0,(ub t M),aB.nil ..,(Nat.zero_le _),(Nat.zero_le _)⟩,b6.nil ..,Nat.le_trans hn0 (le (le (le (le (le f.size j.size) i.size) r.size) s.size) t.size),gF,Nat.le_trans hbs (le (le (le (le (le f.size j.size) i.size) r.size) s.size) t.size)⟩,iO,Nat.le_refl _,(u1 p (u1 r (aE s t) im) im)⟩
theorem p7{w:World}{n base g c:Nat}{A:Option Addr}{S:SS}(h:aJ n base w g A c S) : Calls Tryz.prog 43 #[.pointer (some ⟨g,0,none⟩)] w (um n base S.tick.1 S.tick.2 g A w):=by
 obtain⟨⟨cp,hb,hr,hl,hcp⟩,hrow,hn0,hlow,hbs⟩:=h
 have hcm:=aB.len hr
 refine en 32 Tryz.func43 rfl<|sg<|Pl 1<|ng<|Pl 3<|L0<|aZ hb 1<|Pl 1<|nt<|sq<|?_
 refine go<|Pl 4<|L0<|bC hb 1 #[.int .i64 S.dir,.slice none 0 0,.bool S.off] fun L u d=>Pl 2<|L0<|bC u 2 #[.int .i64 S.dir,.slice none 0 0,.bool false] fun v l f=>nt<|sq<|sg<|Pl 3<|nt<|?_
 have b:=u1 d f im
 refine cb ((((S.held.length:Nat) : Int)==0)) (fun o=>?_) (fun o=>?_)
 have y:=ap o
 refine sg<|Pl 1<|nt<|rt<|tr<|rr (.slice none 0 0)<|?_
 have hs:S.tick=(⟨S.dir,[],false⟩,[]):=by unfold SS.tick;rw[if_pos (by omega)]
 rw[hs]
 exact⟨_,none,0,v.heap.size,rfl,dB.nil,⟨⟨0,l,aB.nil ..,(Nat.zero_le _),(Nat.zero_le _)⟩,b6.nil ..,Nat.le_refl _,gF,Nat.le_trans hbs b.size⟩,iO,Nat.le_trans hn0 b.size,b⟩
 have y:=aq o
 refine aX<|sg<|Pl 3<|L0<|aZ l 0<|Pl 1<|?_
 refine pr (d8 S.dir S.held) fun a p r=>?_
 refine L0<|Oc<|e2 (i5 r (aQ.upd' hr b (ah (aG hb (by decide)) aA)) (by omega)) fun jf M z i=>?_
 obtain⟨B,C,D⟩:=z
 refine Pl 3<|L0<|bD #[.int .u8 0,.int .u16 0,.int .u8 0,.int .u8 0,.int .u16 0,.int .u16 0,.int .u16 0,.int .u16 0,.int .u16 0,.int .u16 0,.int .u16 0,.int .u16 0,.int .u16 0,.int .u16 0,.slice none 0 0,.slice none 0 0,.slice none 0 0,.slice none 0 0,.int .u8 0,.int .u8 0,.int .u8 0,.int .u8 0,.int .u8 0,.slice none 0 0] fun N O E F j=>L0<|aT F (qv a.unit a.tid a.msg jf) fun P G k=>Pl 1<|ng<|Pl 1<|L0<|bV G<|Pl 1<|L0<|gA (m:=1) (e:=122) (oV ⟨p,a⟩ jf) fun H I J K q=>Pl 1<|nl<|?_
 refine tn<|rt<|rr (.slice (some ⟨H,0,none⟩) 1 1)<|?_
 have hs:S.tick=(⟨S.dir,[],false⟩,[⟨p,a⟩]):=by unfold SS.tick;rw[if_neg (by omega),r]
 rw[hs]
 have s:=ud j (aE k q) E
 have hE:=oM (w0:=w) (x:=⟨p,a⟩) (Nat.le_trans (le (le (le (le d.size f.size) i.size) j.size) k.size) J) K ⟨jf,rfl,(bq.upd B s aA),C,D⟩
 have t:=aE i s
 exact⟨_,none,0,I.heap.size,rfl,lA.low hE,⟨⟨0,(ub t l),aB.nil ..,(Nat.zero_le _),(Nat.zero_le _)⟩,b6.nil ..,Nat.le_refl _,gF,Nat.le_trans hbs (le (le (le (le (le d.size f.size) i.size) j.size) k.size) q.size)⟩,iO,Nat.le_trans hn0 (le (le (le (le (le d.size f.size) i.size) j.size) k.size) q.size),(aE b t)⟩
theorem aJ.safe{n base c:Nat}{w:World}{g:Nat}{A:Option Addr}{S:SS}(h:aJ n base w g A c S)(D:List TypeId)(hD:D.contains 124=false) : c6 true D [g] w:=by
  obtain⟨⟨cp,h1,_⟩,_⟩:=h
  exact aG h1 hD
theorem fi{w:World}{n base g c:Nat}{A:Option Addr}{S S2:SS}{L:List Ev}{m:Md}{v:Value}{b:List Int}(hX:S.feed b=(S2,L))(h:aJ n base w g A c S)(hsl:aQ m w v b)(hbl:b.length≤1048576) :
    Calls Tryz.prog 41 #[.pointer (some ⟨g,0,none⟩),v] w (um n base S2 L g A w):=by
  obtain⟨B,cp,rfl,hc,_⟩:=hsl.shape
  have k:=o5 h (bH h.cells h.row (by decide)) hsl hbl hc
  rw[hX] at k
  exact k
theorem cv{w:World}{n base g c:Nat}{A:Option Addr}{S S2:SS}{L:List Ev}(hX:S.tick=(S2,L))(h:aJ n base w g A c S) : Calls Tryz.prog 43 #[.pointer (some ⟨g,0,none⟩)] w (um n base S2 L g A w):=by
  have k:=p7 h
  rw[hX] at k
  exact k
end Go.Proofs.YtogbnemojakcpaaGreat
namespace Go.Proofs.YtogbnemojakcpaaGreat
def N4 (C:ai) : Prop:=C.e≠4
theorem N4.need{C:ai}{b:Bool}{x:Int}(hx:x≠4)(h:N4 C) : N4 (C.need b x):=by
  unfold N4 ai.need at *
  split
  · exact hx
  · exact h
theorem N4.bytesC{C:ai}{n:Int}(h:N4 C) : N4 (C.bytesC n):=by
  unfold ai.bytesC
  split
  · exact N4.need (by decide) h
  · exact h
theorem N4.wordsC{C:ai}{n:Int}(h:N4 C) : N4 (C.wordsC n):=by
  unfold ai.wordsC
  split<;>exact N4.bytesC h
theorem N4.recs{one:Int→ai→Int × ai × cW}(ho:∀ s C,N4 C→N4 (one s C).2.1) : ∀ (n:Nat)(s:Int)(C:ai)(L:List cW),N4 C→N4 (aI one n s C L).1
  | 0,_,_,_,h=>h
  | n+1,s,C,L,h=>by
    unfold aI
    split
    · split
      · exact ho s C h
      · exact N4.recs ho n _ _ _ (ho s C h)
    · exact h
theorem nc{x:Int}(h:x≠4) : be x≠4:=by
  unfold be
  split
  · decide
  · exact h
theorem qV{dir c:Int}{C:ai}{r:ai × aU}(hC:N4 C)(h:aC dir c C=some r) : N4 r.1:=by
  unfold aC at h
  repeat' split at h
  all_goals first | cases h | skip
  all_goals simp only[cQ,cM,cE,f9,bo,gP,eF,dA,ns,gc]
  all_goals repeat' first | with_reducible exact hC | with_reducible apply N4.bytesC | with_reducible apply N4.wordsC | (with_reducible refine N4.need (by decide) ?_)
theorem rS{dir c:Int}{C:ai}{r:ai × aU}(hC:N4 C)(h:aH dir c C=some r) : N4 r.1:=by
  unfold aH at h
  repeat' split at h
  all_goals first | cases h | skip
  all_goals simp only[bP,bX,d7,cG,cw,cI,cJ,jb,kJ,kF,bA,nE,cA,jG,px,uI,tB]
  all_goals repeat' first | with_reducible exact hC | with_reducible apply N4.bytesC | with_reducible apply N4.wordsC | (with_reducible refine N4.need (by decide) ?_)
theorem rZ{dir c:Int}{C:ai}{r:ai × aU}(hC:N4 C)(h:aW dir c C=some r) : N4 r.1:=by
  unfold aW dX c9 at h
  repeat' split at h
  all_goals first | cases h | skip
  all_goals simp only[ej,i8,fw,fT,dk]
  all_goals repeat' first | with_reducible exact hC | with_reducible apply N4.bytesC | with_reducible apply N4.wordsC | (with_reducible refine N4.need (by decide) ?_)
theorem rJ(s:Int)(C:ai)(h:N4 C) : N4 (cn s C).2.1:=by
  simp only[cn,dO,cZ,io,ii,lw]
  repeat' first | with_reducible exact h | with_reducible apply N4.bytesC | with_reducible apply N4.wordsC | (with_reducible refine N4.need (by decide) ?_)
theorem pE(s:Int)(C:ai)(h:N4 C) : N4 (bz s C).2.1:=by
  simp only[bz,dV,fU,fW]
  repeat' first | with_reducible exact h | with_reducible apply N4.bytesC | with_reducible apply N4.wordsC | (with_reducible refine N4.need (by decide) ?_)
theorem rA(s:Int)(C:ai)(h:N4 C) : N4 (cm s C).2.1:=by
  simp only[cm,gE,lQ,cZ,io,ii,lw]
  repeat' first | with_reducible exact h | with_reducible apply N4.bytesC | with_reducible apply N4.wordsC | (with_reducible refine N4.need (by decide) ?_)
theorem gK{one:Int→ai→Int × ai × cW}(ho:∀ s C,N4 C→N4 (one s C).2.1)(may:Int→Bool)(c:Int){C:ai}(hC:N4 C) : N4 (dD one may c C).1:=by
  unfold dD km
  refine N4.need (nc (N4.recs ho _ _ _ _ ?_)) (N4.bytesC (N4.need (by decide) (N4.bytesC hC)))
  show(0:Int)≠4
  decide
theorem qS{dir c:Int}{C:ai}{r:ai × aU}(hC:N4 C)(h:aY dir c C=some r) : N4 r.1:=by
  unfold aY at h
  repeat' split at h
  all_goals first | cases h | skip
  · exact gK rJ _ _ hC
  · exact gK pE _ _ hC
  · exact gK rA _ _ hC
theorem N4.endC{C:ai}(h:N4 C) : N4 C.endC:=by
  unfold ai.endC
  exact N4.need (by decide) h
theorem pW{form:Int→Int→ai→Option (ai × aU)}(hg:∀ {dir c:Int}{C:ai}{r:ai × aU},N4 C→form dir c C=some r→N4 r.1){dir c:Int}{b:List Int}(hd:dir=0∨dir=1){r:ai × aU}(hf:form dir c ⟨b,false,0⟩=some r) :
    (aj form dir c b).2≠4:=by
  unfold aj
  rw[if_pos hd,hf]
  have h0:N4 ⟨b,false,0⟩:=by show(0:Int)≠4;decide
  have g1:=hg h0 hf
  show(aP r.2 r.1).2≠4
  unfold aP
  split
  · exact(show ¬ (0:Int)=4 from by decide)
  · exact N4.endC g1
theorem lf{form:Int→Int→ai→Option (ai × aU)}{dir c:Int}{b:List Int}(hd:dir=0∨dir=1)(hf:form dir c ⟨b,false,0⟩=none) : aj form dir c b=(aU.zero,4):=by
  unfold aj
  rw[if_pos hd,hf]
def eb (dir:Int)(b:List Int) : aU × Int :=
  if (aj aC dir (b.getD 0 0) (b.drop 1)).2==4 then
    if (aj aH dir (b.getD 0 0) (b.drop 1)).2==4 then
      if (aj aW dir (b.getD 0 0) (b.drop 1)).2==4 then
        if (aj aY dir (b.getD 0 0) (b.drop 1)).2==4 then aj bJ dir (b.getD 0 0) (b.drop 1)
        else aj aY dir (b.getD 0 0) (b.drop 1)
      else aj aW dir (b.getD 0 0) (b.drop 1)
    else aj aH dir (b.getD 0 0) (b.drop 1)
  else aj aC dir (b.getD 0 0) (b.drop 1)
theorem oH{dir:Int}{b:List Int}(hd:dir=0∨dir=1) : eb dir b=ij (jk (b.getD 0 0)) dir b:=by
  have no:∀ (form:Int→Int→ai→Option (ai × aU)),form dir (b.getD 0 0) ⟨b.drop 1,false,0⟩=none→((aj form dir (b.getD 0 0) (b.drop 1)).2==4)=true:=fun f h=>by rw[lf hd h];rfl
  have ye:∀ (form:Int→Int→ai→Option (ai × aU)),(∀ {dir c:Int} {C:ai} {r:ai × aU},N4 C→form dir c C=some r→N4 r.1)→(form dir (b.getD 0 0) ⟨b.drop 1,false,0⟩).isSome=true→¬ ((aj form dir (b.getD 0 0) (b.drop 1)).2==4)=true:=fun form hg h=>by
    obtain⟨r,hr⟩:=Option.isSome_iff_exists.1 h
    have k:=pW (form:=form) (c:=b.getD 0 0) (fun hC h=>hg hC h) hd hr
    rw[beq_iff_eq]
    exact k
  unfold eb
  rcases gV (b.getD 0 0) with⟨hk,hf⟩|⟨hk,hf⟩|⟨hk,hf⟩|⟨hk,hf⟩|⟨hk,hf⟩|⟨hk,hf⟩<;>rw[hf]
  · rw[if_neg (ye aC (fun hC h=>qV hC h) (by rcases hd with rfl | rfl<;>rcases hk with h | h | h | h<;>rw[h]<;>rfl))]
    rfl
  · rw[if_pos (no aC (by rcases hk with h | h | h | h | h | h | h<;>rw[h]<;>rfl)),if_neg (ye aH (fun hC h=>rS hC h) (by rcases hd with rfl | rfl<;>rcases hk with h | h | h | h | h | h | h<;>rw[h]<;>rfl))]
    rfl
  · rw[if_pos (no aC (by rcases hk with h | h | h | h | h<;>rw[h]<;>rfl)),if_pos (no aH (by rcases hk with h | h | h | h | h<;>rw[h]<;>rfl)),if_neg (ye aW (fun hC h=>rZ hC h) (by rcases hd with rfl | rfl<;>rcases hk with h | h | h | h | h<;>rw[h]<;>rfl))]
    rfl
  · rw[if_pos (no aC (by rcases hk with h | h<;>rw[h]<;>rfl)),if_pos (no aH (by rcases hk with h | h<;>rw[h]<;>rfl)),if_pos (no aW (by rcases hk with h | h<;>rw[h]<;>rfl)),if_neg (ye aY (fun hC h=>qS hC h) (by rcases hd with rfl | rfl<;>rcases hk with h | h<;>rw[h]<;>rfl))]
    rfl
  · rw[if_pos (no aC (by rw[hk]<;>rfl)),if_pos (no aH (by rw[hk]<;>rfl)),if_pos (no aW (by rw[hk]<;>rfl)),if_pos (no aY (by rw[hk]<;>rfl))]
    rfl
  · have no0:∀ (form:Int→Int→ai→Option (ai × aU)),(∀ C,form dir (b.getD 0 0) C=none)→((aj form dir (b.getD 0 0) (b.drop 1)).2==4)=true:=fun f h=>no f (h _)
    have ne:∀ k:Int,¬ b.getD 0 0=k→(b.getD 0 0==k)=false:=fun k h=>by simpa using h
    obtain⟨z1,z2,z5,a,z3,z4,z6,d,e,g,i,z7,z8,j,l,m,n,o,p⟩:=hk
    rw[if_pos (no0 aC fun C=>by unfold aC;simp only[ne _ z1,ne _ z2,ne _ z5,ne _ a,Bool.or_false,Bool.false_eq_true,if_false]),if_pos (no0 aH fun C=>by unfold aH;simp only[ne _ z3,ne _ z4,ne _ z6,ne _ d,ne _ e,ne _ g,ne _ i,Bool.or_false,Bool.false_eq_true,if_false]),if_pos (no0 aW fun C=>by unfold aW;simp only[ne _ z7,ne _ z8,ne _ j,ne _ l,ne _ m,Bool.or_false,Bool.false_eq_true,if_false]),if_pos (no0 aY fun C=>by unfold aY;simp only[ne _ n,ne _ o,Bool.or_false,Bool.false_eq_true,if_false])]
    exact lf hd (by unfold bJ;rw[if_pos (show(b.getD 0 0 != 43)=true from by rw[bne_iff_ne];exact p)])
def eW (dir:Int)(b:List Int) : aU × Int :=
  if dir != 0&&dir != 1 then (aU.zero,1)
  else if (b.length:Int)==0 then (aU.zero,2)
  else if decide (253<(b.length:Int)) then (aU.zero,3)
  else if decide (128≤b.getD 0 0)&&dir==1 then eh b
  else eb dir b
theorem ep(dir:Int)(b:List Int) : eW dir b=da dir b:=by
  unfold eW da
  split
  · rfl
  · rename_i hh
    have hd:dir=0∨dir=1:=by simp only[Bool.and_eq_true,bne_iff_ne,ne_eq] at hh;omega
    rw[oH hd]
open Go.RowKit
theorem o3{xs:List Int}{k a b:Nat}(h:2*k+1<xs.length)(ha:a=2*k)(hb:b=2*k+1)(hr:∀ x,x∈xs→0≤x∧x<256) : cz (xs.drop (2*k))=[(((256*xs.getD a 0)%65536)+xs.getD b 0)%65536]++cz (xs.drop (2*(k+1))):=by
  subst ha hb
  rw[List.drop_eq_getElem_cons (show 2*k<xs.length by omega),List.drop_eq_getElem_cons h]
  have h1:=hr _ (List.getElem_mem (show 2*k<xs.length by omega))
  have h2:=hr _ (List.getElem_mem h)
  have e1:xs.getD (2*k) 0=xs[2*k]:=by rw[List.getD_eq_getElem?_getD,List.getElem?_eq_getElem (by omega)];rfl
  have e2:xs.getD (2*k+1) 0=xs[2*k+1]:=by rw[List.getD_eq_getElem?_getD,List.getElem?_eq_getElem h];rfl
  rw[e1,e2]
  show(xs[2*k]*256+xs[2*k+1]) :: cz (xs.drop (2*k+1+1))=_
  rw[show 2*k+1+1=2*(k+1) by omega,show((256*xs[2*k])%65536+xs[2*k+1])%65536=xs[2*k]*256+xs[2*k+1] by omega]
  rfl
theorem o9{xs L:List Int}{k:Nat}(h:L++cz (xs.drop (2*k))=cz xs)(h1:¬ 2*k+1<xs.length)(h2:xs.length%2=0) : L=bY xs:=by
  have hd:xs.drop (2*k)=[]:=List.drop_eq_nil_of_le (by omega)
  rw[hd] at h
  unfold bY
  rw[if_pos h2,← h]
  simp[cz]
theorem sX{m:Md}{A:Option Addr}{cp:Nat}{xs:List Int}{w:World}(h:aQ m w (.slice A xs.length cp) xs)(hn:xs.length≤1048576) : Calls Tryz.prog 217 #[.slice A xs.length cp] w (qx xs w):=by
 have hr:=aQ.range h
 refine en 33 Tryz.func217 rfl<|sg<|Pl 1<|ng<|Pl 1<|nt<|sq<|sg<|?_
 refine Pl 2<|L0<|Oe (.int .i64 (Int.tmod ((xs.length:Nat) : Int) 2)) (.int .i64 (((xs.length:Nat) : Int)%2)) (congrArg (Value.int .i64) (Int.tmod_eq_emod_of_nonneg (by omega)))<|Pl 1<|nt<|cb (((((xs.length:Nat) : Int)%2)==1)) (fun f=>?_) (fun f=>?_)
 have y:=ap f
 refine sg<|Pl 1<|nt<|rt<|tr<|rr (.slice none 0 0)<|?_
 have hs:bY xs=[]:=by unfold bY;rw[if_neg (by have:=ap f;omega)]
 exact⟨_,rfl,by rw[hs];exact b6.nil ..,(az.refl [] _)⟩
 have y:=aq f
 refine aX<|sq<|sg<|Pl 1<|nt<|bk<|?_
 refine gI (fun x=>[(0,.slice A xs.length cp),(2,.slice none 0 0),(3,.slice x.2.2.1 x.2.1.length x.2.2.2),(4,.int .i64 ((2*x.1:Nat) : Int))]) (fun(x:Nat × List Int × Option Addr × Nat) w'=>az [] w w'∧ir w.heap.size w' (.slice x.2.2.1 x.2.1.length x.2.2.2) x.2.1∧(2*x.1≤xs.length)∧(x.2.1++cz (xs.drop (2*x.1))=cz xs)∧(x.2.1.length=x.1)) (fun x=>xs.length-2*x.1) (0,[],none,0) ⟨az.refl _ _,(b6.nil w.heap.size _ _ pL _),(by(try dsimp only);omega),rfl,rfl⟩ ?_
 rintro⟨k,L,B,cq⟩ z ⟨g,C,D,E,F⟩
 refine gJ [(0,.slice A xs.length cp),(2,.slice none 0 0),(3,.slice B L.length cq),(4,.int .i64 ((2*k:Nat) : Int))] ?_
 have j:ir w.heap.size z (.slice B L.length cq) L:=C
 have T:2*k≤xs.length:=D
 have U:L++cz (xs.drop (2*k))=cz xs:=E
 have V:L.length=k:=F
 have hL:L++cz (xs.drop (2*k))=cz xs:=by assumption
 refine sq<|sg<|Pl 1<|L0<|Oi (((2*k:Nat) : Int)+1)<|Pl 3<|nt<|cb ((decide ((((2*k:Nat) : Int)+1)<((xs.length:Nat) : Int)))) (fun l=>?_) (fun l=>?_)
 have G:=of_decide_eq_true l
 refine aX<|sq<|bk<|?_
 have o:=aQ.old h g
 refine f3 (aQ.at_ o (2*k) (by omega)) fun H I p q W=>f3 (aQ.at_ o (((((2*k:Nat) : Int)+1)).toNat) (by omega)) fun J K r s X=>Rg 17 (fun w'=>w'.cell? ⟨H,I+2*k,none⟩=some (.int .u8 (xs.getD (2*k) 0))∧w'.cell? ⟨J,K+((((2*k:Nat) : Int)+1)).toNat,none⟩=some (.int .u8 (xs.getD (((((2*k:Nat) : Int)+1)).toNat) 0))) fun Y d=>bg ⟨(uc d q),(uc d s)⟩ fun c=>Rt 0 c<|Rt 1 c<|Rt 2 c<|mb 3 c xs.length (2*k) ((2*k:Nat) : Int) rfl p (by omega)<|Rl 4 c (fun _ hs=>hs.1)<|Rr 5 c (.int .u16 (xs.getD (2*k) 0)) (fun _ _=>ck (.int .u16 (IntKind.u16.wrap (xs.getD (2*k) 0))) (by kernel_rfl) (congrArg (Value.int .u16) (hM (by omega))))<|Rt 6 c<|Rt 7 c<|Rt 8 c<|Rr 9 c (.int .i64 (((2*k:Nat) : Int)+1)) (fun _ _=>ck (.int .i64 (IntKind.i64.wrap (((2*k:Nat) : Int)+1))) (by kernel_rfl) (congrArg (Value.int .i64) (IntWalk.i64_in _ (by omega))))<|?_
 refine mb 10 c xs.length (((((2*k:Nat) : Int)+1)).toNat) (((2*k:Nat) : Int)+1) (by omega) r (by omega)<|Rl 11 c (fun _ hs=>hs.2)<|Rr 12 c (.int .u16 (xs.getD (((((2*k:Nat) : Int)+1)).toNat) 0)) (fun _ _=>ck (.int .u16 (IntKind.u16.wrap (xs.getD (((((2*k:Nat) : Int)+1)).toNat) 0))) (by kernel_rfl) (congrArg (Value.int .u16) (hM (by omega))))<|Rt 13 c<|R0 14 rfl<|gA (m:=1) (e:=24) #[.int .u16 ((((256*(xs.getD (2*k) 0))%65536)+(xs.getD (((((2*k:Nat) : Int)+1)).toNat) 0))%65536)] fun Z a0 M N n=>?_
 have O:=rj M (xs:=[((((256*(xs.getD (2*k) 0))%65536)+(xs.getD (((((2*k:Nat) : Int)+1)).toNat) 0))%65536)]) (by as_aux_lemma=>kernel_rfl) (aR (by omega) dS) (by(try simp only[List.length_cons,List.length_nil]);omega) N
 have i:=aE d n
 refine bg ⟨(uc i q),(uc i s)⟩ fun a1=>?_
 refine R0 15 rfl<|to nM (xs:=L) (ys:=([((((256*(xs.getD (2*k) 0))%65536)+(xs.getD (((((2*k:Nat) : Int)+1)).toNat) 0))%65536)])) (.int .u16 0) 2 (ax j i (fun x hx=>am) (fun _ _ h=>h)) (O).rd (by(try simp only[List.length_append,List.length_cons,List.length_nil,bB]);omega) (le (le g.size d.size) n.size) fun P Q a2 R t=>?_
 have a3:=ut (az.mono (S':=(ob B++[])) i av) t (aM (fun x hx=>Or.inl (by simp[hx])) av)
 have u:=ut (aE (aE g d) n) t (aM (cC j lr) av)
 have v:=aQ.old h u
 exact bg ⟨(cB v p (2*k) (by omega)),(cB v r (((((2*k:Nat) : Int)+1)).toNat) (by omega))⟩ fun S=>Rt 16 S<|re<|bn<|tn<|go<|Pl 1<|L0<|Oi (((2*k:Nat) : Int)+2)<|Pl 1<|nl<|ek ((k+1),(L++[((((256*(xs.getD (2*k) 0))%65536)+(xs.getD (((((2*k:Nat) : Int)+1)).toNat) 0))%65536)]),P,Q) ⟨u,R,(by(try dsimp only);omega),(by(try dsimp only);rw[← hL,o3 (k:=k) (a:=2*k) (b:=(((2*k:Nat) : Int)+1).toNat) (by omega) rfl (by omega) hr,List.append_assoc]),(by(try dsimp only);simp only[List.length_append,List.length_cons,List.length_nil];omega)⟩ (by omega)
 have G:=of_decide_eq_false l
 refine xt<|tx<|tx<|bx<|tn<|sg<|Pl 2<|nt<|rt<|rr (.slice B L.length cq)<|?_
 have hs:L=bY xs:=o9 hL (by omega) (by omega)
 exact⟨_,rfl,by rw[← hs];exact j,g⟩
theorem sr{m:Md}{v:Value}{xs:List Int}{w:World}(h:aQ m w v xs)(hn:xs.length≤1048576) : Calls Tryz.prog 217 #[v] w (qx xs w):=by
  obtain⟨A,cp,rfl,_,_⟩:=h.shape
  exact sX h hn
theorem nU{a n:Int}{w:World}(ha:0≤a∧a<65536)(hn : -1048576≤n∧n≤1048576) : Calls Tryz.prog 215 #[.int .u16 a,.int .i64 n] w (c8 (.bool (cH a n)) w):=by
 refine en 16 Tryz.func215 rfl<|sg<|Pl 1<|nt<|sq<|sg<|Pl 3<|cu 3 [7] 10 (((decide (n<1))||(decide (65536<n)))) (fun K d=>?_) ?_
 refine bl 7 ((decide (n<1))) (fun b=>?_) (fun b=>?_)
 have e:=of_decide_eq_true b
 exact Pl 3<|ce d true (by rw[b];rfl)
 have e:=of_decide_eq_false b
 exact Pl 3<|ce d (decide (65536<n)) (by rw[b];rfl)
 refine nt<|cb (((decide (n<1))||(decide (65536<n)))) (fun c=>?_) (fun c=>?_)
 refine sg<|Pl 1<|nt<|rt<|tr<|rr (.bool false)<|?_
 have hq:=c
 have hs:cH a n=false:=by unfold cH;simp only[Bool.or_eq_true,decide_eq_true_eq] at hq;simp only[Bool.and_eq_false_iff,decide_eq_false_iff_not];omega
 rw[hs]
 exact⟨rfl,(az.refl [] _)⟩
 have f:=(aD c).1
 have g:=(aD c).2
 have h:=of_decide_eq_false f
 have i:=of_decide_eq_false g
 refine aX<|sg<|Pl 1<|L0<|Oi a<|Pl 1<|L0<|Oi (a+n)<|Pl 2<|nt<|rt<|rr (.bool (decide ((a+n)≤65536)))<|?_
 have hs:cH a n=(decide ((a+n)≤65536)):=by unfold cH;rw[Bool.eq_iff_iff];simp only[Bool.and_eq_true,decide_eq_true_eq];omega
 rw[hs]
 exact⟨rfl,(az.refl [] _)⟩
open Go.RowKit
def vH (A:Option Addr)(cp:Nat)(full:List Int)(k:Nat)(C:ai) : Array Value:=#[.slice A full.length cp,.int .i64 ((k:Nat) : Int),.bool C.sh,.int .i64 C.e]
structure RC (w0:World) (m:Md) (A:Option Addr) (cp:Nat) (full:List Int) (w:World) (g:Nat) (C:ai) : Prop where
  src:aQ m w0 (.slice A full.length cp) full
  u:az [] w0 w
  new:w0.heap.size≤g
  cell:∃ k:Nat,w.heap[g]? = some (.cells (vH A cp full k C) 159 (0,0))∧k≤full.length∧C.l=full.drop k
  len:full.length≤1048576
theorem RC.upd{w0:World}{m:Md}{A:Option Addr}{cp:Nat}{full:List Int}{w w':World}{g:Nat}{C:ai}{S:List Nat}(h:RC w0 m A cp full w g C)(hu:az S w w')(hg:g∉S)(U:az [] w0 w') : RC w0 m A cp full w' g C:=by
  obtain⟨h1,h2,h3,⟨k,h4,h5,h6⟩,h7⟩:=h
  exact⟨h1,U,h3,⟨k,hu.blk hg h4,h5,h6⟩,h7⟩
theorem RC.rd{w0:World}{m:Md}{A:Option Addr}{cp:Nat}{full:List Int}{w:World}{g:Nat}{C:ai}(h:RC w0 m A cp full w g C) : aQ m w (.slice A full.length cp) full:=aQ.old h.src h.u
theorem RC.rng{w0:World}{m:Md}{A:Option Addr}{cp:Nat}{full:List Int}{w:World}{g:Nat}{C:ai}(h:RC w0 m A cp full w g C) : ∀ x,x∈C.l→0≤x∧x<256:=fun x hx=>by
  obtain⟨k,_,_,h2⟩:=h.cell
  rw[h2] at hx
  exact aQ.range h.src x (List.mem_of_mem_drop hx)
theorem rY(C:ai){ok:Bool}{x:Int}(h:(ok || (C.e != 0))=true) : C.need ok x=C:=by
  unfold ai.need
  rw[if_neg]
  rintro⟨h1,rfl⟩
  rw[h1] at h
  cases h
theorem rh(C:ai){ok:Bool}{x:Int}(h:(ok || (C.e != 0))=false) : C.need ok x = { C with e:=x }:=by
  simp only[Bool.or_eq_false_iff,bne_eq_false_iff_eq] at h
  unfold ai.need
  rw[if_pos ⟨h.2,h.1⟩]
def sw (w0:World)(m:Md)(A:Option Addr)(cp:Nat)(full:List Int)(g:Nat)(C:ai)(w:World)(e:Ending)(w':World) : Prop:=e = .returned (.tuple #[])∧RC w0 m A cp full w' g C∧az [g] w w'
theorem aL{w0:World}{m:Md}{A:Option Addr}{cp:Nat}{full:List Int}{w:World}{g:Nat}{C:ai}(ok:Bool)(x:Int)(hC:RC w0 m A cp full w g C) :
    Calls Tryz.prog 152 #[.pointer (some ⟨g,0,none⟩),.bool ok,.int .i64 x] w (sw w0 m A cp full g (C.need ok x) w):=by
 obtain⟨hsrc,hU,hnew,⟨k,hB,hk,hl⟩,hlen⟩:=hC
 refine en 18 Tryz.func152 rfl<|sq<|sg<|Pl 2<|cu 6 [7] 13 ((ok || (C.e != 0))) (fun K c=>?_) ?_
 refine bl 7 (ok) (fun b=>?_) (fun b=>?_)
 exact Pl 6<|ce c true (by rw[b];rfl)
 exact Pl 3<|L1<|aZ hB 3<|Pl 2<|ce c (C.e != 0) (by rw[b];rfl)
 refine nt<|cb ((ok || (C.e != 0))) (fun a=>?_) (fun a=>?_)
 refine rt<|tr<|rr (.tuple #[])<|?_
 rw[rY C a]
 exact⟨rfl,⟨hsrc,hU.trans' (az.mono (S':=[g]) (az.refl [] _) av) (fun x hx=>.inr (by simp at hx;subst hx;exact hnew)),hnew,⟨k,hB,hk,hl⟩,hlen⟩,(az.mono (S':=[g]) (az.refl [] _) av)⟩
 have i:=(aD a).1
 have f:=(aD a).2
 have j:=ae f
 refine aX<|go<|Pl 4<|L0<|bC hB 3 #[.slice A full.length cp,.int .i64 ((k:Nat) : Int),.bool C.sh,.int .i64 x] fun l h d=>nl<|rm (.tuple #[])<|?_
 rw[rh C a]
 exact⟨rfl,⟨hsrc,hU.trans' d (fun x hx=>.inr (by simp at hx;subst hx;exact hnew)),hnew,⟨k,h,hk,hl⟩,hlen⟩,d⟩
theorem gw{C:ai}{full:List Int}{k:Nat}{n:Int}(hk:k≤full.length)(hl:C.l=full.drop k) : C.fails n=((C.sh || decide (n<0))||decide ((((full.length:Nat) : Int)-((k:Nat) : Int))<n)):=by
  unfold ai.fails
  rw[hl,List.length_drop,show((full.length-k:Nat) : Int)=((full.length:Nat) : Int)-((k:Nat) : Int) by omega]
def s0 (w0:World)(m:Md)(A:Option Addr)(cp:Nat)(full:List Int)(g:Nat)(C:ai)(n:Int)(w:World)(e:Ending)(w':World) : Prop:=∃ A2 n2 c2,e = .returned (.slice A2 n2 c2)∧(∀ m' w'',aQ m' w'' (.slice A full.length cp) full→aQ m' w'' (.slice A2 n2 c2) (C.bytesR n))∧RC w0 m A cp full w' g (C.bytesC n)∧az [g] w w'
theorem rW{l full:List Int}{k a b:Nat}(hl:l=full.drop k)(h:b=k+a) : l.drop a=full.drop b:=by
  rw[hl,List.drop_drop,h]
theorem mS{C:ai}{full:List Int}{k:Nat}{n:Int}(hk:k≤full.length)(hl:C.l=full.drop k)(hf:C.fails n=false)(a b:Nat)(ha:(a:Int)=k)(hb:(b:Int)=(k:Int)+n) : (full.take b).drop a=C.bytesR n:=by
  obtain rfl:a=k:=by omega
  unfold ai.bytesR
  rw[hf,hl,List.drop_take]
  show _=(full.drop a).take n.toNat
  rw[show b-a=n.toNat by omega]
theorem ms{w0:World}{m:Md}{A:Option Addr}{cp:Nat}{full:List Int}{w:World}{g:Nat}{C:ai}{n:Int}(hn : -1048576≤n∧n≤2097152)(hC:RC w0 m A cp full w g C) :
    Calls Tryz.prog 153 #[.pointer (some ⟨g,0,none⟩),.int .i64 n] w (s0 w0 m A cp full g C n w):=by
 obtain⟨hsrc,hU,hnew,⟨k,hB,hk,hl⟩,hlen⟩:=hC
 have hcp:full.length≤cp:=by obtain⟨_,_,hv,h1,_⟩:=aB.shape hsrc;injection hv with _ _ h3;omega
 refine en 64 Tryz.func153 rfl<|sg<|Pl 1<|nt<|sq<|sq<|Rg 22 (fun w'=>w'.cell? ⟨g,2,none⟩=some (.bool C.sh)∧w'.cell? ⟨g,0,none⟩=some (.slice A full.length cp)∧w'.cell? ⟨g,1,none⟩=some (.int .i64 ((k:Nat) : Int))) fun a4 i=>?_
 have d:=ub i hB
 refine bg ⟨(au d rfl),(au d rfl),(au d rfl)⟩ fun a=>Rt 0 a<|Rt 1 a<|Rt 2 a<|Rl 3 a (fun _ hs=>hs.1)<|Rt 4 a<|sG 9 (C.sh) (fun j=>?_) (fun j=>?_)
 refine Ro 5 a<|Ro 6 a<|Rt 7 a<|Rt 8 a<|Ro 9 a<|Ro 10 a<|Ro 11 a<|Ro 12 a<|Ro 13 a<|Ro 14 a<|Ro 15 a<|Ro 16 a<|Ro 17 a<|Ro 18 a<|?_
 refine Ro 19 a<|Ro 20 a<|Rt 21 a<|re<|tn<|c1<|sg<|Pl 3<|L0<|bC d 2 #[.slice A full.length cp,.int .i64 ((k:Nat) : Int),.bool true,.int .i64 C.e] fun a5 q D=>ng<|?_
 refine Pl 4<|L0<|aZ q 0<|Pl 3<|L0<|bC q 1 #[.slice A full.length cp,.int .i64 ((full.length:Nat) : Int),.bool true,.int .i64 C.e] fun E F G=>ng<|Pl 1<|?_
 have r:=u1 (u1 (az.mono (S':=[g]) i av) D im) G im
 have H:RC w0 m A cp full E g { C with l:=[],sh:=true }:=⟨hsrc,hU.trans' r (fun x hx=>.inr (by simp at hx;subst hx;exact hnew)),hnew,⟨full.length,F,Nat.le_refl _,List.drop_length.symm⟩,hlen⟩
 refine L0<|Oc<|m2 (aL false 2 H) fun a6 I J=>ng<|Pl 1<|nt<|rt<|tr<|rr (.slice none 0 0)<|?_
 have hf:C.fails n=true:=by rw[gw (n:=n) hk hl,j];rfl
 have e1:C.bytesR n=[]:=by unfold ai.bytesR;rw[hf];rfl
 have e2:C.bytesC n=ai.need { C with l:=[],sh:=true } false 2:=by unfold ai.bytesC;rw[hf];rfl
 exact⟨none,0,0,rfl,fun _ _ _=>by rw[e1];exact aB.nil ..,by rw[e2];exact I,(u1 r J im)⟩
 refine Rt 5 a<|Rt 6 a<|Rt 7 a<|Rt 8 a<|sG 13 ((decide (n<0))) (fun f=>?_) (fun f=>?_)
 have K:=of_decide_eq_true f
 refine Ro 9 a<|Ro 10 a<|Ro 11 a<|Ro 12 a<|Ro 13 a<|Ro 14 a<|Ro 15 a<|Ro 16 a<|Ro 17 a<|Ro 18 a<|Ro 19 a<|Ro 20 a<|Rt 21 a<|re<|?_
 refine tn<|c1<|sg<|Pl 3<|L0<|bC d 2 #[.slice A full.length cp,.int .i64 ((k:Nat) : Int),.bool true,.int .i64 C.e] fun a7 s L=>ng<|Pl 4<|L0<|aZ s 0<|Pl 3<|L0<|bC s 1 #[.slice A full.length cp,.int .i64 ((full.length:Nat) : Int),.bool true,.int .i64 C.e] fun M N O=>?_
 refine ng<|Pl 1<|?_
 have t:=u1 (u1 (az.mono (S':=[g]) i av) L im) O im
 have Q:RC w0 m A cp full M g { C with l:=[],sh:=true }:=⟨hsrc,hU.trans' t (fun x hx=>.inr (by simp at hx;subst hx;exact hnew)),hnew,⟨full.length,N,Nat.le_refl _,List.drop_length.symm⟩,hlen⟩
 refine L0<|Oc<|m2 (aL false 2 Q) fun a8 R S=>ng<|Pl 1<|nt<|rt<|tr<|rr (.slice none 0 0)<|?_
 have hf:C.fails n=true:=by rw[gw (n:=n) hk hl,j,f];rfl
 have e1:C.bytesR n=[]:=by unfold ai.bytesR;rw[hf];rfl
 have e2:C.bytesC n=ai.need { C with l:=[],sh:=true } false 2:=by unfold ai.bytesC;rw[hf];rfl
 exact⟨none,0,0,rfl,fun _ _ _=>by rw[e1];exact aB.nil ..,by rw[e2];exact R,(u1 t S im)⟩
 have K:=of_decide_eq_false f
 refine Rt 9 a<|Rt 10 a<|Rt 11 a<|Rt 12 a<|Rl 13 a (fun _ hs=>hs.2.1)<|Rt 14 a<|Rt 15 a<|Rt 16 a<|Rt 17 a<|Rl 18 a (fun _ hs=>hs.2.2)<|Rr 19 a (.int .i64 (((full.length:Nat) : Int)-((k:Nat) : Int))) (fun _ _=>ck (.int .i64 (IntKind.i64.wrap (((full.length:Nat) : Int)-((k:Nat) : Int)))) (by kernel_rfl) (congrArg (Value.int .i64) (IntWalk.i64_in _ (by omega))))<|Rt 20 a<|Rt 21 a<|re<|?_
 refine tn<|cb ((decide ((((full.length:Nat) : Int)-((k:Nat) : Int))<n))) (fun o=>?_) (fun o=>?_)
 have T:=of_decide_eq_true o
 refine sg<|Pl 3<|L0<|bC d 2 #[.slice A full.length cp,.int .i64 ((k:Nat) : Int),.bool true,.int .i64 C.e] fun a9 u U=>ng<|Pl 4<|L0<|aZ u 0<|Pl 3<|L0<|bC u 1 #[.slice A full.length cp,.int .i64 ((full.length:Nat) : Int),.bool true,.int .i64 C.e] fun V W X=>nt<|?_
 refine sg<|Pl 1<|?_
 have v:=u1 (u1 (az.mono (S':=[g]) i av) U im) X im
 have Y:RC w0 m A cp full V g { C with l:=[],sh:=true }:=⟨hsrc,hU.trans' v (fun x hx=>.inr (by simp at hx;subst hx;exact hnew)),hnew,⟨full.length,W,Nat.le_refl _,List.drop_length.symm⟩,hlen⟩
 refine L0<|Oc<|m2 (aL false 2 Y) fun aa Z a0=>ng<|Pl 1<|nt<|rt<|tr<|rr (.slice none 0 0)<|?_
 have hf:C.fails n=true:=by rw[gw (n:=n) hk hl,j,f,o];rfl
 have e1:C.bytesR n=[]:=by unfold ai.bytesR;rw[hf];rfl
 have e2:C.bytesC n=ai.need { C with l:=[],sh:=true } false 2:=by unfold ai.bytesC;rw[hf];rfl
 exact⟨none,0,0,rfl,fun _ _ _=>by rw[e1];exact aB.nil ..,by rw[e2];exact Z,(u1 v a0 im)⟩
 have T:=of_decide_eq_false o
 refine aX<|sg<|Pl 4<|L0<|aZ d 1<|Pl 1<|L0<|Oi (((k:Nat) : Int)+n)<|Pl 2<|L0<|bC d 1 #[.slice A full.length cp,.int .i64 (((k:Nat) : Int)+n),.bool C.sh,.int .i64 C.e] fun ab a1 a2=>nt<|sq<|Rg 16 (fun w'=>w'.cell? ⟨g,0,none⟩=some (.slice A full.length cp)∧w'.cell? ⟨g,1,none⟩=some (.int .i64 (((k:Nat) : Int)+n))) fun ac y=>?_
 have p:=ub y a1
 refine bg ⟨(au p rfl),(au p rfl)⟩ fun b=>Rt 0 b<|Rt 1 b<|Rt 2 b<|Rl 3 b (fun _ hs=>hs.1)<|Rt 4 b<|Rt 5 b<|Rt 6 b<|Rl 7 b (fun _ hs=>hs.2)<|Rt 8 b<|Rr 9 b (.int .i64 ((((k:Nat) : Int)+n)-n)) (fun _ _=>ck (.int .i64 (IntKind.i64.wrap ((((k:Nat) : Int)+n)-n))) (by kernel_rfl) (congrArg (Value.int .i64) (IntWalk.i64_in _ (by omega))))<|Rt 10 b<|Rt 11 b<|Rt 12 b<|?_
 refine Rl 13 b (fun _ hs=>hs.2)<|jn (fE (P:=Tryz.prog) 22 5 1 Tryz.underlying22 rfl rfl A full.length cp (lo:=((((k:Nat) : Int)+n)-n)) (up:=(((k:Nat) : Int)+n)) ((((((k:Nat) : Int)+n)-n)).toNat) (((((k:Nat) : Int)+n)).toNat) (by omega) (by omega) (by omega) (by omega) (by omega)) fun z hrun69 a3=>Rr 14 b (.slice z ((((((k:Nat) : Int)+n)).toNat)-((((((k:Nat) : Int)+n)-n)).toNat)) (cp-((((((k:Nat) : Int)+n)-n)).toNat))) (fun _ _=>eu (kl:=.i64) (kh:=.i64) (lo:=((((k:Nat) : Int)+n)-n)) (hi:=(((k:Nat) : Int)+n)) (A:=A) (n:=full.length) (c:=cp) rfl Tryz.underlying22 (by kernel_rfl) (by kernel_rfl) (by kernel_rfl) (hrun69 _ _ _))<|Rt 15 b<|re<|tn<|rt<|rr (.slice z ((((((k:Nat) : Int)+n)).toNat)-((((((k:Nat) : Int)+n)-n)).toNat)) (cp-((((((k:Nat) : Int)+n)-n)).toNat)))<|?_
 have hf:C.fails n=false:=by rw[gw (n:=n) hk hl,j,f,o];rfl
 have B:=aE (u1 (az.mono (S':=[g]) i av) a2 im) y
 have e2:C.bytesC n = { C with l:=C.l.drop n.toNat }:=by unfold ai.bytesC;rw[hf];rfl
 exact⟨_,_,_,rfl,fun m' w'' h=>by have:=a3 m' _ _ w'' full h;rw[mS hk hl hf _ _ (by omega) (by omega)] at this;exact this,by rw[e2];exact⟨hsrc,hU.trans' B (fun x hx=>.inr (by simp at hx;subst hx;exact hnew)),hnew,⟨(((k:Nat) : Int)+n).toNat,(by unfold vH;rw[show((((((k:Nat) : Int)+n).toNat:Nat) : Int))=((k:Nat) : Int)+n by omega];exact p),by omega,rW hl (by omega)⟩,hlen⟩,B⟩
def ri (w0:World)(m:Md)(A:Option Addr)(cp:Nat)(full:List Int)(g:Nat)(C:ai)(n:Int)(w:World)(e:Ending)(w':World) : Prop:=∃ A2 c2,e = .returned (.slice A2 (C.bytesR n).length c2)∧(∀ m' w'',aQ m' w'' (.slice A full.length cp) full→aQ m' w'' (.slice A2 (C.bytesR n).length c2) (C.bytesR n))∧RC w0 m A cp full w' g (C.bytesC n)∧az [g] w w'
theorem ew{w0:World}{m:Md}{A:Option Addr}{cp:Nat}{full:List Int}{w:World}{g:Nat}{C:ai}{n:Int}(hn : -1048576≤n∧n≤2097152)(hC:RC w0 m A cp full w g C) : Calls Tryz.prog 153 #[.pointer (some ⟨g,0,none⟩),.int .i64 n] w (ri w0 m A cp full g C n w):=by
  refine(ms hn hC).mono ?_
  rintro e w' ⟨A2,n2,c2,rfl,h1,h2,h3⟩
  obtain⟨_,_,hv,_⟩:=aB.shape (h1 m w0 hC.src)
  injection hv with _ e2 _
  subst e2
  exact⟨A2,c2,rfl,h1,h2,h3⟩
theorem s5{full:List Int}{k:Nat}{C:ai}(hk:k≤full.length)(hl:C.l=full.drop k) : ((full.length:Nat) : Int)-((k:Nat) : Int)=((C.l.length:Nat) : Int):=by
  rw[hl,List.length_drop]
  omega
theorem fS{w0:World}{m:Md}{A:Option Addr}{cp:Nat}{full:List Int}{w:World}{g:Nat}{C:ai}(hC:RC w0 m A cp full w g C) :
    Calls Tryz.prog 161 #[.pointer (some ⟨g,0,none⟩)] w (c8 (.int .i64 ((C.l.length:Nat) : Int)) w):=by
 obtain⟨hsrc,hU,hnew,⟨k,hB,hk,hl⟩,hlen⟩:=hC
 have hcp:full.length≤1048576:=hlen
 refine en 13 Tryz.func161 rfl<|sg<|Pl 1<|nt<|sq<|Rg 11 (fun w'=>w'.cell? ⟨g,0,none⟩=some (.slice A full.length cp)∧w'.cell? ⟨g,1,none⟩=some (.int .i64 ((k:Nat) : Int))) fun d b=>?_
 have c:=ub b hB
 refine bg ⟨(au c rfl),(au c rfl)⟩ fun a=>Rt 0 a<|Rt 1 a<|Rt 2 a<|Rl 3 a (fun _ hs=>hs.1)<|Rt 4 a<|Rt 5 a<|Rt 6 a<|Rt 7 a<|Rl 8 a (fun _ hs=>hs.2)<|Rr 9 a (.int .i64 (((full.length:Nat) : Int)-((k:Nat) : Int))) (fun _ _=>ck (.int .i64 (IntKind.i64.wrap (((full.length:Nat) : Int)-((k:Nat) : Int)))) (by kernel_rfl) (congrArg (Value.int .i64) (IntWalk.i64_in _ (by omega))))<|Rt 10 a<|re<|tn<|?_
 refine rt<|rr (.int .i64 (((full.length:Nat) : Int)-((k:Nat) : Int)))<|?_
 rw[s5 hk hl]
 exact⟨rfl,b⟩
theorem dy{w0:World}{m:Md}{A:Option Addr}{cp:Nat}{full:List Int}{w:World}{g:Nat}{C:ai}(hC:RC w0 m A cp full w g C) :
    Calls Tryz.prog 157 #[.pointer (some ⟨g,0,none⟩)] w (sw w0 m A cp full g C.endC w):=by
 refine en 7 Tryz.func157 rfl<|go<|Pl 2<|L0<|Oc<|m1 (fS hC) fun e a=>?_
 have b:=RC.upd hC a am (az.step (RC.u hC) a)
 refine Pl 1<|L0<|Oc<|m2 (aL ((((C.l.length:Nat) : Int)==0)) 3 b) fun f c d=>nl<|rm (.tuple #[])<|?_
 exact⟨rfl,c,(u1 (az.mono (S':=[g]) a av) d im)⟩
theorem RC.clen{w0:World}{m:Md}{A:Option Addr}{cp:Nat}{full:List Int}{w:World}{g:Nat}{C:ai}(h:RC w0 m A cp full w g C) : C.l.length≤1048576:=by
  obtain⟨k,_,_,h2⟩:=h.cell
  have:=h.len
  rw[h2,List.length_drop]
  omega
theorem p9{C:ai}(h:((((C.bytesR 1).length:Nat) : Int)==0)=true) : C.byteV=0:=by
  have hz:C.bytesR 1=[]:=List.eq_nil_of_length_eq_zero (by have:=ap h;omega)
  unfold ai.byteV
  rw[hz]
  rfl
def mc (w0:World)(m:Md)(A:Option Addr)(cp:Nat)(full:List Int)(g:Nat)(q:IntKind)(M x:Int)(C:ai)(w:World)(e:Ending)(w':World) : Prop:=e = .returned (.int q x)∧RC w0 m A cp full w' g C∧az [g] w w'∧0≤x∧x<M
theorem de{w0:World}{m:Md}{A:Option Addr}{cp:Nat}{full:List Int}{w:World}{g:Nat}{C:ai}(hC:RC w0 m A cp full w g C) :
    Calls Tryz.prog 151 #[.pointer (some ⟨g,0,none⟩)] w (mc w0 m A cp full g .u8 256 C.byteV (C.bytesC 1) w):=by
 refine en 12 Tryz.func151 rfl<|sg<|Pl 1<|ng<|Pl 1<|L0<|Oc<|m7 (ew (n:=1) (by omega) hC) fun k l o d b c=>?_
 have q:=Nat.le_trans (ai.bytesR_le C 1) (RC.clen hC)
 refine Pl 1<|nt<|sq<|sg<|Pl 3<|nt<|cb (((((C.bytesR 1).length:Nat) : Int)==0)) (fun a=>?_) (fun a=>?_)
 have e:=ap a
 refine sg<|Pl 1<|nt<|rt<|tr<|rr (.int .u8 0)<|?_
 exact⟨by rw[p9 a],b,c,jZ (RC.rng hC)⟩
 have e:=aq a
 refine aX<|sg<|Pl 1<|f3 (aQ.at_ (d _ _ (RC.rd b)) 0 (by omega)) fun f h i j r=>L0<|fR ((C.bytesR 1).length) 0 i (by omega)<|L0<|cY (p:=⟨f,h+0,none⟩) (v:=.int .u8 ((C.bytesR 1).getD 0 0)) j<|Pl 1<|nt<|rt<|rr (.int .u8 ((C.bytesR 1).getD 0 0))<|?_
 exact⟨rfl,b,c,jZ (RC.rng hC)⟩
theorem oR{C:ai}{full:List Int}{k:Nat}{n:Int}(hk:k≤full.length)(hl:C.l=full.drop k)(h:(decide (n<0)||decide (((full.length:Nat) : Int)<n))=true) : C.wordsR n=bY (C.bytesR (-1))∧C.wordsC n=C.bytesC (-1):=by
  have hb:C.wbad n=true:=by
    unfold ai.wbad
    simp only[Bool.or_eq_true,decide_eq_true_eq] at h ⊢
    rw[hl,List.length_drop]
    omega
  have hf:C.fails (-1)=true:=by
    unfold ai.fails
    simp
  constructor
  · unfold ai.wordsR ai.bytesR
    rw[hb,hf]
    rfl
  · unfold ai.wordsC
    rw[hb]
    rfl
theorem pV{C:ai}{full:List Int}{k:Nat}{n:Int}(hk:k≤full.length)(hl:C.l=full.drop k)(h:(decide (n<0)||decide (((full.length:Nat) : Int)<n))=false) : C.wordsR n=bY (C.bytesR (n+n))∧C.wordsC n=C.bytesC (n+n):=by
  simp only[Bool.or_eq_false_iff,decide_eq_false_iff_not] at h
  by_cases hw:((C.l.length:Int)<n)
  · have hb:C.wbad n=true:=by
      unfold ai.wbad
      simp only[Bool.or_eq_true,decide_eq_true_eq]
      omega
    have hf:C.fails (-1)=true:=by
      unfold ai.fails
      simp
    have hf2:C.fails (n+n)=true:=by
      unfold ai.fails
      simp only[Bool.or_eq_true,decide_eq_true_eq]
      omega
    constructor
    · unfold ai.wordsR ai.bytesR
      rw[hb,hf2]
      rfl
    · unfold ai.wordsC
      rw[hb]
      unfold ai.bytesC
      rw[hf2,hf]
      rfl
  · have hb:C.wbad n=false:=by
      unfold ai.wbad
      simp only[Bool.or_eq_false_iff,decide_eq_false_iff_not]
      omega
    constructor
    · unfold ai.wordsR
      rw[hb,show 2*n=n+n by omega]
      rfl
    · unfold ai.wordsC
      rw[hb,show 2*n=n+n by omega]
      rfl
def s9 (w0:World)(m:Md)(A:Option Addr)(cp:Nat)(full:List Int)(g:Nat)(C:ai)(n:Int)(w:World)(e:Ending)(w':World) : Prop:=∃ v,e = .returned v∧ir w.heap.size w' v (C.wordsR n)∧RC w0 m A cp full w' g (C.wordsC n)∧az [g] w w'
theorem eQ{w0:World}{m:Md}{A:Option Addr}{cp:Nat}{full:List Int}{w:World}{g:Nat}{C:ai}{n:Int}(hn : -1048576≤n∧n≤1048576)(hC:RC w0 m A cp full w g C) :
    Calls Tryz.prog 158 #[.pointer (some ⟨g,0,none⟩),.int .i64 n] w (s9 w0 m A cp full g C n w):=by
 have hC0:=hC
 obtain⟨hsrc,hU,hnew,⟨k,hB,hk,hl⟩,hlen⟩:=hC0
 refine en 25 Tryz.func158 rfl<|sg<|Pl 1<|nt<|sq<|sg<|Pl 3<|cu 8 [7] 15 (((decide (n<0))||(decide (((full.length:Nat) : Int)<n)))) (fun K h=>?_) ?_
 refine bl 7 ((decide (n<0))) (fun a=>?_) (fun a=>?_)
 have l:=of_decide_eq_true a
 exact Pl 8<|ce h true (by rw[a];rfl)
 have l:=of_decide_eq_false a
 exact Pl 4<|L1<|aZ hB 0<|Pl 3<|ce h (decide (((full.length:Nat) : Int)<n)) (by rw[a];rfl)
 refine nt<|cb (((decide (n<0))||(decide (((full.length:Nat) : Int)<n)))) (fun b=>?_) (fun b=>?_)
 refine sg<|Pl 1<|?_
 have o:=RC.upd hC (az.refl [] _) am (az.step hC.u (az.refl [] _))
 refine L0<|Oc<|m7 (ew (n:=-1) (by omega) o) fun E F G p c i=>?_
 have H:=Nat.le_trans (ai.bytesR_le C (-1)) (RC.clen hC)
 refine L0<|Oc<|m6 (sr (p _ _ (RC.rd c)) (by omega)) fun q r I s J L d=>Pl 1<|nt<|rt<|tr<|rr (.slice q ((bY (C.bytesR (-1))).length) r)<|?_
 have hw:=oR hk hl b
 exact⟨_,rfl,by rw[hw.1];exact(b6.weaken s i.size),by rw[hw.2];exact(RC.upd c d am (az.step (RC.u c) d)),(aE i d)⟩
 have t:=(aD b).1
 have v:=(aD b).2
 have M:=of_decide_eq_false t
 have N:=of_decide_eq_false v
 refine aX<|sg<|Pl 3<|L0<|Oi (n+n)<|?_
 have x:=RC.upd hC (az.refl [] _) am (az.step hC.u (az.refl [] _))
 refine L0<|Oc<|m7 (ew (n:=(n+n)) (by omega) x) fun O P Q y e j=>?_
 have R:=Nat.le_trans (ai.bytesR_le C (n+n)) (RC.clen hC)
 refine L0<|Oc<|m6 (sr (y _ _ (RC.rd e)) (by omega)) fun z B S D T U f=>Pl 1<|nt<|rt<|rr (.slice z ((bY (C.bytesR (n+n))).length) B)<|?_
 have hw:=pV hk hl b
 exact⟨_,rfl,by rw[hw.1];exact(b6.weaken D j.size),by rw[hw.2];exact(RC.upd e f am (az.step (RC.u e) f)),(aE j f)⟩
theorem og{C:ai}(h:((((C.wordsR 1).length:Nat) : Int)==0)=true) : C.wordV=0:=by
  have hz:C.wordsR 1=[]:=List.eq_nil_of_length_eq_zero (by have:=ap h;omega)
  unfold ai.wordV
  rw[hz]
  rfl
theorem ci{w0:World}{m:Md}{A:Option Addr}{cp:Nat}{full:List Int}{w:World}{g:Nat}{C:ai}(hC:RC w0 m A cp full w g C) :
    Calls Tryz.prog 154 #[.pointer (some ⟨g,0,none⟩)] w (mc w0 m A cp full g .u16 65536 C.wordV (C.wordsC 1) w):=by
 refine en 12 Tryz.func154 rfl<|sg<|Pl 1<|ng<|Pl 1<|L0<|Oc<|jc (eQ (n:=1) (by omega) hC) fun k l o d q r b c=>Pl 1<|nt<|sq<|?_
 refine sg<|Pl 3<|nt<|cb (((((C.wordsR 1).length:Nat) : Int)==0)) (fun a=>?_) (fun a=>?_)
 have e:=ap a
 refine sg<|Pl 1<|nt<|rt<|tr<|rr (.int .u16 0)<|?_
 exact⟨by rw[og a],b,c,bE (RC.rng hC)⟩
 have e:=aq a
 refine aX<|sg<|Pl 1<|f3 (ei.at_ (d).rd 0 (by omega)) fun f h i j s=>L0<|fR ((C.wordsR 1).length) 0 i (by omega)<|L0<|cY (p:=⟨f,h+0,none⟩) (v:=.int .u16 ((C.wordsR 1).getD 0 0)) j<|Pl 1<|nt<|rt<|rr (.int .u16 ((C.wordsR 1).getD 0 0))<|?_
 exact⟨rfl,b,c,bE (RC.rng hC)⟩
theorem eH{w0:World}{m:Md}{A:Option Addr}{cp:Nat}{full:List Int}{w:World}{g:Nat}{C:ai}{G:Prop}(h:RC w0 m A cp full w g C)(k:∀ x,C=x→RC w0 m A cp full w g x→G) : G:=k C rfl h
open Go.RowKit
theorem oT{x:Int}(hx:0≤x∧x<65536) : dw x=((decide (x≤4)||(decide (10≤x)&&decide (x≤18)))||x==20):=by
  unfold dw
  rw[Bool.eq_iff_iff]
  simp only[decide_eq_true_eq,List.mem_cons,List.not_mem_nil,or_false,Bool.or_eq_true,Bool.and_eq_true,beq_iff_eq]
  omega
theorem jd{x:Int}(hx:0≤x∧x<256) : d6 x=((((decide (1≤x)&&decide (x≤6))||x==8)||x==10)||x==11):=by
  unfold d6
  rw[Bool.eq_iff_iff]
  simp only[decide_eq_true_eq,List.mem_cons,List.not_mem_nil,or_false,Bool.or_eq_true,Bool.and_eq_true,beq_iff_eq]
  omega
theorem tN{x:Int}{w:World}(hx:0≤x∧x<65536) : Calls Tryz.prog 160 #[.int .u16 x] w (c8 (.bool (dw x)) w):=by
 refine en 17 Tryz.func160 rfl<|sg<|Pl 1<|ng<|Pl 3<|cu 7 [5] 12 (((decide (x≤4))||((decide (10≤x))&&(decide (x≤18))))) (fun K d=>?_) ?_
 refine bl 5 ((decide (x≤4))) (fun a=>?_) (fun a=>?_)
 have g:=of_decide_eq_true a
 exact Pl 7<|ce d true (by rw[a];rfl)
 have g:=of_decide_eq_false a
 refine Pl 3<|cu 3 [8] 11 (((decide (10≤x))&&(decide (x≤18)))) (fun K e=>?_) ?_
 refine bl 8 ((decide (10≤x))) (fun b=>?_) (fun b=>?_)
 have h:=of_decide_eq_true b
 exact Pl 3<|ce e (decide (x≤18)) (by rw[b];rfl)
 have h:=of_decide_eq_false b
 exact Pl 3<|ce e false (by rw[b];rfl)
 exact Pl 1<|ce d ((decide (10≤x))&&(decide (x≤18))) (by rw[a];rfl)
 refine Pl 1<|cu 3 [13] 16 ((((decide (x≤4))||((decide (10≤x))&&(decide (x≤18))))||(x==20))) (fun K f=>?_) ?_
 refine bl 13 (((decide (x≤4))||((decide (10≤x))&&(decide (x≤18))))) (fun c=>?_) (fun c=>?_)
 exact Pl 3<|ce f true (by rw[c];rfl)
 have i:=(aD c).1
 have j:=(aD c).2
 have k:=of_decide_eq_false i
 exact Pl 3<|ce f (x==20) (by rw[c];rfl)
 refine Pl 1<|nt<|rt<|rr (.bool (((decide (x≤4))||((decide (10≤x))&&(decide (x≤18))))||(x==20)))<|?_
 rw[oT hx]
 have hs:((decide (x≤4)||(decide (10≤x)&&decide (x≤18)))||x==20)=(((decide (x≤4))||((decide (10≤x))&&(decide (x≤18))))||(x==20)):=by(try simp only[Bool.true_or,Bool.false_or,Bool.true_and,Bool.false_and,Bool.or_true,Bool.or_false]);all_goals rfl
 rw[hs]
 exact⟨rfl,(az.refl [] _)⟩
theorem pD{x:Int}{w:World}(hx:0≤x∧x<256) : Calls Tryz.prog 149 #[.int .u8 x] w (c8 (.bool (d6 x)) w):=by
 refine en 21 Tryz.func149 rfl<|sg<|Pl 1<|ng<|Pl 3<|cu 3 [5] 8 (((decide (1≤x))&&(decide (x≤6)))) (fun K e=>?_) ?_
 refine bl 5 ((decide (1≤x))) (fun a=>?_) (fun a=>?_)
 have j:=of_decide_eq_true a
 exact Pl 3<|ce e (decide (x≤6)) (by rw[a];rfl)
 have j:=of_decide_eq_false a
 exact Pl 3<|ce e false (by rw[a];rfl)
 refine Pl 1<|cu 3 [9] 12 ((((decide (1≤x))&&(decide (x≤6)))||(x==8))) (fun K f=>?_) ?_
 refine bl 9 (((decide (1≤x))&&(decide (x≤6)))) (fun b=>?_) (fun b=>?_)
 have k:=(aO b).1
 have l:=(aO b).2
 have p:=of_decide_eq_true k
 have q:=of_decide_eq_true l
 exact Pl 3<|ce f true (by rw[b];rfl)
 exact Pl 3<|ce f (x==8) (by rw[b];rfl)
 refine Pl 1<|cu 3 [13] 16 (((((decide (1≤x))&&(decide (x≤6)))||(x==8))||(x==10))) (fun K g=>?_) ?_
 refine bl 13 ((((decide (1≤x))&&(decide (x≤6)))||(x==8))) (fun c=>?_) (fun c=>?_)
 exact Pl 3<|ce g true (by rw[c];rfl)
 have r:=(aD c).1
 have m:=(aD c).2
 have s:=aq m
 exact Pl 3<|ce g (x==10) (by rw[c];rfl)
 refine Pl 1<|cu 3 [17] 20 ((((((decide (1≤x))&&(decide (x≤6)))||(x==8))||(x==10))||(x==11))) (fun K h=>?_) ?_
 refine bl 17 (((((decide (1≤x))&&(decide (x≤6)))||(x==8))||(x==10))) (fun d=>?_) (fun d=>?_)
 exact Pl 3<|ce h true (by rw[d];rfl)
 have i:=(aD d).1
 have n:=(aD d).2
 have t:=(aD i).1
 have o:=(aD i).2
 have q16abp:=aq o
 have u:=aq n
 exact Pl 3<|ce h (x==11) (by rw[d];rfl)
 refine Pl 1<|nt<|rt<|rr (.bool (((((decide (1≤x))&&(decide (x≤6)))||(x==8))||(x==10))||(x==11)))<|?_
 rw[jd hx]
 have hs:((((decide (1≤x)&&decide (x≤6))||x==8)||x==10)||x==11)=(((((decide (1≤x))&&(decide (x≤6)))||(x==8))||(x==10))||(x==11)):=by(try simp only[Bool.true_or,Bool.false_or,Bool.true_and,Bool.false_and,Bool.or_true,Bool.or_false]);all_goals rfl
 rw[hs]
 exact⟨rfl,(az.refl [] _)⟩
theorem fO{dir sub v:Int}:eg dir sub v=if sub==1 then (v==0 || v==65280) else if sub==3 then v%256==0 else if dir==1&&(sub==2 || (decide (11≤sub)&&decide (sub≤18))) then true else v==0:=by
  unfold eg
  by_cases h1:sub=1
  · subst h1
    rfl
  by_cases h3:sub=3
  · subst h3
    rfl
  have e1:(sub==1)=false:=by simpa using h1
  have e3:(sub==3)=false:=by simpa using h3
  rw[e1,e3,Bool.and_comm]
  rfl
theorem tV{dir sub v:Int}{w:World}(hv:0≤v∧v<65536) : Calls Tryz.prog 162 #[.int .i64 dir,.int .u16 sub,.int .u16 v] w (c8 (.bool (eg dir sub v)) w):=by
 refine en 39 Tryz.func162 rfl<|sg<|Pl 1<|nt<|sq<|bk<|sg<|Pl 3<|nt<|cb ((sub==1)) (fun a=>?_) (fun a=>?_)
 have m:=ap a
 refine sg<|Pl 3<|cu 3 [12] 15 (((v==0)||(v==65280))) (fun K h=>?_) ?_
 refine bl 12 ((v==0)) (fun c=>?_) (fun c=>?_)
 have n:=ap c
 exact Pl 3<|ce h true (by rw[c];rfl)
 have n:=aq c
 exact Pl 3<|ce h (v==65280) (by rw[c];rfl)
 refine Pl 1<|nt<|rt<|br<|tr<|rr (.bool ((v==0)||(v==65280)))<|?_
 have hs:eg dir sub v=((v==0)||(v==65280)):=by
   rw[fO]
   (try simp only[a,bs,if_true,if_false,decide_true,decide_false,reduceIte])
   all_goals rfl
 rw[hs]
 exact⟨rfl,(az.refl [] _)⟩
 have m:=aq a
 refine sg<|Pl 3<|nt<|cb ((sub==3)) (fun b=>?_) (fun b=>?_)
 have o:=ap b
 refine sg<|Pl 1<|L0<|Oe (.int .u16 (Int.tmod v 256)) (.int .u16 (v%256)) (congrArg (Value.int .u16) (Int.tmod_eq_emod_of_nonneg (by omega)))<|Pl 2<|nt<|rt<|br<|tr<|rr (.bool ((v%256)==0))<|?_
 have hs:eg dir sub v=((v%256)==0):=by
   rw[fO]
   (try simp only[a,b,bs,if_true,if_false,decide_true,decide_false,reduceIte])
   all_goals rfl
 rw[hs]
 exact⟨rfl,(az.refl [] _)⟩
 have o:=aq b
 refine sg<|Pl 3<|cu 11 [25] 36 (((dir==1)&&((sub==2)||((decide (11≤sub))&&(decide (sub≤18)))))) (fun K i=>?_) ?_
 refine bl 25 ((dir==1)) (fun d=>?_) (fun d=>?_)
 have p:=ap d
 refine Pl 3<|cu 7 [28] 35 (((sub==2)||((decide (11≤sub))&&(decide (sub≤18))))) (fun K j=>?_) ?_
 refine bl 28 ((sub==2)) (fun e=>?_) (fun e=>?_)
 have q:=ap e
 exact Pl 7<|ce j true (by rw[e];rfl)
 have q:=aq e
 refine Pl 3<|cu 3 [31] 34 (((decide (11≤sub))&&(decide (sub≤18)))) (fun K k=>?_) ?_
 refine bl 31 ((decide (11≤sub))) (fun f=>?_) (fun f=>?_)
 have r:=of_decide_eq_true f
 exact Pl 3<|ce k (decide (sub≤18)) (by rw[f];rfl)
 have r:=of_decide_eq_false f
 exact Pl 3<|ce k false (by rw[f];rfl)
 exact Pl 1<|ce j ((decide (11≤sub))&&(decide (sub≤18))) (by rw[e];rfl)
 exact Pl 1<|ce i ((sub==2)||((decide (11≤sub))&&(decide (sub≤18)))) (by rw[d];rfl)
 have p:=aq d
 exact Pl 11<|ce i false (by rw[d];rfl)
 refine Pl 1<|nt<|cb (((dir==1)&&((sub==2)||((decide (11≤sub))&&(decide (sub≤18)))))) (fun g=>?_) (fun g=>?_)
 have l:=(aO g).1
 have s:=(aO g).2
 have t:=ap l
 refine sg<|Pl 1<|nt<|rt<|br<|tr<|rr (.bool true)<|?_
 have hs:eg dir sub v=true:=by
   rw[fO]
   (try simp only[a,b,g,l,s,bs,if_true,if_false,decide_true,decide_false,reduceIte])
   all_goals rfl
 rw[hs]
 exact⟨rfl,(az.refl [] _)⟩
 refine sk<|bn<|tn<|sg<|Pl 3<|nt<|rt<|rr (.bool (v==0))<|?_
 have hs:eg dir sub v=(v==0):=by
   rw[fO]
   (try simp only[a,b,g,bs,if_true,if_false,decide_true,decide_false,reduceIte])
   all_goals rfl
 rw[hs]
 exact⟨rfl,(az.refl [] _)⟩
open Go.RowKit
theorem RC.lt{w0:World}{m:Md}{A:Option Addr}{cp:Nat}{full:List Int}{w:World}{g:Nat}{C:ai}(h:RC w0 m A cp full w g C) : g<w.heap.size:=by
  obtain⟨k,h1,_⟩:=h.cell
  exact ak h1
theorem RC.fld{w0:World}{m:Md}{A:Option Addr}{cp:Nat}{full:List Int}{w:World}{g:Nat}{C:ai}(h:RC w0 m A cp full w g C) : w.cell? ⟨g,3,none⟩=some (.int .i64 C.e):=by
  obtain⟨k,h1,_⟩:=h.cell
  rw[bR h1]
  rfl
theorem pN{c:Int}{C:ai}(h:(((c==3)||(c==4))||(c==23))=true) : aH 1 c C=some (bX c C):=by
  unfold aH
  by_cases h1:(c==3 || c==4)=true
  · rw[if_pos h1]
    rfl
  · rw[if_neg h1]
    have h2:c=23:=by
      simp only[Bool.or_eq_true,beq_iff_eq] at h h1
      omega
    subst h2
    rfl
theorem nB{n m:Int}:((n%2==0&&decide (0<n))&&decide (n≤m))=hG n m:=by
  unfold hG
  rw[Bool.eq_iff_iff]
  simp only[Bool.and_eq_true,decide_eq_true_eq,beq_iff_eq]
  omega
theorem nY{a k:Int}:(a==2*k+2)=(2+2*k==a):=by
  rw[Bool.eq_iff_iff]
  simp only[beq_iff_eq]
  omega
theorem dN{x:Int}:decide (0<x)=decide (1≤x):=by
  rw[Bool.eq_iff_iff]
  simp only[decide_eq_true_eq]
  omega
theorem iL{w0:World}{m:Md}{A:Option Addr}{cp:Nat}{full:List Int}{w:World}{g:Nat}{C:ai}{a most:Int}(ha:0≤a∧a<65536)(hC:RC w0 m A cp full w g C) :
    Calls Tryz.prog 159 #[.pointer (some ⟨g,0,none⟩),.int .u16 a,.int .i64 most] w (mc w0 m A cp full g .i64 65536 C.wordV (bA C a most) w):=by
 have hrng:=bE (RC.rng hC)
 refine en 26 Tryz.func159 rfl<|sg<|Pl 1<|ng<|Pl 1<|L0<|Oc<|m3 (ci hC) fun r f h s=>L0<|Oi C.wordV<|Pl 1<|nt<|?_
 refine sg<|Pl 4<|cu 4 [14] 18 (((decide (0<C.wordV))&&(decide (C.wordV≤most)))) (fun K d=>?_) ?_
 refine bl 14 ((decide (0<C.wordV))) (fun b=>?_) (fun b=>?_)
 have i:=of_decide_eq_true b
 exact Pl 4<|ce d (decide (C.wordV≤most)) (by rw[b];rfl)
 have i:=of_decide_eq_false b
 exact Pl 4<|ce d false (by rw[b];rfl)
 refine L0<|Oc<|m2 (aL (((decide (0<C.wordV))&&(decide (C.wordV≤most)))) 5 f) fun j k l=>?_
 refine eH k fun x19 o e=>?_
 refine ng<|Pl 3<|L0<|Oc<|m1 (nU (a:=a) (n:=C.wordV) (w:=j) (by omega) (by omega)) fun t c=>?_
 refine L0<|Oc<|m2 (aL ((cH a C.wordV)) 7 (RC.upd e c am (az.step (RC.u e) c))) fun v p q=>ng<|Pl 2<|nt<|rt<|rr (.int .i64 C.wordV)<|?_
 subst o
 have e1:bA C a most=((C.wordsC 1).need (decide (0<C.wordV)&&decide (C.wordV≤most)) 5).need (cH a C.wordV) 7:=by unfold bA;rw[← dN]
 rw[e1]
 exact⟨rfl,p,(u1 h (u1 l (uz c q) im) im),hrng⟩
theorem aB.upd0{α:Type}{m:Md}{e:TypeId}{sz:Nat}{R R':World→α→List Value→Prop}{w:World}{v:Value}{xs:List α}(h:aB m e sz R w v xs)(hR:∀ x cs,R w x cs→R' w x cs) : aB m e sz R' w v xs:=by
  obtain⟨A,c,rfl,h1,h2,h0,h3⟩:=h
  refine⟨A,c,rfl,h1,h2,h0,fun hp=>?_⟩
  obtain⟨b,off,cells,t,fr,rfl,hb,ht,hx⟩:=h3 hp
  exact⟨b,off,cells,t,fr,rfl,hb,ht,fun j x hj=>by obtain⟨cs,hl,hr,hc⟩:=hx j x hj;exact⟨cs,hl,hR _ _ hr,hc⟩⟩
def lR (v0:Value)(b:List Int)(w:World)(o:Obj)(cs:List Value) : Prop:=∃ A n c,cs=[.int .u8 o.id,.slice A n c]∧(∀ m' w',aQ m' w' v0 b→aQ m' w' (.slice A n c) o.value)∧B8 o.id
theorem lR.ones{v0:Value}{b:List Int}{w:World}(x:Obj)(cs:List Value)(h:lR v0 b w x cs) : ∀ v,v∈cs→v.oneCell'=true:=by
  obtain⟨A,n,c,rfl,h2,_⟩:=h
  intro u hu
  simp at hu
  rcases hu with rfl|rfl<;>rfl
def cy (v0:Value)(b:List Int)(w:World)(cs:List Value)(M:aU) : Prop :=
  ∃ vw vb vd vr vo,cs=eU M vw vb vd vr vo∧ei true w vw M.words∧eN true w vb M.bits∧(∀ m' w',aQ m' w' v0 b→aQ m' w' vd M.data)∧nL true w vr M.recs∧aB true 111 2 (lR v0 b) w vo M.objects∧gN M
theorem cy.rd{v0:Value}{b:List Int}{m:Md}{w:World}{cs:List Value}{M:aU}(h:cy v0 b w cs M)(hb:aQ m w v0 b) : bq false w cs M:=by
  obtain⟨vw,vb,vd,vr,vo,h0,h1,h2,h3,h4,h5,h6⟩:=h
  exact⟨vw,vb,vd,vr,vo,h0,aB.any h1 fun _ _ q=>q,aB.any h2 fun _ _ q=>q,aB.any (h3 _ _ hb) fun _ _ q=>q,aB.any h4 fun r cs ⟨v,a,b,c⟩=>⟨v,a,aB.any b fun _ _ q=>q,c⟩,aB.any h5 fun r cs ⟨A,n,k,a,b,c⟩=>⟨_,a,aB.any (b _ _ hb) fun _ _ q=>q,c⟩,h6⟩
theorem cy.rdt{v0:Value}{b:List Int}{w:World}{cs:List Value}{M:aU}(h:cy v0 b w cs M)(hb:aQ true w v0 b) : bq true w cs M:=by
  obtain⟨vw,vb,vd,vr,vo,h0,h1,h2,h3,h4,h5,h6⟩:=h
  exact⟨vw,vb,vd,vr,vo,h0,h1,h2,h3 _ _ hb,h4,aB.upd0 h5 fun r cs ⟨A,n,k,a,b,c⟩=>⟨_,a,b _ _ hb,c⟩,h6⟩
theorem cy.sub{v0 v1:Value}{b b1:List Int}{w:World}{cs:List Value}{M:aU}(h:cy v1 b1 w cs M)(hv:∀ m' w',aQ m' w' v0 b→aQ m' w' v1 b1) : cy v0 b w cs M:=by
  obtain⟨vw,vb,vd,vr,vo,h0,h1,h2,h3,h4,h5,h6⟩:=h
  exact⟨vw,vb,vd,vr,vo,h0,h1,h2,fun m' w' q=>h3 _ _ (hv _ _ q),h4,aB.upd0 h5 fun r cs ⟨A,n,k,a,b,c⟩=>⟨A,n,k,a,fun m' w' q=>b _ _ (hv _ _ q),c⟩,h6⟩
theorem cy.upd{v0:Value}{b:List Int}{w w':World}{cs:List Value}{M:aU}{S:List Nat}(h:cy v0 b w cs M)(hu:az S w w')(hs:c6 true fX S w) : cy v0 b w' cs M:=by
  obtain⟨vw,vb,vd,vr,vo,h0,h1,h2,h3,h4,h5,h6⟩:=h
  exact⟨vw,vb,vd,vr,vo,h0,ei.upd' h1 hu (hs.sub (by decide)),eN.upd' h2 hu (hs.sub (by decide)),h3,nL.upd' h4 hu hs,aB.upd h5 hu (hs.sub (by decide)) (fun _ _ q=>q),h6⟩
theorem cy.zero(v0:Value)(b:List Int)(w:World) : cy v0 b w jt.toList aU.zero:=by
  obtain⟨vw,vb,vd,vr,vo,h0,h1,h2,h3,h4,h5,h6⟩:=bq.zero true w
  exact⟨_,_,_,_,_,rfl,aB.nil ..,aB.nil ..,(fun _ _ _=>aB.nil ..),aB.nil ..,aB.nil ..,h6⟩
theorem cy.size{v0:Value}{b:List Int}{w:World}{cs:Array Value}{M:aU}(h:cy v0 b w cs.toList M) : cs.size=22:=by
  obtain⟨vw,vb,vd,vr,vo,h0,_⟩:=h
  rw[← Array.length_toList,h0]
  rfl
theorem cy.one{v0:Value}{b:List Int}{w w2:World}{m:Md}{cs:Array Value}{M:aU}(h:cy v0 b w cs.toList M)(hb:aQ m w2 v0 b) : cs.all (·.oneCell')=true:=by
  obtain⟨vw,vb,vd,vr,vo,h0,h1,h2,h3,h4,h5,h6⟩:=h
  rw[← Array.all_toList,h0]
  obtain⟨_,_,rfl,_⟩:=h1
  obtain⟨_,_,rfl,_⟩:=h2
  obtain⟨_,_,rfl,_⟩:=h3 _ _ hb
  obtain⟨_,_,rfl,_⟩:=h4
  obtain⟨_,_,rfl,_⟩:=h5
  rfl
def cD (v0:Value)(b:List Int)(res:aU × Int)(w:World)(e:Ending)(w':World) : Prop:=∃ cs,e = .returned (.tuple #[.agg cs,.int .i64 res.2])∧cy v0 b w' cs.toList res.1∧az [] w w'
theorem b7{v0:Value}{b:List Int}{M:aU}{c:ai}{w W:World}{cs:Array Value}(h0:c.endC.e=0)(h:cy v0 b W cs.toList M)(hu:az [] w W) : cD v0 b (aP M c) w (.returned (.tuple #[.agg cs,.int .i64 0])) W:=by
  unfold aP
  rw[if_pos h0]
  exact⟨cs,rfl,h,hu⟩
theorem aV{v0:Value}{b:List Int}{M:aU}{c:ai}{w W:World}(h0:¬ c.endC.e=0)(hu:az [] w W) : cD v0 b (aP M c) w (.returned (.tuple #[.agg jt,.int .i64 c.endC.e])) W:=by
  unfold aP
  rw[if_neg h0]
  exact⟨jt,rfl,cy.zero ..,hu⟩
theorem bf{v0:Value}{b:List Int}{x:Int}{w W:World}(hu:az [] w W) : cD v0 b (aU.zero,x) w (.returned (.tuple #[.agg jt,.int .i64 x])) W:=⟨jt,rfl,cy.zero ..,hu⟩
theorem jq{m:Md}{A:Option Addr}{cp:Nat}{b:List Int}{w:World}{c:Int}(hcode:B8 c)(hsl:aQ m w (.slice A b.length cp) b)(hb:b.length≤1048576) :
    Calls Tryz.prog 94 #[.int .i64 0,.int .u8 c,.slice A b.length cp] w (cD (.slice A b.length cp) b (aj aH 0 c b) w):=by
 obtain⟨hcode1,hcode2⟩:=hcode
 have hln:(b.length:Int)≤1048576:=by omega
 refine en 221 Tryz.func94 rfl<|sg<|L0<|bD mZ fun eG eI r j f=>Pl 1<|nt<|sq<|sg<|Pl 6<|nt<|c0<|?_
 refine aX<|sg<|Pl 2<|L0<|dC #[.slice A b.length cp,.int .i64 0,.bool false,.int .i64 0] fun l eJ d o i=>Pl 1<|ng<|Pl 2<|L0<|bD mZ fun eK eL g a8 z=>L0<|aT a8 (mC c) fun a4 a5 s=>?_
 refine nt<|sq<|bk<|sg<|Pl 15<|nt<|c0<|sg<|Pl 3<|cu 3 [68] 71 (((c==3)||(c==4))) (fun K bO=>?_) ?_
 refine bl 68 ((c==3)) (fun a9=>?_) (fun a9=>?_)
 have dl:=ap a9
 exact Pl 3<|ce bO true (by rw[a9];rfl)
 have dl:=aq a9
 exact Pl 3<|ce bO (c==4) (by rw[a9];rfl)
 refine Pl 1<|nt<|?_
 have W:=ud z s g
 have q:=aE i W
 have t:=aE f q
 refine cb (((c==3)||(c==4))) (fun y=>?_) (fun y=>?_)
 refine sg<|Pl 1<|?_
 have dm:RC w _ A cp b a4 l (ai.mk b false 0):=⟨hsl,t,(Nat.le_trans f.size d),⟨0,(ub W o),Nat.zero_le _,rfl⟩,by omega⟩
 refine L0<|Oc<|m3 (ci dm) fun eM dn bQ eN=>Pl 1<|?_
 have ab:=nb (ak o) lr g
 refine L0<|bC (aK bQ (Ne.symm ab) a5) 2 (mG c 0 ((ai.mk b false 0).wordV) 0 0 0 0 0 0 0 0 0 nS nS nS nS 0 0 0 0 0 nS) fun eO bR bS=>nt<|go<|Pl 2<|L0<|aZ bR 2<|?_
 have b0:=us bQ bS
 have bT:=ut t b0 (ac (ni f.size d) (ac (ni (le f.size i.size) g) av))
 refine L0<|Oc<|m3 (iL (a:=(ai.mk b false 0).wordV) (most:=125) (by omega) (RC.upd dn bS (aa ab am) bT)) fun eP dp bU eR=>?_
 refine eH dp fun x52 dq dr=>?_
 refine L0<|td (((ai.mk b false 0).wordsC 1).wordV)<|Pl 1<|?_
 refine L0<|bC (aK bU (Ne.symm ab) bR) 3 (mG c 0 ((ai.mk b false 0).wordV) (((ai.mk b false 0).wordsC 1).wordV) 0 0 0 0 0 0 0 0 nS nS nS nS 0 0 0 0 0 nS) fun eS ds bW=>nl<|bn<|tn<|sg<|Pl 1<|?_
 have b1:=us bU bW
 have bY:=ut bT b1 (ac (ni f.size d) (ac (ni (le f.size i.size) g) av))
 refine L0<|Oc<|m2 (dy (RC.upd dr bW (aa ab am) bY)) fun eT b2 aC=>nt<|sq<|sg<|Pl 3<|L0<|cY (p:=⟨l,3,none⟩) (v:=.int .i64 x52.endC.e) (RC.fld b2)<|Pl 1<|nt<|?_
 have bZ:=ud bY aC (le f.size d)
 have hs:aj aH 0 c b=aP (aU.mk c 0 ((ai.mk b false 0).wordV) (((ai.mk b false 0).wordsC 1).wordV) 0 0 0 0 0 0 0 0 [] [] [] [] 0 0 0 0 0 []) x52:=by
   subst dq
   unfold aj aH bP bX d7 cG cw cI cJ jb
   (try simp only[y,bs,if_true,if_false,decide_true,decide_false,eq_self,true_or,or_true,or_false,false_or,if_true,if_false,cP,cO,cN,cR,reduceIte,nB,nY])
   all_goals rfl
 refine cb ((x52.endC.e != 0)) (fun b3=>?_) (fun b3=>?_)
 have b4:=al b3
 refine sq<|Rg 7 (fun w'=>w'.cell? ⟨l,3,none⟩=some (.int .i64 x52.endC.e)) fun eU aF=>?_
 have c2:=RC.upd b2 aF am (az.step (RC.u b2) aF)
 refine bg (RC.fld c2) fun ad=>Rt 0 ad<|Rt 1 ad<|Rt 2 ad<|Rt 3 ad<|Rl 4 ad (fun _ hs=>hs)<|?_
 refine R0 5 rfl<|aT (ub (ut q (ut b0 (u1 b1 (aE aC aF) im) (ac im (ac im av))) (ac (nr d) (ac (ni i.size g) av))) j) mZ fun eV dt c3=>?_
 have c4:=ud bZ (uz aF c3) r
 refine bg (RC.fld (RC.upd c2 c3 (aa (Ne.symm (nb (ak j) lr d)) am) c4)) fun du=>Rt 6 du<|re<|tn<|rt<|tr<|bu dt (.int .i64 x52.endC.e)<|?_
 rw[hs]
 exact aV b4 c4
 have b4:=ae b3
 refine aX<|sg<|?_
 refine L0<|bV (aK aC (Ne.symm ab) ds)<|?_
 refine L0<|aT (ub (ut q (ut b0 (u1 b1 aC im) (ac im (ac im av))) (ac (nr d) (ac (ni i.size g) av))) j) (mG c 0 ((ai.mk b false 0).wordV) (((ai.mk b false 0).wordsC 1).wordV) 0 0 0 0 0 0 0 0 nS nS nS nS 0 0 0 0 0 nS) fun eW dv dw=>Pl 1<|nt<|rt<|bu dv (.int .i64 0)<|?_
 rw[hs]
 exact b7 b4 ⟨_,_,_,_,_,rfl,aB.nil ..,aB.nil ..,(fun _ _ _=>aB.nil ..),aB.nil ..,aB.nil ..,(bL (by omega))⟩ (ud bZ dw r)
 have X:=(aD y).1
 have Y:=(aD y).2
 have eX:=aq X
 have eY:=aq Y
 refine sg<|Pl 3<|nt<|cb ((c==6)) (fun B=>?_) (fun B=>?_)
 have dx:=ap B
 refine sg<|Pl 1<|?_
 have dz:RC w _ A cp b a4 l (ai.mk b false 0):=⟨hsl,t,(Nat.le_trans f.size d),⟨0,(ub W o),Nat.zero_le _,rfl⟩,by omega⟩
 refine L0<|Oc<|m3 (ci dz) fun eZ dA c5 f0=>Pl 1<|?_
 have af:=nb (ak o) lr g
 refine L0<|bC (aK c5 (Ne.symm af) a5) 2 (mG c 0 ((ai.mk b false 0).wordV) 0 0 0 0 0 0 0 0 0 nS nS nS nS 0 0 0 0 0 nS) fun f1 dB c6=>nt<|go<|Pl 1<|?_
 have b5:=us c5 c6
 have c7:=ut t b5 (ac (ni f.size d) (ac (ni (le f.size i.size) g) av))
 refine L0<|Oc<|m3 (ci (RC.upd dA c6 (aa af am) c7)) fun f2 dD c8 f3=>Pl 1<|?_
 refine L0<|bC (aK c8 (Ne.symm af) dB) 4 (mG c 0 ((ai.mk b false 0).wordV) 0 (((ai.mk b false 0).wordsC 1).wordV) 0 0 0 0 0 0 0 nS nS nS nS 0 0 0 0 0 nS) fun f4 dE c9=>nl<|bn<|tn<|sg<|Pl 1<|?_
 have b6:=us c8 c9
 have ca:=ut c7 b6 (ac (ni f.size d) (ac (ni (le f.size i.size) g) av))
 refine L0<|Oc<|m2 (dy (RC.upd dD c9 (aa af am) ca)) fun f5 b8 aG=>nt<|sq<|sg<|Pl 3<|L0<|cY (p:=⟨l,3,none⟩) (v:=.int .i64 (((((ai.mk b false 0).wordsC 1).wordsC 1).endC).e)) (RC.fld b8)<|Pl 1<|nt<|?_
 have cc:=ud ca aG (le f.size d)
 have hs:aj aH 0 c b=aP (aU.mk c 0 ((ai.mk b false 0).wordV) 0 (((ai.mk b false 0).wordsC 1).wordV) 0 0 0 0 0 0 0 [] [] [] [] 0 0 0 0 0 []) (((ai.mk b false 0).wordsC 1).wordsC 1):=by
   unfold aj aH bP bX d7 cG cw cI cJ jb
   (try simp only[y,X,Y,B,bs,if_true,if_false,decide_true,decide_false,eq_self,true_or,or_true,or_false,false_or,if_true,if_false,cP,cO,cN,cR,reduceIte,nB,nY])
   all_goals rfl
 refine cb (((((((ai.mk b false 0).wordsC 1).wordsC 1).endC).e)!=0)) (fun b9=>?_) (fun b9=>?_)
 have ba:=al b9
 refine sq<|Rg 7 (fun w'=>w'.cell? ⟨l,3,none⟩=some (.int .i64 (((((ai.mk b false 0).wordsC 1).wordsC 1).endC).e))) fun f6 aI=>?_
 have cd:=RC.upd b8 aI am (az.step (RC.u b8) aI)
 refine bg (RC.fld cd) fun ag=>Rt 0 ag<|Rt 1 ag<|Rt 2 ag<|Rt 3 ag<|Rl 4 ag (fun _ hs=>hs)<|?_
 refine R0 5 rfl<|aT (ub (ut q (ut b5 (u1 b6 (aE aG aI) im) (ac im (ac im av))) (ac (nr d) (ac (ni i.size g) av))) j) mZ fun f7 dF cg=>?_
 have ch:=ud cc (uz aI cg) r
 refine bg (RC.fld (RC.upd cd cg (aa (Ne.symm (nb (ak j) lr d)) am) ch)) fun dG=>Rt 6 dG<|re<|tn<|rt<|tr<|bu dF (.int .i64 (((((ai.mk b false 0).wordsC 1).wordsC 1).endC).e))<|?_
 rw[hs]
 exact aV ba ch
 have ba:=ae b9
 refine aX<|sg<|?_
 refine L0<|bV (aK aG (Ne.symm af) dE)<|?_
 refine L0<|aT (ub (ut q (ut b5 (u1 b6 aG im) (ac im (ac im av))) (ac (nr d) (ac (ni i.size g) av))) j) (mG c 0 ((ai.mk b false 0).wordV) 0 (((ai.mk b false 0).wordsC 1).wordV) 0 0 0 0 0 0 0 nS nS nS nS 0 0 0 0 0 nS) fun f8 dH dI=>Pl 1<|nt<|rt<|bu dH (.int .i64 0)<|?_
 rw[hs]
 exact b7 ba ⟨_,_,_,_,_,rfl,aB.nil ..,aB.nil ..,(fun _ _ _=>aB.nil ..),aB.nil ..,aB.nil ..,(bL (by omega))⟩ (ud cc dI r)
 have dx:=aq B
 refine sg<|Pl 3<|nt<|cb ((c==16)) (fun E=>?_) (fun E=>?_)
 have dJ:=ap E
 refine sg<|Pl 1<|?_
 have dK:RC w _ A cp b a4 l (ai.mk b false 0):=⟨hsl,t,(Nat.le_trans f.size d),⟨0,(ub W o),Nat.zero_le _,rfl⟩,by omega⟩
 refine L0<|Oc<|m3 (ci dK) fun f9 dL F fa=>Pl 1<|?_
 have C:=nb (ak o) lr g
 refine L0<|bC (aK F (Ne.symm C) a5) 2 (mG c 0 ((ai.mk b false 0).wordV) 0 0 0 0 0 0 0 0 0 nS nS nS nS 0 0 0 0 0 nS) fun fb cj G=>ng<|Pl 2<|L0<|aZ cj 2<|?_
 have bb:=us F G
 have ck:=ut t bb (ac (ni f.size d) (ac (ni (le f.size i.size) g) av))
 refine L0<|Oc<|m3 (iL (a:=(ai.mk b false 0).wordV) (most:=123) (by omega) (RC.upd dL G (aa C am) ck)) fun fc dM H fd=>?_
 refine eH dM fun cl dN dO=>?_
 refine L0<|td (((ai.mk b false 0).wordsC 1).wordV)<|Pl 1<|?_
 refine L0<|bC (aK H (Ne.symm C) cj) 3 (mG c 0 ((ai.mk b false 0).wordV) (((ai.mk b false 0).wordsC 1).wordV) 0 0 0 0 0 0 0 0 nS nS nS nS 0 0 0 0 0 nS) fun fe dP I=>ng<|Pl 2<|nt<|c1<|sg<|Pl 1<|?_
 have bc:=us H I
 have cm:=ut ck bc (ac (ni f.size d) (ac (ni (le f.size i.size) g) av))
 refine L0<|Oc<|m3 (de (RC.upd dO I (aa C am) cm)) fun ff dQ J fg=>L0<|Oi cl.byteV<|Pl 1<|ng<|Pl 3<|?_
 have cn:=aK J (Ne.symm C) dP
 refine L0<|aZ cn 3<|L0<|Oi (((ai.mk b false 0).wordsC 1).wordV)<|L0<|Oi (2*(((ai.mk b false 0).wordsC 1).wordV))<|Pl 1<|L0<|Oc<|m2 (aL ((cl.byteV==(2*(((ai.mk b false 0).wordsC 1).wordV)))) 5 dQ) fun fh dR L=>?_
 refine eH dR fun M dS dT=>?_
 refine nt<|go<|Pl 2<|?_
 have co:=aK L (Ne.symm C) cn
 refine L0<|aZ co 3<|L0<|Oi (((ai.mk b false 0).wordsC 1).wordV)<|L0<|Oc<|jc (eQ (n:=((ai.mk b false 0).wordsC 1).wordV) (by omega) dT) fun cq cr fi N fj fk dU cs=>Pl 1<|?_
 refine L0<|bC (aK cs (Ne.symm C) co) 12 (mG c 0 ((ai.mk b false 0).wordV) (((ai.mk b false 0).wordsC 1).wordV) 0 0 0 0 0 0 0 0 (.slice cq ((M.wordsR (((ai.mk b false 0).wordsC 1).wordV)).length) cr) nS nS nS 0 0 0 0 0 nS) fun fl dV aJ=>nl<|bn<|tn<|sg<|Pl 1<|?_
 have bd:=ui J (ui L (us cs aJ))
 have ct:=ut cm bd (ac (ni f.size d) (ac (ni (le f.size i.size) g) av))
 refine L0<|Oc<|m2 (dy (RC.upd dU aJ (aa C am) ct)) fun fm be ah=>nt<|sq<|sg<|Pl 3<|L0<|cY (p:=⟨l,3,none⟩) (v:=.int .i64 (((M.wordsC (((ai.mk b false 0).wordsC 1).wordV)).endC).e)) (RC.fld be)<|Pl 1<|nt<|?_
 have cv:=ud ct ah (le f.size d)
 have hs:aj aH 0 c b=aP (aU.mk c 0 ((ai.mk b false 0).wordV) (((ai.mk b false 0).wordsC 1).wordV) 0 0 0 0 0 0 0 0 (M.wordsR (((ai.mk b false 0).wordsC 1).wordV)) [] [] [] 0 0 0 0 0 []) (M.wordsC (((ai.mk b false 0).wordsC 1).wordV)):=by
   subst dS dN
   unfold aj aH bP bX d7 cG cw cI cJ jb
   (try simp only[y,X,Y,B,E,bs,if_true,if_false,decide_true,decide_false,eq_self,true_or,or_true,or_false,false_or,if_true,if_false,cP,cO,cN,cR,reduceIte,nB,nY])
   all_goals rfl
 refine cb (((((M.wordsC (((ai.mk b false 0).wordsC 1).wordV)).endC).e)!=0)) (fun bh=>?_) (fun bh=>?_)
 have bi:=al bh
 refine sq<|Rg 7 (fun w'=>w'.cell? ⟨l,3,none⟩=some (.int .i64 (((M.wordsC (((ai.mk b false 0).wordsC 1).wordV)).endC).e))) fun fn aM=>?_
 have cx:=RC.upd be aM am (az.step (RC.u be) aM)
 refine bg (RC.fld cx) fun an=>Rt 0 an<|Rt 1 an<|Rt 2 an<|Rt 3 an<|Rl 4 an (fun _ hs=>hs)<|?_
 have cy:=aE ah aM
 refine R0 5 rfl<|aT (ub (ut q (ut bb (ut bc (u1 bd cy im) (ac im (ac im av))) (ac im (ac im av))) (ac (nr d) (ac (ni i.size g) av))) j) mZ fun fo dW bj=>?_
 have cz:=ud cv (uz aM bj) r
 refine bg (RC.fld (RC.upd cx bj (aa (Ne.symm (nb (ak j) lr d)) am) cz)) fun dX=>Rt 6 dX<|re<|tn<|rt<|tr<|bu dW (.int .i64 (((M.wordsC (((ai.mk b false 0).wordsC 1).wordV)).endC).e))<|?_
 have fp:=ax N (us aJ (us cy bj)) (fun x hx=>(aa (fun e=>(ay (ak a8) (le (le (le (le (le (le s.size F.size) G.size) H.size) I.size) J.size) L.size) N) (e▸hx)) (aa (fun e=>(ay (ak o) (le (le (le (le (le (le (le z.size s.size) F.size) G.size) H.size) I.size) J.size) L.size) N) (e▸hx)) (aa (fun e=>(ay (ak j) (le (le (le (le (le (le (le (le i.size z.size) s.size) F.size) G.size) H.size) I.size) J.size) L.size) N) (e▸hx)) am)))) (fun _ _ h=>h)
 rw[hs]
 exact aV bi cz
 have bi:=ae bh
 refine aX<|sg<|?_
 refine L0<|bV (aK ah (Ne.symm C) dV)<|?_
 refine L0<|aT (ub (ut q (ut bb (ut bc (u1 bd ah im) (ac im (ac im av))) (ac im (ac im av))) (ac (nr d) (ac (ni i.size g) av))) j) (mG c 0 ((ai.mk b false 0).wordV) (((ai.mk b false 0).wordsC 1).wordV) 0 0 0 0 0 0 0 0 (.slice cq ((M.wordsR (((ai.mk b false 0).wordsC 1).wordV)).length) cr) nS nS nS 0 0 0 0 0 nS) fun fq dY cA=>Pl 1<|nt<|rt<|bu dY (.int .i64 0)<|?_
 rw[hs]
 exact b7 bi ⟨_,_,_,_,_,rfl,((ax N (us aJ (us ah cA)) (fun x hx=>(aa (fun e=>(ay (ak a8) (le (le (le (le (le (le s.size F.size) G.size) H.size) I.size) J.size) L.size) N) (e▸hx)) (aa (fun e=>(ay (ak o) (le (le (le (le (le (le (le z.size s.size) F.size) G.size) H.size) I.size) J.size) L.size) N) (e▸hx)) (aa (fun e=>(ay (ak j) (le (le (le (le (le (le (le (le i.size z.size) s.size) F.size) G.size) H.size) I.size) J.size) L.size) N) (e▸hx)) am)))) (fun _ _ h=>h))).rd,aB.nil ..,(fun _ _ _=>aB.nil ..),aB.nil ..,aB.nil ..,(bL (by omega))⟩ (ud cv cA r)
 have dJ:=aq E
 refine sg<|Pl 3<|nt<|cb ((c==22)) (fun Z=>?_) (fun Z=>?_)
 have dZ:=ap Z
 refine sg<|Pl 1<|?_
 have e0:RC w _ A cp b a4 l (ai.mk b false 0):=⟨hsl,t,(Nat.le_trans f.size d),⟨0,(ub W o),Nat.zero_le _,rfl⟩,by omega⟩
 refine L0<|Oc<|m3 (ci e0) fun fr e1 cB fs=>Pl 1<|?_
 have a0:=nb (ak o) lr g
 refine L0<|bC (aK cB (Ne.symm a0) a5) 2 (mG c 0 ((ai.mk b false 0).wordV) 0 0 0 0 0 0 0 0 0 nS nS nS nS 0 0 0 0 0 nS) fun ft e2 cC=>ng<|Pl 1<|?_
 have bm:=us cB cC
 have cE:=ut t bm (ac (ni f.size d) (ac (ni (le f.size i.size) g) av))
 refine L0<|Oc<|m3 (ci (RC.upd e1 cC (aa a0 am) cE)) fun fu e3 cF fv=>Pl 1<|?_
 refine L0<|bC (aK cF (Ne.symm a0) e2) 5 (mG c 0 ((ai.mk b false 0).wordV) 0 0 (((ai.mk b false 0).wordsC 1).wordV) 0 0 0 0 0 0 nS nS nS nS 0 0 0 0 0 nS) fun fw e4 cH=>nt<|go<|Pl 1<|?_
 have bo:=us cF cH
 have cK:=ut cE bo (ac (ni f.size d) (ac (ni (le f.size i.size) g) av))
 refine L0<|Oc<|m3 (ci (RC.upd e3 cH (aa a0 am) cK)) fun fx e5 cL fy=>Pl 1<|?_
 refine L0<|bC (aK cL (Ne.symm a0) e4) 6 (mG c 0 ((ai.mk b false 0).wordV) 0 0 (((ai.mk b false 0).wordsC 1).wordV) ((((ai.mk b false 0).wordsC 1).wordsC 1).wordV) 0 0 0 0 0 nS nS nS nS 0 0 0 0 0 nS) fun fz e6 cM=>nl<|bn<|tn<|sg<|Pl 1<|?_
 have bp:=us cL cM
 have cQ:=ut cK bp (ac (ni f.size d) (ac (ni (le f.size i.size) g) av))
 refine L0<|Oc<|m2 (dy (RC.upd e5 cM (aa a0 am) cQ)) fun fA bq aN=>nt<|sq<|sg<|Pl 3<|L0<|cY (p:=⟨l,3,none⟩) (v:=.int .i64 ((((((ai.mk b false 0).wordsC 1).wordsC 1).wordsC 1).endC).e)) (RC.fld bq)<|Pl 1<|nt<|?_
 have cS:=ud cQ aN (le f.size d)
 have hs:aj aH 0 c b=aP (aU.mk c 0 ((ai.mk b false 0).wordV) 0 0 (((ai.mk b false 0).wordsC 1).wordV) ((((ai.mk b false 0).wordsC 1).wordsC 1).wordV) 0 0 0 0 0 [] [] [] [] 0 0 0 0 0 []) ((((ai.mk b false 0).wordsC 1).wordsC 1).wordsC 1):=by
   unfold aj aH bP bX d7 cG cw cI cJ jb
   (try simp only[y,X,Y,B,E,Z,bs,if_true,if_false,decide_true,decide_false,eq_self,true_or,or_true,or_false,false_or,if_true,if_false,cP,cO,cN,cR,reduceIte,nB,nY])
   all_goals rfl
 refine cb ((((((((ai.mk b false 0).wordsC 1).wordsC 1).wordsC 1).endC).e)!=0)) (fun bt=>?_) (fun bt=>?_)
 have bv:=al bt
 refine sq<|Rg 7 (fun w'=>w'.cell? ⟨l,3,none⟩=some (.int .i64 ((((((ai.mk b false 0).wordsC 1).wordsC 1).wordsC 1).endC).e))) fun fB aO=>?_
 have cT:=RC.upd bq aO am (az.step (RC.u bq) aO)
 refine bg (RC.fld cT) fun ao=>Rt 0 ao<|Rt 1 ao<|Rt 2 ao<|Rt 3 ao<|Rl 4 ao (fun _ hs=>hs)<|?_
 refine R0 5 rfl<|aT (ub (ut q (ut bm (ut bo (u1 bp (aE aN aO) im) (ac im (ac im av))) (ac im (ac im av))) (ac (nr d) (ac (ni i.size g) av))) j) mZ fun fC e7 cU=>?_
 have cV:=ud cS (uz aO cU) r
 refine bg (RC.fld (RC.upd cT cU (aa (Ne.symm (nb (ak j) lr d)) am) cV)) fun e8=>Rt 6 e8<|re<|tn<|rt<|tr<|bu e7 (.int .i64 ((((((ai.mk b false 0).wordsC 1).wordsC 1).wordsC 1).endC).e))<|?_
 rw[hs]
 exact aV bv cV
 have bv:=ae bt
 refine aX<|sg<|?_
 refine L0<|bV (aK aN (Ne.symm a0) e6)<|?_
 refine L0<|aT (ub (ut q (ut bm (ut bo (u1 bp aN im) (ac im (ac im av))) (ac im (ac im av))) (ac (nr d) (ac (ni i.size g) av))) j) (mG c 0 ((ai.mk b false 0).wordV) 0 0 (((ai.mk b false 0).wordsC 1).wordV) ((((ai.mk b false 0).wordsC 1).wordsC 1).wordV) 0 0 0 0 0 nS nS nS nS 0 0 0 0 0 nS) fun fD e9 ea=>Pl 1<|nt<|rt<|bu e9 (.int .i64 0)<|?_
 rw[hs]
 exact b7 bv ⟨_,_,_,_,_,rfl,aB.nil ..,aB.nil ..,(fun _ _ _=>aB.nil ..),aB.nil ..,aB.nil ..,(bL (by omega))⟩ (ud cS ea r)
 have dZ:=aq Z
 refine sg<|Pl 3<|nt<|cb ((c==23)) (fun a6=>?_) (fun a6=>?_)
 have eb:=ap a6
 refine sg<|Pl 1<|?_
 have ec:RC w _ A cp b a4 l (ai.mk b false 0):=⟨hsl,t,(Nat.le_trans f.size d),⟨0,(ub W o),Nat.zero_le _,rfl⟩,by omega⟩
 refine L0<|Oc<|m3 (ci ec) fun fE ed O fF=>Pl 1<|?_
 have D:=nb (ak o) lr g
 refine L0<|bC (aK O (Ne.symm D) a5) 2 (mG c 0 ((ai.mk b false 0).wordV) 0 0 0 0 0 0 0 0 0 nS nS nS nS 0 0 0 0 0 nS) fun fG cW P=>ng<|Pl 2<|L0<|aZ cW 2<|?_
 have bw:=us O P
 have cX:=ut t bw (ac (ni f.size d) (ac (ni (le f.size i.size) g) av))
 refine L0<|Oc<|m3 (iL (a:=(ai.mk b false 0).wordV) (most:=125) (by omega) (RC.upd ed P (aa D am) cX)) fun fH ee Q fI=>?_
 refine eH ee fun k ef eg=>?_
 refine L0<|td (((ai.mk b false 0).wordsC 1).wordV)<|Pl 1<|?_
 refine L0<|bC (aK Q (Ne.symm D) cW) 3 (mG c 0 ((ai.mk b false 0).wordV) (((ai.mk b false 0).wordsC 1).wordV) 0 0 0 0 0 0 0 0 nS nS nS nS 0 0 0 0 0 nS) fun fJ eh R=>ng<|Pl 1<|?_
 have bx:=us Q R
 have cZ:=ut cX bx (ac (ni f.size d) (ac (ni (le f.size i.size) g) av))
 refine L0<|Oc<|m3 (ci (RC.upd eg R (aa D am) cZ)) fun fK ei S fL=>Pl 1<|?_
 refine L0<|bC (aK S (Ne.symm D) eh) 7 (mG c 0 ((ai.mk b false 0).wordV) (((ai.mk b false 0).wordsC 1).wordV) 0 0 0 k.wordV 0 0 0 0 nS nS nS nS 0 0 0 0 0 nS) fun fM d0 T=>ng<|Pl 2<|L0<|aZ d0 7<|?_
 have bz:=us S T
 have d1:=ut cZ bz (ac (ni f.size d) (ac (ni (le f.size i.size) g) av))
 refine L0<|Oc<|m3 (iL (a:=k.wordV) (most:=121) (by omega) (RC.upd ei T (aa D am) d1)) fun fN ej a1 fO=>Pl 1<|ng<|Pl 1<|L0<|Oc<|m3 (de ej) fun fP ek a2 fQ=>L0<|Oi ((bA (k.wordsC 1) k.wordV 121).byteV)<|Pl 1<|ng<|?_
 refine Pl 3<|L0<|Oi (2*((k.wordsC 1).wordV))<|Pl 1<|L0<|Oc<|m2 (aL ((((bA (k.wordsC 1) k.wordV 121).byteV)==(2*((k.wordsC 1).wordV)))) 5 ek) fun fR el a3=>?_
 refine eH el fun U em eo=>?_
 refine nt<|go<|Pl 2<|L0<|Oc<|jc (eQ (n:=(k.wordsC 1).wordV) (by omega) eo) fun d2 d3 fS V fT fU ep eq=>Pl 1<|?_
 have d4:=u1 a1 (u1 a2 (u1 a3 eq im) im) im
 refine L0<|bC (aK d4 (Ne.symm D) d0) 12 (mG c 0 ((ai.mk b false 0).wordV) (((ai.mk b false 0).wordsC 1).wordV) 0 0 0 k.wordV 0 0 0 0 (.slice d2 ((U.wordsR ((k.wordsC 1).wordV)).length) d3) nS nS nS 0 0 0 0 0 nS) fun fV er aR=>nl<|bn<|tn<|sg<|Pl 1<|?_
 have bB:=us d4 aR
 have d5:=ut d1 bB (ac (ni f.size d) (ac (ni (le f.size i.size) g) av))
 refine L0<|Oc<|m2 (dy (RC.upd ep aR (aa D am) d5)) fun fW bE ar=>nt<|sq<|sg<|Pl 3<|L0<|cY (p:=⟨l,3,none⟩) (v:=.int .i64 (((U.wordsC ((k.wordsC 1).wordV)).endC).e)) (RC.fld bE)<|Pl 1<|nt<|?_
 have d6:=ud d5 ar (le f.size d)
 have hs:aj aH 0 c b=aP (aU.mk c 0 ((ai.mk b false 0).wordV) (((ai.mk b false 0).wordsC 1).wordV) 0 0 0 k.wordV 0 0 0 0 (U.wordsR ((k.wordsC 1).wordV)) [] [] [] 0 0 0 0 0 []) (U.wordsC ((k.wordsC 1).wordV)):=by
   subst em ef
   unfold aj aH bP bX d7 cG cw cI cJ jb
   (try simp only[y,X,Y,B,E,Z,a6,bs,if_true,if_false,decide_true,decide_false,eq_self,true_or,or_true,or_false,false_or,if_true,if_false,cP,cO,cN,cR,reduceIte,nB,nY])
   all_goals rfl
 refine cb (((((U.wordsC ((k.wordsC 1).wordV)).endC).e)!=0)) (fun bF=>?_) (fun bF=>?_)
 have bG:=al bF
 refine sq<|Rg 7 (fun w'=>w'.cell? ⟨l,3,none⟩=some (.int .i64 (((U.wordsC ((k.wordsC 1).wordV)).endC).e))) fun fX aS=>?_
 have d8:=RC.upd bE aS am (az.step (RC.u bE) aS)
 refine bg (RC.fld d8) fun au=>Rt 0 au<|Rt 1 au<|Rt 2 au<|Rt 3 au<|Rl 4 au (fun _ hs=>hs)<|?_
 have d9:=aE ar aS
 refine R0 5 rfl<|aT (ub (ut q (ut bw (ut bx (ut bz (u1 bB d9 im) (ac im (ac im av))) (ac im (ac im av))) (ac im (ac im av))) (ac (nr d) (ac (ni i.size g) av))) j) mZ fun fY es bH=>?_
 have da:=ud d6 (uz aS bH) r
 refine bg (RC.fld (RC.upd d8 bH (aa (Ne.symm (nb (ak j) lr d)) am) da)) fun et=>Rt 6 et<|re<|tn<|rt<|tr<|bu es (.int .i64 (((U.wordsC ((k.wordsC 1).wordV)).endC).e))<|?_
 have fZ:=ax V (us aR (us d9 bH)) (fun x hx=>(aa (fun e=>(ay (ak a8) (le (le (le (le (le (le (le (le (le s.size O.size) P.size) Q.size) R.size) S.size) T.size) a1.size) a2.size) a3.size) V) (e▸hx)) (aa (fun e=>(ay (ak o) (le (le (le (le (le (le (le (le (le (le z.size s.size) O.size) P.size) Q.size) R.size) S.size) T.size) a1.size) a2.size) a3.size) V) (e▸hx)) (aa (fun e=>(ay (ak j) (le (le (le (le (le (le (le (le (le (le (le i.size z.size) s.size) O.size) P.size) Q.size) R.size) S.size) T.size) a1.size) a2.size) a3.size) V) (e▸hx)) am)))) (fun _ _ h=>h)
 rw[hs]
 exact aV bG da
 have bG:=ae bF
 refine aX<|sg<|?_
 refine L0<|bV (aK ar (Ne.symm D) er)<|?_
 refine L0<|aT (ub (ut q (ut bw (ut bx (ut bz (u1 bB ar im) (ac im (ac im av))) (ac im (ac im av))) (ac im (ac im av))) (ac (nr d) (ac (ni i.size g) av))) j) (mG c 0 ((ai.mk b false 0).wordV) (((ai.mk b false 0).wordsC 1).wordV) 0 0 0 k.wordV 0 0 0 0 (.slice d2 ((U.wordsR ((k.wordsC 1).wordV)).length) d3) nS nS nS 0 0 0 0 0 nS) fun g0 eu db=>Pl 1<|nt<|rt<|bu eu (.int .i64 0)<|?_
 rw[hs]
 exact b7 bG ⟨_,_,_,_,_,rfl,((ax V (us aR (us ar db)) (fun x hx=>(aa (fun e=>(ay (ak a8) (le (le (le (le (le (le (le (le (le s.size O.size) P.size) Q.size) R.size) S.size) T.size) a1.size) a2.size) a3.size) V) (e▸hx)) (aa (fun e=>(ay (ak o) (le (le (le (le (le (le (le (le (le (le z.size s.size) O.size) P.size) Q.size) R.size) S.size) T.size) a1.size) a2.size) a3.size) V) (e▸hx)) (aa (fun e=>(ay (ak j) (le (le (le (le (le (le (le (le (le (le (le i.size z.size) s.size) O.size) P.size) Q.size) R.size) S.size) T.size) a1.size) a2.size) a3.size) V) (e▸hx)) am)))) (fun _ _ h=>h))).rd,aB.nil ..,(fun _ _ _=>aB.nil ..),aB.nil ..,aB.nil ..,(bL (by omega))⟩ (ud d6 db r)
 have eb:=aq a6
 refine sg<|Pl 3<|cu 3 [168] 171 ((c==24)) (fun K dc=>?_) ?_
 refine bl 168 ((c==24)) (fun aw=>?_) (fun aw=>?_)
 have ev:=ap aw
 exact Pl 3<|ce dc true aw
 have ev:=aq aw
 exact Pl 3<|ce dc false aw
 refine Pl 1<|nt<|cb ((c==24)) (fun a7=>?_) (fun a7=>?_)
 have ew:=ap a7
 refine go<|Pl 1<|?_
 have ex:RC w _ A cp b a4 l (ai.mk b false 0):=⟨hsl,t,(Nat.le_trans f.size d),⟨0,(ub W o),Nat.zero_le _,rfl⟩,by omega⟩
 refine L0<|Oc<|m3 (ci ex) fun g1 ey dd g2=>Pl 1<|?_
 have bI:=nb (ak o) lr g
 refine L0<|bC (aK dd (Ne.symm bI) a5) 2 (mG c 0 ((ai.mk b false 0).wordV) 0 0 0 0 0 0 0 0 0 nS nS nS nS 0 0 0 0 0 nS) fun g3 ez df=>nl<|bn<|tn<|sg<|Pl 1<|?_
 have bJ:=us dd df
 have dg:=ut t bJ (ac (ni f.size d) (ac (ni (le f.size i.size) g) av))
 refine L0<|Oc<|m2 (dy (RC.upd ey df (aa bI am) dg)) fun g4 bK aW=>nt<|sq<|sg<|Pl 3<|L0<|cY (p:=⟨l,3,none⟩) (v:=.int .i64 ((((ai.mk b false 0).wordsC 1).endC).e)) (RC.fld bK)<|Pl 1<|nt<|?_
 have dh:=ud dg aW (le f.size d)
 have hs:aj aH 0 c b=aP (aU.mk c 0 ((ai.mk b false 0).wordV) 0 0 0 0 0 0 0 0 0 [] [] [] [] 0 0 0 0 0 []) ((ai.mk b false 0).wordsC 1):=by
   unfold aj aH bP bX d7 cG cw cI cJ jb
   (try simp only[y,X,Y,B,E,Z,a6,a7,bs,if_true,if_false,decide_true,decide_false,eq_self,true_or,or_true,or_false,false_or,if_true,if_false,cP,cO,cN,cR,reduceIte,nB,nY])
   all_goals rfl
 refine cb ((((((ai.mk b false 0).wordsC 1).endC).e)!=0)) (fun bM=>?_) (fun bM=>?_)
 have bN:=al bM
 refine sq<|Rg 7 (fun w'=>w'.cell? ⟨l,3,none⟩=some (.int .i64 ((((ai.mk b false 0).wordsC 1).endC).e))) fun g5 aY=>?_
 have di:=RC.upd bK aY am (az.step (RC.u bK) aY)
 refine bg (RC.fld di) fun aA=>Rt 0 aA<|Rt 1 aA<|Rt 2 aA<|Rt 3 aA<|Rl 4 aA (fun _ hs=>hs)<|?_
 refine R0 5 rfl<|aT (ub (ut q (u1 bJ (aE aW aY) im) (ac (nr d) (ac (ni i.size g) av))) j) mZ fun g6 eA dj=>?_
 have dk:=ud dh (uz aY dj) r
 refine bg (RC.fld (RC.upd di dj (aa (Ne.symm (nb (ak j) lr d)) am) dk)) fun eB=>Rt 6 eB<|re<|tn<|rt<|tr<|bu eA (.int .i64 ((((ai.mk b false 0).wordsC 1).endC).e))<|?_
 rw[hs]
 exact aV bN dk
 have bN:=ae bM
 refine aX<|sg<|?_
 refine L0<|bV (aK aW (Ne.symm bI) ez)<|?_
 refine L0<|aT (ub (ut q (u1 bJ aW im) (ac (nr d) (ac (ni i.size g) av))) j) (mG c 0 ((ai.mk b false 0).wordV) 0 0 0 0 0 0 0 0 0 nS nS nS nS 0 0 0 0 0 nS) fun g7 eC eD=>Pl 1<|nt<|rt<|bu eC (.int .i64 0)<|?_
 rw[hs]
 exact b7 bN ⟨_,_,_,_,_,rfl,aB.nil ..,aB.nil ..,(fun _ _ _=>aB.nil ..),aB.nil ..,aB.nil ..,(bL (by omega))⟩ (ud dh eD r)
 have ew:=aq a7
 refine sg<|Pl 3<|nt<|cf a7<|sg<|Pl 1<|?_
 refine L0<|aT (ub q j) mZ fun g8 eE eF=>Pl 1<|nt<|rt<|br<|tr<|bu eE (.int .i64 4)<|?_
 have hs:aj aH 0 c b=(aU.zero,4):=by
   unfold aj aH bP bX d7 cG cw cI cJ jb
   (try simp only[y,X,Y,B,E,Z,a6,a7,bs,if_true,if_false,decide_true,decide_false,eq_self,true_or,or_true,or_false,false_or,if_true,if_false,cP,cO,cN,cR,reduceIte,nB,nY])
   all_goals rfl
 rw[hs]
 exact bf (ud t eF r)
theorem je{m:Md}{A:Option Addr}{cp:Nat}{b:List Int}{w:World}{c:Int}(hcode:B8 c)(hsl:aQ m w (.slice A b.length cp) b)(hb:b.length≤1048576) :
    Calls Tryz.prog 94 #[.int .i64 1,.int .u8 c,.slice A b.length cp] w (cD (.slice A b.length cp) b (aj aH 1 c b) w):=by
 obtain⟨hcode1,hcode2⟩:=hcode
 have hln:(b.length:Int)≤1048576:=by omega
 refine en 221 Tryz.func94 rfl<|sg<|L0<|bD mZ fun e4 e5 s j f=>Pl 1<|nt<|sq<|sg<|Pl 6<|nt<|c0<|?_
 refine aX<|sg<|Pl 2<|L0<|dC #[.slice A b.length cp,.int .i64 0,.bool false,.int .i64 0] fun k e6 d l i=>Pl 1<|ng<|Pl 2<|L0<|bD mZ fun e7 e8 g U z=>L0<|aT U (mC c) fun V W o=>?_
 refine nt<|sq<|bk<|sg<|Pl 6<|cu 3 [35] 38 (((c==3)||(c==4))) (fun K bt=>?_) ?_
 refine bl 35 ((c==3)) (fun X=>?_) (fun X=>?_)
 have cK:=ap X
 exact Pl 3<|ce bt true (by rw[X];rfl)
 have cK:=aq X
 exact Pl 3<|ce bt (c==4) (by rw[X];rfl)
 refine Pl 1<|cu 3 [39] 42 ((((c==3)||(c==4))||(c==23))) (fun K bv=>?_) ?_
 refine bl 39 (((c==3)||(c==4))) (fun Y=>?_) (fun Y=>?_)
 exact Pl 3<|ce bv true (by rw[Y];rfl)
 have cL:=(aD Y).1
 have cM:=(aD Y).2
 have e9:=aq cL
 have ea:=aq cM
 exact Pl 3<|ce bv (c==23) (by rw[Y];rfl)
 refine Pl 2<|nt<|?_
 have S:=ud z o g
 have r:=aE i S
 have t:=aE f r
 refine cb ((((c==3)||(c==4))||(c==23))) (fun y=>?_) (fun y=>?_)
 refine sg<|Pl 1<|?_
 have cQ:RC w _ A cp b V k (ai.mk b false 0):=⟨hsl,t,(Nat.le_trans f.size d),⟨0,(ub S l),Nat.zero_le _,rfl⟩,by omega⟩
 refine L0<|Oc<|m3 (de cQ) fun eb cS F ec=>L0<|Oi ((ai.mk b false 0).byteV)<|Pl 1<|ng<|Pl 2<|L0<|Oe (.int .i64 (Int.tmod ((ai.mk b false 0).byteV) 2)) (.int .i64 (((ai.mk b false 0).byteV)%2)) (congrArg (Value.int .i64) (Int.tmod_eq_emod_of_nonneg (by omega)))<|Pl 2<|cu 3 [51] 54 ((((((ai.mk b false 0).byteV)%2)==0)&&(decide (0<((ai.mk b false 0).byteV))))) (fun K bw=>?_) ?_
 refine bl 51 (((((ai.mk b false 0).byteV)%2)==0)) (fun Z=>?_) (fun Z=>?_)
 have cT:=ap Z
 exact Pl 3<|ce bw (decide (0<((ai.mk b false 0).byteV))) (by rw[Z];rfl)
 have cT:=aq Z
 exact Pl 3<|ce bw false (by rw[Z];rfl)
 refine Pl 1<|cu 3 [55] 58 (((((((ai.mk b false 0).byteV)%2)==0)&&(decide (0<((ai.mk b false 0).byteV))))&&(decide (((ai.mk b false 0).byteV)≤250)))) (fun K bx=>?_) ?_
 refine bl 55 ((((((ai.mk b false 0).byteV)%2)==0)&&(decide (0<((ai.mk b false 0).byteV))))) (fun a0=>?_) (fun a0=>?_)
 have cU:=(aO a0).1
 have cV:=(aO a0).2
 have ed:=ap cU
 have ee:=of_decide_eq_true cV
 exact Pl 3<|ce bx (decide (((ai.mk b false 0).byteV)≤250)) (by rw[a0];rfl)
 exact Pl 3<|ce bx false (by rw[a0];rfl)
 refine L0<|Oc<|m2 (aL (((((((ai.mk b false 0).byteV)%2)==0)&&(decide (0<((ai.mk b false 0).byteV))))&&(decide (((ai.mk b false 0).byteV)≤250)))) 5 cS) fun ef cW G=>?_
 refine eH cW fun x49 cX cZ=>?_
 refine nt<|go<|Pl 2<|L0<|Oe (.int .i64 (IntKind.i64.wrap (Int.tdiv ((ai.mk b false 0).byteV) 2))) (.int .i64 (((ai.mk b false 0).byteV)/2)) (congrArg (Value.int .i64) (eO (by omega) (by omega)))<|L0<|Oc<|jc (eQ (n:=(((ai.mk b false 0).byteV)/2)) (by omega) cZ) fun bz bA eg B eh ei d0 d1=>Pl 1<|?_
 have bB:=u1 F (u1 G d1 im) im
 have aI:=nb (ak l) lr g
 refine L0<|bC (aK bB (Ne.symm aI) W) 12 (mG c 0 0 0 0 0 0 0 0 0 0 0 (.slice bz ((x49.wordsR (((ai.mk b false 0).byteV)/2)).length) bA) nS nS nS 0 0 0 0 0 nS) fun ej d2 ah=>nl<|bn<|tn<|sg<|Pl 1<|?_
 have aJ:=us bB ah
 have bE:=ut t aJ (ac (ni f.size d) (ac (ni (le f.size i.size) g) av))
 refine L0<|Oc<|m2 (dy (RC.upd d0 ah (aa aI am) bE)) fun ek aM a1=>nt<|sq<|sg<|Pl 3<|L0<|cY (p:=⟨k,3,none⟩) (v:=.int .i64 (((x49.wordsC (((ai.mk b false 0).byteV)/2)).endC).e)) (RC.fld aM)<|Pl 1<|nt<|?_
 have bF:=ud bE a1 (le f.size d)
 have hs:aj aH 1 c b=aP (aU.mk c 0 0 0 0 0 0 0 0 0 0 0 (x49.wordsR (((ai.mk b false 0).byteV)/2)) [] [] [] 0 0 0 0 0 []) (x49.wordsC (((ai.mk b false 0).byteV)/2)):=by
   subst cX
   unfold aj
   (try simp only[y,bs,if_true,if_false,decide_true,decide_false,eq_self,true_or,or_true,or_false,false_or,if_true,if_false,cP,cO,cN,cR,reduceIte,nB,nY,pN y])
   all_goals rfl
 refine cb (((((x49.wordsC (((ai.mk b false 0).byteV)/2)).endC).e)!=0)) (fun aN=>?_) (fun aN=>?_)
 have aR:=al aN
 refine sq<|Rg 7 (fun w'=>w'.cell? ⟨k,3,none⟩=some (.int .i64 (((x49.wordsC (((ai.mk b false 0).byteV)/2)).endC).e))) fun el an=>?_
 have bG:=RC.upd aM an am (az.step (RC.u aM) an)
 refine bg (RC.fld bG) fun a2=>Rt 0 a2<|Rt 1 a2<|Rt 2 a2<|Rt 3 a2<|Rl 4 a2 (fun _ hs=>hs)<|?_
 have bH:=aE a1 an
 refine R0 5 rfl<|aT (ub (ut r (u1 aJ bH im) (ac (nr d) (ac (ni i.size g) av))) j) mZ fun em d3 aS=>?_
 have bI:=ud bF (uz an aS) s
 refine bg (RC.fld (RC.upd bG aS (aa (Ne.symm (nb (ak j) lr d)) am) bI)) fun d4=>Rt 6 d4<|re<|tn<|rt<|tr<|bu d3 (.int .i64 (((x49.wordsC (((ai.mk b false 0).byteV)/2)).endC).e))<|?_
 have eo:=ax B (us ah (us bH aS)) (fun x hx=>(aa (fun e=>(ay (ak U) (le (le o.size F.size) G.size) B) (e▸hx)) (aa (fun e=>(ay (ak l) (le (le (le z.size o.size) F.size) G.size) B) (e▸hx)) (aa (fun e=>(ay (ak j) (le (le (le (le i.size z.size) o.size) F.size) G.size) B) (e▸hx)) am)))) (fun _ _ h=>h)
 rw[hs]
 exact aV aR bI
 have aR:=ae aN
 refine aX<|sg<|?_
 refine L0<|bV (aK a1 (Ne.symm aI) d2)<|?_
 refine L0<|aT (ub (ut r (u1 aJ a1 im) (ac (nr d) (ac (ni i.size g) av))) j) (mG c 0 0 0 0 0 0 0 0 0 0 0 (.slice bz ((x49.wordsR (((ai.mk b false 0).byteV)/2)).length) bA) nS nS nS 0 0 0 0 0 nS) fun ep d5 bJ=>Pl 1<|nt<|rt<|bu d5 (.int .i64 0)<|?_
 rw[hs]
 exact b7 aR ⟨_,_,_,_,_,rfl,((ax B (us ah (us a1 bJ)) (fun x hx=>(aa (fun e=>(ay (ak U) (le (le o.size F.size) G.size) B) (e▸hx)) (aa (fun e=>(ay (ak l) (le (le (le z.size o.size) F.size) G.size) B) (e▸hx)) (aa (fun e=>(ay (ak j) (le (le (le (le i.size z.size) o.size) F.size) G.size) B) (e▸hx)) am)))) (fun _ _ h=>h))).rd,aB.nil ..,(fun _ _ _=>aB.nil ..),aB.nil ..,aB.nil ..,(bL (by omega))⟩ (ud bF bJ s)
 have H:=(aD y).1
 have I:=(aD y).2
 have J:=(aD H).1
 have L:=(aD H).2
 have q35aap:=aq J
 have q35abp:=aq L
 have eq:=aq I
 refine sg<|Pl 3<|sy 68 J<|Pl 4<|nt<|cf L<|sg<|Pl 3<|nt<|cb ((c==6)) (fun C=>?_) (fun C=>?_)
 have d6:=ap C
 refine sg<|Pl 1<|?_
 have d8:RC w _ A cp b V k (ai.mk b false 0):=⟨hsl,t,(Nat.le_trans f.size d),⟨0,(ub S l),Nat.zero_le _,rfl⟩,by omega⟩
 refine L0<|Oc<|m3 (ci d8) fun er d9 bK es=>Pl 1<|?_
 have a3:=nb (ak l) lr g
 refine L0<|bC (aK bK (Ne.symm a3) W) 2 (mG c 0 ((ai.mk b false 0).wordV) 0 0 0 0 0 0 0 0 0 nS nS nS nS 0 0 0 0 0 nS) fun et da bM=>nt<|go<|Pl 1<|?_
 have aW:=us bK bM
 have bN:=ut t aW (ac (ni f.size d) (ac (ni (le f.size i.size) g) av))
 refine L0<|Oc<|m3 (ci (RC.upd d9 bM (aa a3 am) bN)) fun eu db bO ev=>Pl 1<|?_
 refine L0<|bC (aK bO (Ne.symm a3) da) 4 (mG c 0 ((ai.mk b false 0).wordV) 0 (((ai.mk b false 0).wordsC 1).wordV) 0 0 0 0 0 0 0 nS nS nS nS 0 0 0 0 0 nS) fun ew dc bQ=>nl<|bn<|tn<|sg<|Pl 1<|?_
 have aY:=us bO bQ
 have bR:=ut bN aY (ac (ni f.size d) (ac (ni (le f.size i.size) g) av))
 refine L0<|Oc<|m2 (dy (RC.upd db bQ (aa a3 am) bR)) fun ex b0 ao=>nt<|sq<|sg<|Pl 3<|L0<|cY (p:=⟨k,3,none⟩) (v:=.int .i64 (((((ai.mk b false 0).wordsC 1).wordsC 1).endC).e)) (RC.fld b0)<|Pl 1<|nt<|?_
 have bS:=ud bR ao (le f.size d)
 have hs:aj aH 1 c b=aP (aU.mk c 0 ((ai.mk b false 0).wordV) 0 (((ai.mk b false 0).wordsC 1).wordV) 0 0 0 0 0 0 0 [] [] [] [] 0 0 0 0 0 []) (((ai.mk b false 0).wordsC 1).wordsC 1):=by
   unfold aj aH bP bX d7 cG cw cI cJ jb
   (try simp only[y,H,J,L,I,C,bs,if_true,if_false,decide_true,decide_false,eq_self,true_or,or_true,or_false,false_or,if_true,if_false,cP,cO,cN,cR,reduceIte,nB,nY])
   all_goals rfl
 refine cb (((((((ai.mk b false 0).wordsC 1).wordsC 1).endC).e)!=0)) (fun b1=>?_) (fun b1=>?_)
 have b2:=al b1
 refine sq<|Rg 7 (fun w'=>w'.cell? ⟨k,3,none⟩=some (.int .i64 (((((ai.mk b false 0).wordsC 1).wordsC 1).endC).e))) fun ey ar=>?_
 have bT:=RC.upd b0 ar am (az.step (RC.u b0) ar)
 refine bg (RC.fld bT) fun a4=>Rt 0 a4<|Rt 1 a4<|Rt 2 a4<|Rt 3 a4<|Rl 4 a4 (fun _ hs=>hs)<|?_
 refine R0 5 rfl<|aT (ub (ut r (ut aW (u1 aY (aE ao ar) im) (ac im (ac im av))) (ac (nr d) (ac (ni i.size g) av))) j) mZ fun ez dd bU=>?_
 have bW:=ud bS (uz ar bU) s
 refine bg (RC.fld (RC.upd bT bU (aa (Ne.symm (nb (ak j) lr d)) am) bW)) fun df=>Rt 6 df<|re<|tn<|rt<|tr<|bu dd (.int .i64 (((((ai.mk b false 0).wordsC 1).wordsC 1).endC).e))<|?_
 rw[hs]
 exact aV b2 bW
 have b2:=ae b1
 refine aX<|sg<|?_
 refine L0<|bV (aK ao (Ne.symm a3) dc)<|?_
 refine L0<|aT (ub (ut r (ut aW (u1 aY ao im) (ac im (ac im av))) (ac (nr d) (ac (ni i.size g) av))) j) (mG c 0 ((ai.mk b false 0).wordV) 0 (((ai.mk b false 0).wordsC 1).wordV) 0 0 0 0 0 0 0 nS nS nS nS 0 0 0 0 0 nS) fun eA dg dh=>Pl 1<|nt<|rt<|bu dg (.int .i64 0)<|?_
 rw[hs]
 exact b7 b2 ⟨_,_,_,_,_,rfl,aB.nil ..,aB.nil ..,(fun _ _ _=>aB.nil ..),aB.nil ..,aB.nil ..,(bL (by omega))⟩ (ud bS dh s)
 have d6:=aq C
 refine sg<|Pl 3<|nt<|cb ((c==16)) (fun M=>?_) (fun M=>?_)
 have di:=ap M
 refine sg<|Pl 1<|?_
 have dj:RC w _ A cp b V k (ai.mk b false 0):=⟨hsl,t,(Nat.le_trans f.size d),⟨0,(ub S l),Nat.zero_le _,rfl⟩,by omega⟩
 refine L0<|Oc<|m3 (ci dj) fun eB dk bY eC=>Pl 1<|?_
 have a5:=nb (ak l) lr g
 refine L0<|bC (aK bY (Ne.symm a5) W) 2 (mG c 0 ((ai.mk b false 0).wordV) 0 0 0 0 0 0 0 0 0 nS nS nS nS 0 0 0 0 0 nS) fun eD bZ c1=>ng<|Pl 2<|L0<|aZ bZ 2<|?_
 have b3:=us bY c1
 have c2:=ut t b3 (ac (ni f.size d) (ac (ni (le f.size i.size) g) av))
 refine L0<|Oc<|m3 (iL (a:=(ai.mk b false 0).wordV) (most:=123) (by omega) (RC.upd dk c1 (aa a5 am) c2)) fun eE dl c3 eF=>?_
 refine eH dl fun a6 dm dn=>?_
 refine L0<|td (((ai.mk b false 0).wordsC 1).wordV)<|Pl 1<|?_
 refine L0<|bC (aK c3 (Ne.symm a5) bZ) 3 (mG c 0 ((ai.mk b false 0).wordV) (((ai.mk b false 0).wordsC 1).wordV) 0 0 0 0 0 0 0 0 nS nS nS nS 0 0 0 0 0 nS) fun eG dp c4=>ng<|Pl 2<|nt<|c0<|sk<|bn<|tn<|sg<|?_
 refine Pl 1<|?_
 have b4:=us c3 c4
 have c5:=ut c2 b4 (ac (ni f.size d) (ac (ni (le f.size i.size) g) av))
 refine L0<|Oc<|m2 (dy (RC.upd dn c4 (aa a5 am) c5)) fun eI b5 au=>nt<|sq<|sg<|Pl 3<|L0<|cY (p:=⟨k,3,none⟩) (v:=.int .i64 a6.endC.e) (RC.fld b5)<|Pl 1<|nt<|?_
 have c6:=ud c5 au (le f.size d)
 have hs:aj aH 1 c b=aP (aU.mk c 0 ((ai.mk b false 0).wordV) (((ai.mk b false 0).wordsC 1).wordV) 0 0 0 0 0 0 0 0 [] [] [] [] 0 0 0 0 0 []) a6:=by
   subst dm
   unfold aj aH bP bX d7 cG cw cI cJ jb
   (try simp only[y,H,J,L,I,C,M,bs,if_true,if_false,decide_true,decide_false,eq_self,true_or,or_true,or_false,false_or,if_true,if_false,cP,cO,cN,cR,reduceIte,nB,nY])
   all_goals rfl
 refine cb ((a6.endC.e != 0)) (fun b6=>?_) (fun b6=>?_)
 have b8:=al b6
 refine sq<|Rg 7 (fun w'=>w'.cell? ⟨k,3,none⟩=some (.int .i64 a6.endC.e)) fun eJ aw=>?_
 have c7:=RC.upd b5 aw am (az.step (RC.u b5) aw)
 refine bg (RC.fld c7) fun a7=>Rt 0 a7<|Rt 1 a7<|Rt 2 a7<|Rt 3 a7<|Rl 4 a7 (fun _ hs=>hs)<|?_
 refine R0 5 rfl<|aT (ub (ut r (ut b3 (u1 b4 (aE au aw) im) (ac im (ac im av))) (ac (nr d) (ac (ni i.size g) av))) j) mZ fun eK dq c8=>?_
 have c9:=ud c6 (uz aw c8) s
 refine bg (RC.fld (RC.upd c7 c8 (aa (Ne.symm (nb (ak j) lr d)) am) c9)) fun dr=>Rt 6 dr<|re<|tn<|rt<|tr<|bu dq (.int .i64 a6.endC.e)<|?_
 rw[hs]
 exact aV b8 c9
 have b8:=ae b6
 refine aX<|sg<|?_
 refine L0<|bV (aK au (Ne.symm a5) dp)<|?_
 refine L0<|aT (ub (ut r (ut b3 (u1 b4 au im) (ac im (ac im av))) (ac (nr d) (ac (ni i.size g) av))) j) (mG c 0 ((ai.mk b false 0).wordV) (((ai.mk b false 0).wordsC 1).wordV) 0 0 0 0 0 0 0 0 nS nS nS nS 0 0 0 0 0 nS) fun eL ds dt=>Pl 1<|nt<|rt<|bu ds (.int .i64 0)<|?_
 rw[hs]
 exact b7 b8 ⟨_,_,_,_,_,rfl,aB.nil ..,aB.nil ..,(fun _ _ _=>aB.nil ..),aB.nil ..,aB.nil ..,(bL (by omega))⟩ (ud c6 dt s)
 have di:=aq M
 refine sg<|Pl 3<|nt<|cb ((c==22)) (fun T=>?_) (fun T=>?_)
 have du:=ap T
 refine sg<|Pl 1<|?_
 have dv:RC w _ A cp b V k (ai.mk b false 0):=⟨hsl,t,(Nat.le_trans f.size d),⟨0,(ub S l),Nat.zero_le _,rfl⟩,by omega⟩
 refine L0<|Oc<|m3 (ci dv) fun eM dw ca eN=>Pl 1<|?_
 have N:=nb (ak l) lr g
 refine L0<|bC (aK ca (Ne.symm N) W) 2 (mG c 0 ((ai.mk b false 0).wordV) 0 0 0 0 0 0 0 0 0 nS nS nS nS 0 0 0 0 0 nS) fun eP dx cc=>ng<|Pl 1<|?_
 have b9:=us ca cc
 have cd:=ut t b9 (ac (ni f.size d) (ac (ni (le f.size i.size) g) av))
 refine L0<|Oc<|m3 (ci (RC.upd dw cc (aa N am) cd)) fun eR dz cg eS=>Pl 1<|?_
 refine L0<|bC (aK cg (Ne.symm N) dx) 5 (mG c 0 ((ai.mk b false 0).wordV) 0 0 (((ai.mk b false 0).wordsC 1).wordV) 0 0 0 0 0 0 nS nS nS nS 0 0 0 0 0 nS) fun eT dA ch=>nt<|go<|Pl 1<|?_
 have ba:=us cg ch
 have cj:=ut cd ba (ac (ni f.size d) (ac (ni (le f.size i.size) g) av))
 refine L0<|Oc<|m3 (ci (RC.upd dz ch (aa N am) cj)) fun eU dB ck eV=>Pl 1<|?_
 refine L0<|bC (aK ck (Ne.symm N) dA) 6 (mG c 0 ((ai.mk b false 0).wordV) 0 0 (((ai.mk b false 0).wordsC 1).wordV) ((((ai.mk b false 0).wordsC 1).wordsC 1).wordV) 0 0 0 0 0 nS nS nS nS 0 0 0 0 0 nS) fun eW dD cl=>nl<|bn<|tn<|sg<|Pl 1<|?_
 have bb:=us ck cl
 have cm:=ut cj bb (ac (ni f.size d) (ac (ni (le f.size i.size) g) av))
 refine L0<|Oc<|m2 (dy (RC.upd dB cl (aa N am) cm)) fun eX bc aA=>nt<|sq<|sg<|Pl 3<|L0<|cY (p:=⟨k,3,none⟩) (v:=.int .i64 ((((((ai.mk b false 0).wordsC 1).wordsC 1).wordsC 1).endC).e)) (RC.fld bc)<|Pl 1<|nt<|?_
 have cn:=ud cm aA (le f.size d)
 have hs:aj aH 1 c b=aP (aU.mk c 0 ((ai.mk b false 0).wordV) 0 0 (((ai.mk b false 0).wordsC 1).wordV) ((((ai.mk b false 0).wordsC 1).wordsC 1).wordV) 0 0 0 0 0 [] [] [] [] 0 0 0 0 0 []) ((((ai.mk b false 0).wordsC 1).wordsC 1).wordsC 1):=by
   unfold aj aH bP bX d7 cG cw cI cJ jb
   (try simp only[y,H,J,L,I,C,M,T,bs,if_true,if_false,decide_true,decide_false,eq_self,true_or,or_true,or_false,false_or,if_true,if_false,cP,cO,cN,cR,reduceIte,nB,nY])
   all_goals rfl
 refine cb ((((((((ai.mk b false 0).wordsC 1).wordsC 1).wordsC 1).endC).e)!=0)) (fun bd=>?_) (fun bd=>?_)
 have be:=al bd
 refine sq<|Rg 7 (fun w'=>w'.cell? ⟨k,3,none⟩=some (.int .i64 ((((((ai.mk b false 0).wordsC 1).wordsC 1).wordsC 1).endC).e))) fun eY aC=>?_
 have co:=RC.upd bc aC am (az.step (RC.u bc) aC)
 refine bg (RC.fld co) fun a8=>Rt 0 a8<|Rt 1 a8<|Rt 2 a8<|Rt 3 a8<|Rl 4 a8 (fun _ hs=>hs)<|?_
 refine R0 5 rfl<|aT (ub (ut r (ut b9 (ut ba (u1 bb (aE aA aC) im) (ac im (ac im av))) (ac im (ac im av))) (ac (nr d) (ac (ni i.size g) av))) j) mZ fun eZ dE cq=>?_
 have cr:=ud cn (uz aC cq) s
 refine bg (RC.fld (RC.upd co cq (aa (Ne.symm (nb (ak j) lr d)) am) cr)) fun dF=>Rt 6 dF<|re<|tn<|rt<|tr<|bu dE (.int .i64 ((((((ai.mk b false 0).wordsC 1).wordsC 1).wordsC 1).endC).e))<|?_
 rw[hs]
 exact aV be cr
 have be:=ae bd
 refine aX<|sg<|?_
 refine L0<|bV (aK aA (Ne.symm N) dD)<|?_
 refine L0<|aT (ub (ut r (ut b9 (ut ba (u1 bb aA im) (ac im (ac im av))) (ac im (ac im av))) (ac (nr d) (ac (ni i.size g) av))) j) (mG c 0 ((ai.mk b false 0).wordV) 0 0 (((ai.mk b false 0).wordsC 1).wordV) ((((ai.mk b false 0).wordsC 1).wordsC 1).wordV) 0 0 0 0 0 nS nS nS nS 0 0 0 0 0 nS) fun f0 dG dH=>Pl 1<|nt<|rt<|bu dG (.int .i64 0)<|?_
 rw[hs]
 exact b7 be ⟨_,_,_,_,_,rfl,aB.nil ..,aB.nil ..,(fun _ _ _=>aB.nil ..),aB.nil ..,aB.nil ..,(bL (by omega))⟩ (ud cn dH s)
 have du:=aq T
 refine sg<|Pl 3<|nt<|cf I<|sg<|Pl 3<|cu 3 [168] 171 (false) (fun K cs=>?_) ?_
 refine bl 168 ((c==24)) (fun bh=>?_) (fun bh=>?_)
 have dI:=ap bh
 exact Pl 3<|ce cs false rfl
 have dI:=aq bh
 exact Pl 3<|ce cs false rfl
 refine Pl 1<|nt<|c0<|sg<|Pl 3<|nt<|cb ((c==24)) (fun a9=>?_) (fun a9=>?_)
 have dJ:=ap a9
 refine sg<|Pl 1<|?_
 have dK:RC w _ A cp b V k (ai.mk b false 0):=⟨hsl,t,(Nat.le_trans f.size d),⟨0,(ub S l),Nat.zero_le _,rfl⟩,by omega⟩
 refine L0<|Oc<|m3 (ci dK) fun f1 dL O f2=>L0<|Oi ((ai.mk b false 0).wordV)<|Pl 1<|ng<|Pl 2<|L0<|Oe (.int .i64 (Int.tmod ((ai.mk b false 0).wordV) 2)) (.int .i64 (((ai.mk b false 0).wordV)%2)) (congrArg (Value.int .i64) (Int.tmod_eq_emod_of_nonneg (by omega)))<|Pl 2<|cu 3 [185] 188 ((((((ai.mk b false 0).wordV)%2)==0)&&(decide (2≤((ai.mk b false 0).wordV))))) (fun K ct=>?_) ?_
 refine bl 185 (((((ai.mk b false 0).wordV)%2)==0)) (fun ab=>?_) (fun ab=>?_)
 have dM:=ap ab
 exact Pl 3<|ce ct (decide (2≤((ai.mk b false 0).wordV))) (by rw[ab];rfl)
 have dM:=aq ab
 exact Pl 3<|ce ct false (by rw[ab];rfl)
 refine Pl 1<|cu 3 [189] 192 (((((((ai.mk b false 0).wordV)%2)==0)&&(decide (2≤((ai.mk b false 0).wordV))))&&(decide (((ai.mk b false 0).wordV)≤64)))) (fun K cv=>?_) ?_
 refine bl 189 ((((((ai.mk b false 0).wordV)%2)==0)&&(decide (2≤((ai.mk b false 0).wordV))))) (fun ad=>?_) (fun ad=>?_)
 have dN:=(aO ad).1
 have dO:=(aO ad).2
 have f3:=ap dN
 have f4:=of_decide_eq_true dO
 exact Pl 3<|ce cv (decide (((ai.mk b false 0).wordV)≤64)) (by rw[ad];rfl)
 exact Pl 3<|ce cv false (by rw[ad];rfl)
 refine L0<|Oc<|m2 (aL (((((((ai.mk b false 0).wordV)%2)==0)&&(decide (2≤((ai.mk b false 0).wordV))))&&(decide (((ai.mk b false 0).wordV)≤64)))) 5 dL) fun f5 dP P=>?_
 refine eH dP fun q dQ dR=>?_
 refine ng<|Pl 1<|L0<|Oc<|m3 (ci dR) fun f6 dS Q f7=>L0<|Oi q.wordV<|Pl 1<|ng<|Pl 3<|L0<|Oi (2*q.wordV)<|?_
 refine L0<|Oi ((2*q.wordV)+2)<|Pl 1<|L0<|Oc<|m2 (aL ((((ai.mk b false 0).wordV)==((2*q.wordV)+2))) 5 dS) fun f8 dT R=>?_
 refine eH dT fun D dU dV=>?_
 refine nt<|go<|Pl 2<|L0<|Oc<|jc (eQ (n:=q.wordV) (by omega) dV) fun cx cy f9 E fa fb dW dX=>Pl 1<|?_
 have cz:=u1 O (u1 P (u1 Q (u1 R dX im) im) im) im
 have bi:=nb (ak l) lr g
 refine L0<|bC (aK cz (Ne.symm bi) W) 12 (mG c 0 0 0 0 0 0 0 0 0 0 0 (.slice cx ((D.wordsR q.wordV).length) cy) nS nS nS 0 0 0 0 0 nS) fun fc dY aF=>nl<|bn<|tn<|sg<|Pl 1<|?_
 have bj:=us cz aF
 have cA:=ut t bj (ac (ni f.size d) (ac (ni (le f.size i.size) g) av))
 refine L0<|Oc<|m2 (dy (RC.upd dW aF (aa bi am) cA)) fun fd bm af=>nt<|sq<|sg<|Pl 3<|L0<|cY (p:=⟨k,3,none⟩) (v:=.int .i64 (((D.wordsC q.wordV).endC).e)) (RC.fld bm)<|Pl 1<|nt<|?_
 have cB:=ud cA af (le f.size d)
 have hs:aj aH 1 c b=aP (aU.mk c 0 0 0 0 0 0 0 0 0 0 0 (D.wordsR q.wordV) [] [] [] 0 0 0 0 0 []) (D.wordsC q.wordV):=by
   subst dU dQ
   unfold aj aH bP bX d7 cG cw cI cJ jb
   (try simp only[y,H,J,L,I,C,M,T,a9,bs,if_true,if_false,decide_true,decide_false,eq_self,true_or,or_true,or_false,false_or,if_true,if_false,cP,cO,cN,cR,reduceIte,nB,nY])
   all_goals rfl
 refine cb (((((D.wordsC q.wordV).endC).e)!=0)) (fun bo=>?_) (fun bo=>?_)
 have bp:=al bo
 refine sq<|Rg 7 (fun w'=>w'.cell? ⟨k,3,none⟩=some (.int .i64 (((D.wordsC q.wordV).endC).e))) fun fe aG=>?_
 have cC:=RC.upd bm aG am (az.step (RC.u bm) aG)
 refine bg (RC.fld cC) fun ag=>Rt 0 ag<|Rt 1 ag<|Rt 2 ag<|Rt 3 ag<|Rl 4 ag (fun _ hs=>hs)<|?_
 have cE:=aE af aG
 refine R0 5 rfl<|aT (ub (ut r (u1 bj cE im) (ac (nr d) (ac (ni i.size g) av))) j) mZ fun ff dZ bq=>?_
 have cF:=ud cB (uz aG bq) s
 refine bg (RC.fld (RC.upd cC bq (aa (Ne.symm (nb (ak j) lr d)) am) cF)) fun e0=>Rt 6 e0<|re<|tn<|rt<|tr<|bu dZ (.int .i64 (((D.wordsC q.wordV).endC).e))<|?_
 have fg:=ax E (us aF (us cE bq)) (fun x hx=>(aa (fun e=>(ay (ak U) (le (le (le (le o.size O.size) P.size) Q.size) R.size) E) (e▸hx)) (aa (fun e=>(ay (ak l) (le (le (le (le (le z.size o.size) O.size) P.size) Q.size) R.size) E) (e▸hx)) (aa (fun e=>(ay (ak j) (le (le (le (le (le (le i.size z.size) o.size) O.size) P.size) Q.size) R.size) E) (e▸hx)) am)))) (fun _ _ h=>h)
 rw[hs]
 exact aV bp cF
 have bp:=ae bo
 refine aX<|sg<|?_
 refine L0<|bV (aK af (Ne.symm bi) dY)<|?_
 refine L0<|aT (ub (ut r (u1 bj af im) (ac (nr d) (ac (ni i.size g) av))) j) (mG c 0 0 0 0 0 0 0 0 0 0 0 (.slice cx ((D.wordsR q.wordV).length) cy) nS nS nS 0 0 0 0 0 nS) fun fh e1 cH=>Pl 1<|nt<|rt<|bu e1 (.int .i64 0)<|?_
 rw[hs]
 exact b7 bp ⟨_,_,_,_,_,rfl,((ax E (us aF (us af cH)) (fun x hx=>(aa (fun e=>(ay (ak U) (le (le (le (le o.size O.size) P.size) Q.size) R.size) E) (e▸hx)) (aa (fun e=>(ay (ak l) (le (le (le (le (le z.size o.size) O.size) P.size) Q.size) R.size) E) (e▸hx)) (aa (fun e=>(ay (ak j) (le (le (le (le (le (le i.size z.size) o.size) O.size) P.size) Q.size) R.size) E) (e▸hx)) am)))) (fun _ _ h=>h))).rd,aB.nil ..,(fun _ _ _=>aB.nil ..),aB.nil ..,aB.nil ..,(bL (by omega))⟩ (ud cB cH s)
 have dJ:=aq a9
 refine sg<|Pl 1<|?_
 refine L0<|aT (ub r j) mZ fun fi e2 e3=>Pl 1<|nt<|rt<|br<|tr<|bu e2 (.int .i64 4)<|?_
 have hs:aj aH 1 c b=(aU.zero,4):=by
   unfold aj aH bP bX d7 cG cw cI cJ jb
   (try simp only[y,H,J,L,I,C,M,T,a9,bs,if_true,if_false,decide_true,decide_false,eq_self,true_or,or_true,or_false,false_or,if_true,if_false,cP,cO,cN,cR,reduceIte,nB,nY])
   all_goals rfl
 rw[hs]
 exact bf (ud t e3 s)
theorem jr{m:Md}{A:Option Addr}{cp:Nat}{b:List Int}{w:World}{dir c:Int}(hcode:B8 c)(hsl:aQ m w (.slice A b.length cp) b)(hb:b.length≤1048576)(hd:¬ (dir=0∨dir=1)) :
    Calls Tryz.prog 94 #[.int .i64 dir,.int .u8 c,.slice A b.length cp] w (cD (.slice A b.length cp) b (aj aH dir c b) w):=by
 obtain⟨hcode1,hcode2⟩:=hcode
 have hln:(b.length:Int)≤1048576:=by omega
 have e0:(dir != 0)=true:=by simp;omega
 have e1:(dir != 1)=true:=by simp;omega
 refine en 221 Tryz.func94 rfl<|sg<|L0<|bD mZ fun g h a d e=>Pl 1<|nt<|sq<|sg<|Pl 3<|sy 18 e0<|Pl 3<|nl<|?_
 refine tn<|ct e1<|sg<|Pl 1<|L0<|aT d mZ fun i dF f=>Pl 1<|nt<|rt<|tr<|bu dF (.int .i64 1)<|?_
 have hs:aj aH dir c b=(aU.zero,1):=by
   unfold aj aH bP bX d7 cG cw cI cJ jb
   (try simp only[e0,e1,bs,if_true,if_false,decide_true,decide_false,eq_self,true_or,or_true,or_false,false_or,if_true,if_false,cP,cO,cN,cR,reduceIte,hd,nB,nY])
   all_goals rfl
 rw[hs]
 exact bf (ud e f a)
open Go.RowKit
def dP (dir:Int)(C:ai) : ai:=(C.wordsC 1).need (dw C.wordV&&((C.wordV != 4)||(dir==0))) 8
theorem ig{C:ai}:dP 0 C=(C.wordsC 1).need (dw C.wordV) 8:=by
  unfold dP
  rw[show((0:Int)==0)=true from rfl,Bool.or_true,Bool.and_true]
theorem ik{C:ai}:dP 1 C=(C.wordsC 1).need (dw C.wordV&&(C.wordV != 4)) 8:=by
  unfold dP
  rw[show((1:Int)==0)=false from rfl,Bool.or_false]
def dr (dir c:Int)(C:ai) : ai × aU :=
  if C.wordV==0 then ((i8 (dP dir C)).wordsC (((dP dir C).l.length:Int)/2),{ aU.zero with code:=c,sub:=C.wordV,words:=(i8 (dP dir C)).wordsR (((dP dir C).l.length:Int)/2) })
  else (((dP dir C).wordsC 1).need (eg dir C.wordV (dP dir C).wordV) 6,{ aU.zero with code:=c,sub:=C.wordV,words:=[(dP dir C).wordV] })
def cU (c:Int)(C:ai) : ai × aU :=
  if c==7 then (C.bytesC 1,{ aU.zero with code:=c,value:=C.byteV })
  else if c==11 then ((dk C).wordsC 1,{ aU.zero with code:=c,status:=C.wordV,events:=(dk C).wordV })
  else if c==12 then ((fT C).bytesC (C.byteV-6),{ aU.zero with code:=c,status:=(fw C 6 70).wordV,events:=(dk (fw C 6 70)).wordV,messages:=((dk (fw C 6 70)).wordsC 1).wordV,data:=(fT C).bytesR (C.byteV-6) })
  else ((fw C 1 251).bytesC C.byteV,{ aU.zero with code:=c,data:=(fw C 1 251).bytesR C.byteV })
def bj (dir c:Int)(C:ai) : Option (ai × aU) :=
  if ((((c != 7)&&(c != 8))&&(c != 11))&&(c != 12))&&(c != 17) then none
  else if c==8 then some (dr dir c C)
  else if dir==0 then some (C,{ aU.zero with code:=c })
  else some (cU c C)
theorem js{m:Md}{A:Option Addr}{cp:Nat}{b:List Int}{w:World}{c:Int}(hcode:B8 c)(hsl:aQ m w (.slice A b.length cp) b)(hb:b.length≤1048576) :
    Calls Tryz.prog 95 #[.int .i64 0,.int .u8 c,.slice A b.length cp] w (cD (.slice A b.length cp) b (aj bj 0 c b) w):=by
 obtain⟨hcode1,hcode2⟩:=hcode
 have hln:(b.length:Int)≤1048576:=by omega
 refine en 197 Tryz.func95 rfl<|sg<|L0<|bD mZ fun cJ cK G g i=>Pl 1<|nt<|sq<|sg<|Pl 6<|nt<|c0<|?_
 refine aX<|sq<|sg<|Pl 3<|cu 3 [24] 27 (((c != 7)&&(c != 8))) (fun K aS=>?_) ?_
 refine bl 24 ((c != 7)) (fun N=>?_) (fun N=>?_)
 have bS:=al N
 exact Pl 3<|ce aS (c != 8) (by rw[N];rfl)
 have bS:=ae N
 exact Pl 3<|ce aS false (by rw[N];rfl)
 refine Pl 1<|cu 3 [28] 31 ((((c != 7)&&(c != 8))&&(c != 11))) (fun K aW=>?_) ?_
 refine bl 28 (((c != 7)&&(c != 8))) (fun O=>?_) (fun O=>?_)
 have bT:=(aO O).1
 have bU:=(aO O).2
 have cL:=al bT
 have cM:=al bU
 exact Pl 3<|ce aW (c != 11) (by rw[O];rfl)
 exact Pl 3<|ce aW false (by rw[O];rfl)
 refine Pl 1<|cu 3 [32] 35 (((((c != 7)&&(c != 8))&&(c != 11))&&(c != 12))) (fun K aY=>?_) ?_
 refine bl 32 ((((c != 7)&&(c != 8))&&(c != 11))) (fun P=>?_) (fun P=>?_)
 have b0:=(aO P).1
 have bW:=(aO P).2
 have bX:=(aO b0).1
 have bY:=(aO b0).2
 have q19aap:=al bX
 have q19abp:=al bY
 have cQ:=al bW
 exact Pl 3<|ce aY (c != 12) (by rw[P];rfl)
 exact Pl 3<|ce aY false (by rw[P];rfl)
 refine Pl 1<|cu 3 [36] 39 ((((((c != 7)&&(c != 8))&&(c != 11))&&(c != 12))&&(c != 17))) (fun K b1=>?_) ?_
 refine bl 36 (((((c != 7)&&(c != 8))&&(c != 11))&&(c != 12))) (fun Q=>?_) (fun Q=>?_)
 have b2:=(aO Q).1
 have bZ:=(aO Q).2
 have b3:=(aO b2).1
 have c2:=(aO b2).2
 have q21aaa:=(aO b3).1
 have q21aab:=(aO b3).2
 have q21aaap:=al q21aaa
 have q21aabp:=al q21aab
 have q21abp:=al c2
 have cS:=al bZ
 exact Pl 3<|ce b1 (c != 17) (by rw[Q];rfl)
 exact Pl 3<|ce b1 false (by rw[Q];rfl)
 refine nt<|cb ((((((c != 7)&&(c != 8))&&(c != 11))&&(c != 12))&&(c != 17))) (fun H=>?_) (fun H=>?_)
 have ab:=(aO H).1
 have b4:=(aO H).2
 have ad:=(aO ab).1
 have b5:=(aO ab).2
 have q23aaa:=(aO ad).1
 have q23aab:=(aO ad).2
 have q23aaaa:=(aO q23aaa).1
 have q23aaab:=(aO q23aaa).2
 have q23aaaap:=al q23aaaa
 have q23aaabp:=al q23aaab
 have q23aabp:=al q23aab
 have q23abp:=al b5
 have cT:=al b4
 refine sg<|Pl 1<|L0<|aT g mZ fun cV c3 c4=>Pl 1<|nt<|rt<|tr<|bu c3 (.int .i64 4)<|?_
 have hs:aj bj 0 c b=(aU.zero,4):=by
   unfold aj bj dr cU
   (try simp only[H,ab,ad,q23aaa,q23aaaa,q23aaab,q23aab,b5,b4,bs,if_true,if_false,decide_true,decide_false,eq_self,true_or,or_true,or_false,false_or,if_true,if_false,cP,cO,cN,cR,reduceIte,ig,ik])
   all_goals rfl
 rw[hs]
 exact bf (ud i c4 G)
 refine aX<|sg<|Pl 2<|L0<|dC #[.slice A b.length cp,.int .i64 0,.bool false,.int .i64 0] fun B cW a C q=>Pl 1<|ng<|Pl 2<|L0<|bD mZ fun cX cZ r R t=>L0<|aT R (mC c) fun b6 b8 k=>?_
 refine nt<|sq<|bk<|sg<|Pl 3<|nt<|?_
 have af:=ud t k r
 have I:=aE q af
 have a3:=aE i I
 refine cb ((c==8)) (fun M=>?_) (fun M=>?_)
 have c5:=ap M
 refine sg<|Pl 1<|?_
 have c6:RC w _ A cp b b6 B (ai.mk b false 0):=⟨hsl,a3,(Nat.le_trans i.size a),⟨0,(ub af C),Nat.zero_le _,rfl⟩,by omega⟩
 refine L0<|Oc<|m3 (ci c6) fun d0 c7 j d1=>Pl 1<|?_
 have s:=nb (ak C) lr r
 refine L0<|bC (aK j (Ne.symm s) b8) 8 (mG c 0 0 0 0 0 0 0 ((ai.mk b false 0).wordV) 0 0 0 nS nS nS nS 0 0 0 0 0 nS) fun c8 ag o=>ng<|Pl 1<|L0<|aZ ag 8<|L0<|Oc<|m1 (tN (x:=(ai.mk b false 0).wordV) (w:=c8) (by omega)) fun d2 f=>Pl 1<|ng<|Pl 3<|cu 8 [72] 80 ((dw ((ai.mk b false 0).wordV))) (fun K b9=>?_) ?_
 refine bl 72 ((dw ((ai.mk b false 0).wordV))) (fun ah=>?_) (fun ah=>?_)
 refine Pl 1<|?_
 refine L1<|aZ (ub f ag) 8<|Pl 2<|cu 3 [76] 79 (true) (fun K ba=>?_) ?_
 refine bl 76 ((((ai.mk b false 0).wordV)!=4)) (fun an=>?_) (fun an=>?_)
 have c9:=al an
 exact Pl 3<|ce ba true rfl
 have c9:=ae an
 exact Pl 3<|ce ba true rfl
 exact Pl 1<|ce b9 true ah
 exact Pl 8<|ce b9 false ah
 have bb:=aE o f
 have S:=us j bb
 have bc:=ut a3 S (ac (ni i.size a) (ac (ni (le i.size q.size) r) av))
 refine L0<|Oc<|m2 (aL ((dw ((ai.mk b false 0).wordV))) 8 (RC.upd c7 bb (aa s am) bc)) fun d3 ca d=>?_
 refine eH ca fun x70 bd T=>?_
 refine nt<|sq<|sg<|Pl 1<|?_
 have ao:=aK (uz f d) (Ne.symm s) ag
 refine L0<|aZ ao 8<|Pl 1<|nt<|?_
 have be:=ud bc d (le i.size a)
 refine cb ((((ai.mk b false 0).wordV)==0)) (fun U=>?_) (fun U=>?_)
 have cc:=ap U
 refine sg<|Pl 1<|L0<|Oc<|m1 (fS T) fun d4 y=>?_
 have d5:=RC.clen T
 refine Pl 1<|ng<|Pl 2<|L0<|Oe (.int .i64 (Int.tmod ((x70.l.length:Nat) : Int) 2)) (.int .i64 (((x70.l.length:Nat) : Int)%2)) (congrArg (Value.int .i64) (Int.tmod_eq_emod_of_nonneg (by omega)))<|Pl 2<|cu 3 [91] 94 ((((((x70.l.length:Nat) : Int)%2)==0)&&(decide (2≤((x70.l.length:Nat) : Int))))) (fun K bh=>?_) ?_
 refine bl 91 (((((x70.l.length:Nat) : Int)%2)==0)) (fun V=>?_) (fun V=>?_)
 have cd:=ap V
 exact Pl 3<|ce bh (decide (2≤((x70.l.length:Nat) : Int))) (by rw[V];rfl)
 have cd:=aq V
 exact Pl 3<|ce bh false (by rw[V];rfl)
 refine Pl 1<|cu 3 [95] 98 (((((((x70.l.length:Nat) : Int)%2)==0)&&(decide (2≤((x70.l.length:Nat) : Int))))&&(decide (((x70.l.length:Nat) : Int)≤250)))) (fun K bi=>?_) ?_
 refine bl 95 ((((((x70.l.length:Nat) : Int)%2)==0)&&(decide (2≤((x70.l.length:Nat) : Int))))) (fun W=>?_) (fun W=>?_)
 have cf:=(aO W).1
 have cg:=(aO W).2
 have d6:=ap cf
 have d7:=of_decide_eq_true cg
 exact Pl 3<|ce bi (decide (((x70.l.length:Nat) : Int)≤250)) (by rw[W];rfl)
 exact Pl 3<|ce bi false (by rw[W];rfl)
 refine L0<|Oc<|m2 (aL (((((((x70.l.length:Nat) : Int)%2)==0)&&(decide (2≤((x70.l.length:Nat) : Int))))&&(decide (((x70.l.length:Nat) : Int)≤250)))) 5 (RC.upd T y am (az.step (RC.u T) y))) fun d8 ch J=>?_
 refine eH ch fun x88 cj ck=>?_
 refine ng<|Pl 2<|L0<|Oe (.int .i64 (IntKind.i64.wrap (Int.tdiv ((x70.l.length:Nat) : Int) 2))) (.int .i64 (((x70.l.length:Nat) : Int)/2)) (congrArg (Value.int .i64) (eO (by omega) (by omega)))<|L0<|Oc<|jc (eQ (n:=(((x70.l.length:Nat) : Int)/2)) (by omega) ck) fun bm bo d9 D da db cl cm=>Pl 1<|?_
 have bp:=uz y (u1 J cm im)
 refine L0<|bC (aK bp (Ne.symm s) ao) 12 (mG c 0 0 0 0 0 0 0 ((ai.mk b false 0).wordV) 0 0 0 (.slice bm ((x88.wordsR (((x70.l.length:Nat) : Int)/2)).length) bo) nS nS nS 0 0 0 0 0 nS) fun dc cn a4=>nt<|xt<|tx<|bx<|tn<|sg<|Pl 1<|?_
 have ar:=us bp a4
 have bq:=ut be ar (ac (ni i.size a) (ac (ni (le i.size q.size) r) av))
 refine L0<|Oc<|m2 (dy (RC.upd cl a4 (aa s am) bq)) fun dd au X=>nt<|sq<|sg<|Pl 3<|L0<|cY (p:=⟨B,3,none⟩) (v:=.int .i64 (((x88.wordsC (((x70.l.length:Nat) : Int)/2)).endC).e)) (RC.fld au)<|Pl 1<|nt<|?_
 have br:=ud bq X (le i.size a)
 have hs:aj bj 0 c b=aP (aU.mk c 0 0 0 0 0 0 0 ((ai.mk b false 0).wordV) 0 0 0 (x88.wordsR (((x70.l.length:Nat) : Int)/2)) [] [] [] 0 0 0 0 0 []) (x88.wordsC (((x70.l.length:Nat) : Int)/2)):=by
   subst cj bd
   unfold aj bj dr cU
   (try simp only[H,M,U,bs,if_true,if_false,decide_true,decide_false,eq_self,true_or,or_true,or_false,false_or,if_true,if_false,cP,cO,cN,cR,reduceIte,ig,ik])
   all_goals rfl
 refine cb (((((x88.wordsC (((x70.l.length:Nat) : Int)/2)).endC).e)!=0)) (fun aw=>?_) (fun aw=>?_)
 have aA:=al aw
 refine sq<|Rg 7 (fun w'=>w'.cell? ⟨B,3,none⟩=some (.int .i64 (((x88.wordsC (((x70.l.length:Nat) : Int)/2)).endC).e))) fun de a5=>?_
 have bt:=RC.upd au a5 am (az.step (RC.u au) a5)
 refine bg (RC.fld bt) fun Y=>Rt 0 Y<|Rt 1 Y<|Rt 2 Y<|Rt 3 Y<|Rl 4 Y (fun _ hs=>hs)<|?_
 have bv:=aE X a5
 refine R0 5 rfl<|aT (ub (ut I (ut S (ui d (u1 ar bv im)) (ac im (ac im av))) (ac (nr a) (ac (ni q.size r) av))) g) mZ fun df co aC=>?_
 have bw:=ud br (uz a5 aC) G
 refine bg (RC.fld (RC.upd bt aC (aa (Ne.symm (nb (ak g) lr a)) am) bw)) fun cq=>Rt 6 cq<|re<|tn<|rt<|tr<|bu co (.int .i64 (((x88.wordsC (((x70.l.length:Nat) : Int)/2)).endC).e))<|?_
 have dg:=ax D (us a4 (us bv aC)) (fun x hx=>(aa (fun e=>(ay (ak R) (le (le (le (le (le (le k.size j.size) o.size) f.size) d.size) y.size) J.size) D) (e▸hx)) (aa (fun e=>(ay (ak C) (le (le (le (le (le (le (le t.size k.size) j.size) o.size) f.size) d.size) y.size) J.size) D) (e▸hx)) (aa (fun e=>(ay (ak g) (le (le (le (le (le (le (le (le q.size t.size) k.size) j.size) o.size) f.size) d.size) y.size) J.size) D) (e▸hx)) am)))) (fun _ _ h=>h)
 rw[hs]
 exact aV aA bw
 have aA:=ae aw
 refine aX<|sg<|?_
 refine L0<|bV (aK X (Ne.symm s) cn)<|?_
 refine L0<|aT (ub (ut I (ut S (ui d (u1 ar X im)) (ac im (ac im av))) (ac (nr a) (ac (ni q.size r) av))) g) (mG c 0 0 0 0 0 0 0 ((ai.mk b false 0).wordV) 0 0 0 (.slice bm ((x88.wordsR (((x70.l.length:Nat) : Int)/2)).length) bo) nS nS nS 0 0 0 0 0 nS) fun dh cr bz=>Pl 1<|nt<|rt<|bu cr (.int .i64 0)<|?_
 rw[hs]
 exact b7 aA ⟨_,_,_,_,_,rfl,((ax D (us a4 (us X bz)) (fun x hx=>(aa (fun e=>(ay (ak R) (le (le (le (le (le (le k.size j.size) o.size) f.size) d.size) y.size) J.size) D) (e▸hx)) (aa (fun e=>(ay (ak C) (le (le (le (le (le (le (le t.size k.size) j.size) o.size) f.size) d.size) y.size) J.size) D) (e▸hx)) (aa (fun e=>(ay (ak g) (le (le (le (le (le (le (le (le q.size t.size) k.size) j.size) o.size) f.size) d.size) y.size) J.size) D) (e▸hx)) am)))) (fun _ _ h=>h))).rd,aB.nil ..,(fun _ _ _=>aB.nil ..),aB.nil ..,aB.nil ..,(bL (by omega))⟩ (ud br bz G)
 have cc:=aq U
 refine aX<|sg<|Pl 1<|L0<|Oc<|m3 (ci T) fun cs bA E di=>Pl 1<|ng<|Pl 3<|?_
 have bB:=aK E (Ne.symm s) ao
 refine L0<|aZ bB 8<|Pl 1<|L0<|Oc<|m1 (tV (dir:=0) (sub:=(ai.mk b false 0).wordV) (v:=x70.wordV) (w:=cs) (by omega)) fun dj z=>?_
 refine L0<|Oc<|m2 (aL ((eg 0 ((ai.mk b false 0).wordV) x70.wordV)) 6 (RC.upd bA z am (az.step (RC.u bA) z))) fun dk ct L=>?_
 refine eH ct fun Z cv cw=>?_
 refine nt<|go<|Pl 1<|L0<|gA (m:=1) (e:=24) #[.int .u16 x70.wordV] fun bE dl cx cy bF=>?_
 have F:=rj cx (xs:=[x70.wordV]) (by as_aux_lemma=>kernel_rfl) (aR (by omega) dS) (by(try simp only[List.length_cons,List.length_nil]);omega) cy
 refine Pl 1<|?_
 have bG:=uz z (aE L bF)
 refine L0<|bC (aK bG (Ne.symm s) bB) 12 (mG c 0 0 0 0 0 0 0 ((ai.mk b false 0).wordV) 0 0 0 (.slice (some ⟨bE,0,none⟩) 1 1) nS nS nS 0 0 0 0 0 nS) fun dm cz a6=>nl<|bn<|tn<|sg<|Pl 1<|?_
 have aD:=ui E (us bG a6)
 have bH:=ut be aD (ac (ni i.size a) (ac (ni (le i.size q.size) r) av))
 refine L0<|Oc<|m2 (dy (RC.upd cw (uz bF a6) (aa s am) bH)) fun dn aF a0=>nt<|sq<|sg<|Pl 3<|L0<|cY (p:=⟨B,3,none⟩) (v:=.int .i64 Z.endC.e) (RC.fld aF)<|Pl 1<|nt<|?_
 have bI:=ud bH a0 (le i.size a)
 have hs:aj bj 0 c b=aP (aU.mk c 0 0 0 0 0 0 0 ((ai.mk b false 0).wordV) 0 0 0 [x70.wordV] [] [] [] 0 0 0 0 0 []) Z:=by
   subst cv bd
   unfold aj bj dr cU
   (try simp only[H,M,U,bs,if_true,if_false,decide_true,decide_false,eq_self,true_or,or_true,or_false,false_or,if_true,if_false,cP,cO,cN,cR,reduceIte,ig,ik])
   all_goals rfl
 refine cb ((Z.endC.e != 0)) (fun aG=>?_) (fun aG=>?_)
 have aH:=al aG
 refine sq<|Rg 7 (fun w'=>w'.cell? ⟨B,3,none⟩=some (.int .i64 Z.endC.e)) fun dp a7=>?_
 have bJ:=RC.upd aF a7 am (az.step (RC.u aF) a7)
 refine bg (RC.fld bJ) fun a1=>Rt 0 a1<|Rt 1 a1<|Rt 2 a1<|Rt 3 a1<|Rl 4 a1 (fun _ hs=>hs)<|?_
 have bK:=aE a0 a7
 refine R0 5 rfl<|aT (ub (ut I (ut S (ui d (u1 aD bK im)) (ac im (ac im av))) (ac (nr a) (ac (ni q.size r) av))) g) mZ fun dq cA aI=>?_
 have bM:=ud bI (uz a7 aI) G
 refine bg (RC.fld (RC.upd bJ aI (aa (Ne.symm (nb (ak g) lr a)) am) bM)) fun cB=>Rt 6 cB<|re<|tn<|rt<|tr<|bu cA (.int .i64 Z.endC.e)<|?_
 have ds:=ax F (us a6 (us bK aI)) (fun x hx=>(aa (fun e=>(ay (ak R) (le (le (le (le (le (le (le k.size j.size) o.size) f.size) d.size) E.size) z.size) L.size) F) (e▸hx)) (aa (fun e=>(ay (ak C) (le (le (le (le (le (le (le (le t.size k.size) j.size) o.size) f.size) d.size) E.size) z.size) L.size) F) (e▸hx)) (aa (fun e=>(ay (ak g) (le (le (le (le (le (le (le (le (le q.size t.size) k.size) j.size) o.size) f.size) d.size) E.size) z.size) L.size) F) (e▸hx)) am)))) (fun _ _ h=>h)
 rw[hs]
 exact aV aH bM
 have aH:=ae aG
 refine aX<|sg<|?_
 refine L0<|bV (aK a0 (Ne.symm s) cz)<|?_
 refine L0<|aT (ub (ut I (ut S (ui d (u1 aD a0 im)) (ac im (ac im av))) (ac (nr a) (ac (ni q.size r) av))) g) (mG c 0 0 0 0 0 0 0 ((ai.mk b false 0).wordV) 0 0 0 (.slice (some ⟨bE,0,none⟩) 1 1) nS nS nS 0 0 0 0 0 nS) fun dt cC bN=>Pl 1<|nt<|rt<|bu cC (.int .i64 0)<|?_
 rw[hs]
 exact b7 aH ⟨_,_,_,_,_,rfl,((ax F (us a6 (us a0 bN)) (fun x hx=>(aa (fun e=>(ay (ak R) (le (le (le (le (le (le (le k.size j.size) o.size) f.size) d.size) E.size) z.size) L.size) F) (e▸hx)) (aa (fun e=>(ay (ak C) (le (le (le (le (le (le (le (le t.size k.size) j.size) o.size) f.size) d.size) E.size) z.size) L.size) F) (e▸hx)) (aa (fun e=>(ay (ak g) (le (le (le (le (le (le (le (le (le q.size t.size) k.size) j.size) o.size) f.size) d.size) E.size) z.size) L.size) F) (e▸hx)) am)))) (fun _ _ h=>h))).rd,aB.nil ..,(fun _ _ _=>aB.nil ..),aB.nil ..,aB.nil ..,(bL (by omega))⟩ (ud bI bN G)
 have c5:=aq M
 refine sg<|Pl 3<|nt<|c1<|sk<|bn<|tn<|sg<|Pl 1<|?_
 have cE:RC w _ A cp b b6 B (ai.mk b false 0):=⟨hsl,a3,(Nat.le_trans i.size a),⟨0,(ub af C),Nat.zero_le _,rfl⟩,by omega⟩
 refine L0<|Oc<|m2 (dy cE) fun du aJ a8=>nt<|sq<|sg<|Pl 3<|L0<|cY (p:=⟨B,3,none⟩) (v:=.int .i64 (((ai.mk b false 0).endC).e)) (RC.fld aJ)<|Pl 1<|nt<|?_
 have bO:=ud a3 a8 (le i.size a)
 have hs:aj bj 0 c b=aP (aU.mk c 0 0 0 0 0 0 0 0 0 0 0 [] [] [] [] 0 0 0 0 0 []) (ai.mk b false 0):=by
   unfold aj bj dr cU
   (try simp only[H,M,bs,if_true,if_false,decide_true,decide_false,eq_self,true_or,or_true,or_false,false_or,if_true,if_false,cP,cO,cN,cR,reduceIte,ig,ik])
   all_goals rfl
 refine cb (((((ai.mk b false 0).endC).e)!=0)) (fun aM=>?_) (fun aM=>?_)
 have aN:=al aM
 refine sq<|Rg 7 (fun w'=>w'.cell? ⟨B,3,none⟩=some (.int .i64 (((ai.mk b false 0).endC).e))) fun dv a9=>?_
 have bP:=RC.upd aJ a9 am (az.step (RC.u aJ) a9)
 refine bg (RC.fld bP) fun a2=>Rt 0 a2<|Rt 1 a2<|Rt 2 a2<|Rt 3 a2<|Rl 4 a2 (fun _ hs=>hs)<|?_
 refine R0 5 rfl<|aT (ub (ud I (aE a8 a9) a) g) mZ fun dx cF bQ=>?_
 have bR:=ud bO (uz a9 bQ) G
 refine bg (RC.fld (RC.upd bP bQ (aa (Ne.symm (nb (ak g) lr a)) am) bR)) fun cG=>Rt 6 cG<|re<|tn<|rt<|tr<|bu cF (.int .i64 (((ai.mk b false 0).endC).e))<|?_
 rw[hs]
 exact aV aN bR
 have aN:=ae aM
 refine aX<|sg<|?_
 refine L0<|bV (aK a8 (Ne.symm (nb (ak C) lr r)) b8)<|?_
 refine L0<|aT (ub (ud I a8 a) g) (mC c) fun dz cH cI=>Pl 1<|nt<|rt<|bu cH (.int .i64 0)<|?_
 rw[hs]
 exact b7 aN ⟨_,_,_,_,_,rfl,aB.nil ..,aB.nil ..,(fun _ _ _=>aB.nil ..),aB.nil ..,aB.nil ..,(bL (by omega))⟩ (ud bO cI G)
theorem ji{m:Md}{A:Option Addr}{cp:Nat}{b:List Int}{w:World}{c:Int}(hcode:B8 c)(hsl:aQ m w (.slice A b.length cp) b)(hb:b.length≤1048576) :
    Calls Tryz.prog 95 #[.int .i64 1,.int .u8 c,.slice A b.length cp] w (cD (.slice A b.length cp) b (aj bj 1 c b) w):=by
 obtain⟨hcode1,hcode2⟩:=hcode
 have hln:(b.length:Int)≤1048576:=by omega
 refine en 197 Tryz.func95 rfl<|sg<|L0<|bD mZ fun fu fv s i d=>Pl 1<|nt<|sq<|sg<|Pl 6<|nt<|c0<|?_
 refine aX<|sq<|sg<|Pl 3<|cu 3 [24] 27 (((c != 7)&&(c != 8))) (fun K bW=>?_) ?_
 refine bl 24 ((c != 7)) (fun W=>?_) (fun W=>?_)
 have dE:=al W
 exact Pl 3<|ce bW (c != 8) (by rw[W];rfl)
 have dE:=ae W
 exact Pl 3<|ce bW false (by rw[W];rfl)
 refine Pl 1<|cu 3 [28] 31 ((((c != 7)&&(c != 8))&&(c != 11))) (fun K bX=>?_) ?_
 refine bl 28 (((c != 7)&&(c != 8))) (fun X=>?_) (fun X=>?_)
 have dF:=(aO X).1
 have dG:=(aO X).2
 have fw:=al dF
 have fx:=al dG
 exact Pl 3<|ce bX (c != 11) (by rw[X];rfl)
 exact Pl 3<|ce bX false (by rw[X];rfl)
 refine Pl 1<|cu 3 [32] 35 (((((c != 7)&&(c != 8))&&(c != 11))&&(c != 12))) (fun K bY=>?_) ?_
 refine bl 32 ((((c != 7)&&(c != 8))&&(c != 11))) (fun Y=>?_) (fun Y=>?_)
 have bZ:=(aO Y).1
 have dH:=(aO Y).2
 have dI:=(aO bZ).1
 have dJ:=(aO bZ).2
 have q19aap:=al dI
 have q19abp:=al dJ
 have fy:=al dH
 exact Pl 3<|ce bY (c != 12) (by rw[Y];rfl)
 exact Pl 3<|ce bY false (by rw[Y];rfl)
 refine Pl 1<|cu 3 [36] 39 ((((((c != 7)&&(c != 8))&&(c != 11))&&(c != 12))&&(c != 17))) (fun K c1=>?_) ?_
 refine bl 36 (((((c != 7)&&(c != 8))&&(c != 11))&&(c != 12))) (fun Z=>?_) (fun Z=>?_)
 have c2:=(aO Z).1
 have dK:=(aO Z).2
 have c3:=(aO c2).1
 have dL:=(aO c2).2
 have q21aaa:=(aO c3).1
 have q21aab:=(aO c3).2
 have q21aaap:=al q21aaa
 have q21aabp:=al q21aab
 have q21abp:=al dL
 have fz:=al dK
 exact Pl 3<|ce c1 (c != 17) (by rw[Z];rfl)
 exact Pl 3<|ce c1 false (by rw[Z];rfl)
 refine nt<|cb ((((((c != 7)&&(c != 8))&&(c != 11))&&(c != 12))&&(c != 17))) (fun D=>?_) (fun D=>?_)
 have b4:=(aO D).1
 have c4:=(aO D).2
 have b5:=(aO b4).1
 have c5:=(aO b4).2
 have q23aaa:=(aO b5).1
 have q23aab:=(aO b5).2
 have q23aaaa:=(aO q23aaa).1
 have q23aaab:=(aO q23aaa).2
 have q23aaaap:=al q23aaaa
 have q23aaabp:=al q23aaab
 have q23aabp:=al q23aab
 have q23abp:=al c5
 have fA:=al c4
 refine sg<|Pl 1<|L0<|aT i mZ fun fB dM dN=>Pl 1<|nt<|rt<|tr<|bu dM (.int .i64 4)<|?_
 have hs:aj bj 1 c b=(aU.zero,4):=by
   unfold aj bj dr cU
   (try simp only[D,b4,b5,q23aaa,q23aaaa,q23aaab,q23aab,c5,c4,bs,if_true,if_false,decide_true,decide_false,eq_self,true_or,or_true,or_false,false_or,if_true,if_false,cP,cO,cN,cR,reduceIte,ig,ik])
   all_goals rfl
 rw[hs]
 exact bf (ud d dN s)
 refine aX<|sg<|Pl 2<|L0<|dC #[.slice A b.length cp,.int .i64 0,.bool false,.int .i64 0] fun k fC a q g=>Pl 1<|ng<|Pl 2<|L0<|bD mZ fun fD fE f a0 G=>L0<|aT a0 (mC c) fun a1 a2 t=>?_
 refine nt<|sq<|bk<|sg<|Pl 3<|nt<|?_
 have U:=ud G t f
 have y:=aE g U
 have E:=aE d y
 refine cb ((c==8)) (fun H=>?_) (fun H=>?_)
 have dO:=ap H
 refine sg<|Pl 1<|?_
 have dP:RC w _ A cp b a1 k (ai.mk b false 0):=⟨hsl,E,(Nat.le_trans d.size a),⟨0,(ub U q),Nat.zero_le _,rfl⟩,by omega⟩
 refine L0<|Oc<|m3 (ci dP) fun fF dQ r fG=>Pl 1<|?_
 have F:=nb (ak q) lr f
 refine L0<|bC (aK r (Ne.symm F) a2) 8 (mG c 0 0 0 0 0 0 0 ((ai.mk b false 0).wordV) 0 0 0 nS nS nS nS 0 0 0 0 0 nS) fun dR b6 z=>ng<|Pl 1<|L0<|aZ b6 8<|L0<|Oc<|m1 (tN (x:=(ai.mk b false 0).wordV) (w:=dR) (by omega)) fun fH o=>Pl 1<|ng<|Pl 3<|cu 8 [72] 80 (((dw ((ai.mk b false 0).wordV))&&(((ai.mk b false 0).wordV)!=4))) (fun K c6=>?_) ?_
 refine bl 72 ((dw ((ai.mk b false 0).wordV))) (fun b8=>?_) (fun b8=>?_)
 refine Pl 1<|?_
 refine L1<|aZ (ub o b6) 8<|Pl 2<|cu 3 [76] 79 ((((ai.mk b false 0).wordV)!=4)) (fun K c7=>?_) ?_
 refine bl 76 ((((ai.mk b false 0).wordV)!=4)) (fun a3=>?_) (fun a3=>?_)
 have dT:=al a3
 exact Pl 3<|ce c7 true a3
 have dT:=ae a3
 exact Pl 3<|ce c7 false a3
 exact Pl 1<|ce c6 (((ai.mk b false 0).wordV)!=4) (by rw[b8];rfl)
 exact Pl 8<|ce c6 false (by rw[b8];rfl)
 have c8:=aE z o
 have a4:=us r c8
 have c9:=ut E a4 (ac (ni d.size a) (ac (ni (le d.size g.size) f) av))
 refine L0<|Oc<|m2 (aL (((dw ((ai.mk b false 0).wordV))&&(((ai.mk b false 0).wordV)!=4))) 8 (RC.upd dQ c8 (aa F am) c9)) fun fI dU j=>?_
 refine eH dU fun x70 ca a5=>?_
 refine nt<|sq<|sg<|Pl 1<|?_
 have b9:=aK (uz o j) (Ne.symm F) b6
 refine L0<|aZ b9 8<|Pl 1<|nt<|?_
 have cc:=ud c9 j (le d.size a)
 refine cb ((((ai.mk b false 0).wordV)==0)) (fun a6=>?_) (fun a6=>?_)
 have dV:=ap a6
 refine sg<|Pl 1<|L0<|Oc<|m1 (fS a5) fun fJ I=>?_
 have fK:=RC.clen a5
 refine Pl 1<|ng<|Pl 2<|L0<|Oe (.int .i64 (Int.tmod ((x70.l.length:Nat) : Int) 2)) (.int .i64 (((x70.l.length:Nat) : Int)%2)) (congrArg (Value.int .i64) (Int.tmod_eq_emod_of_nonneg (by omega)))<|Pl 2<|cu 3 [91] 94 ((((((x70.l.length:Nat) : Int)%2)==0)&&(decide (2≤((x70.l.length:Nat) : Int))))) (fun K cd=>?_) ?_
 refine bl 91 (((((x70.l.length:Nat) : Int)%2)==0)) (fun a7=>?_) (fun a7=>?_)
 have dW:=ap a7
 exact Pl 3<|ce cd (decide (2≤((x70.l.length:Nat) : Int))) (by rw[a7];rfl)
 have dW:=aq a7
 exact Pl 3<|ce cd false (by rw[a7];rfl)
 refine Pl 1<|cu 3 [95] 98 (((((((x70.l.length:Nat) : Int)%2)==0)&&(decide (2≤((x70.l.length:Nat) : Int))))&&(decide (((x70.l.length:Nat) : Int)≤250)))) (fun K cf=>?_) ?_
 refine bl 95 ((((((x70.l.length:Nat) : Int)%2)==0)&&(decide (2≤((x70.l.length:Nat) : Int))))) (fun a8=>?_) (fun a8=>?_)
 have dX:=(aO a8).1
 have dY:=(aO a8).2
 have fL:=ap dX
 have fM:=of_decide_eq_true dY
 exact Pl 3<|ce cf (decide (((x70.l.length:Nat) : Int)≤250)) (by rw[a8];rfl)
 exact Pl 3<|ce cf false (by rw[a8];rfl)
 refine L0<|Oc<|m2 (aL (((((((x70.l.length:Nat) : Int)%2)==0)&&(decide (2≤((x70.l.length:Nat) : Int))))&&(decide (((x70.l.length:Nat) : Int)≤250)))) 5 (RC.upd a5 I am (az.step (RC.u a5) I))) fun fN dZ R=>?_
 refine eH dZ fun x88 e0 e1=>?_
 refine ng<|Pl 2<|L0<|Oe (.int .i64 (IntKind.i64.wrap (Int.tdiv ((x70.l.length:Nat) : Int) 2))) (.int .i64 (((x70.l.length:Nat) : Int)/2)) (congrArg (Value.int .i64) (eO (by omega) (by omega)))<|L0<|Oc<|jc (eQ (n:=(((x70.l.length:Nat) : Int)/2)) (by omega) e1) fun cg ch fO N fP fQ e2 e3=>Pl 1<|?_
 have cj:=uz I (u1 R e3 im)
 refine L0<|bC (aK cj (Ne.symm F) b9) 12 (mG c 0 0 0 0 0 0 0 ((ai.mk b false 0).wordV) 0 0 0 (.slice cg ((x88.wordsR (((x70.l.length:Nat) : Int)/2)).length) ch) nS nS nS 0 0 0 0 0 nS) fun fR e4 aH=>nt<|xt<|tx<|bx<|tn<|sg<|Pl 1<|?_
 have ba:=us cj aH
 have ck:=ut cc ba (ac (ni d.size a) (ac (ni (le d.size g.size) f) av))
 refine L0<|Oc<|m2 (dy (RC.upd e2 aH (aa F am) ck)) fun fT bb a9=>nt<|sq<|sg<|Pl 3<|L0<|cY (p:=⟨k,3,none⟩) (v:=.int .i64 (((x88.wordsC (((x70.l.length:Nat) : Int)/2)).endC).e)) (RC.fld bb)<|Pl 1<|nt<|?_
 have cl:=ud ck a9 (le d.size a)
 have hs:aj bj 1 c b=aP (aU.mk c 0 0 0 0 0 0 0 ((ai.mk b false 0).wordV) 0 0 0 (x88.wordsR (((x70.l.length:Nat) : Int)/2)) [] [] [] 0 0 0 0 0 []) (x88.wordsC (((x70.l.length:Nat) : Int)/2)):=by
   subst e0 ca
   unfold aj bj dr cU
   (try simp only[D,H,a6,bs,if_true,if_false,decide_true,decide_false,eq_self,true_or,or_true,or_false,false_or,if_true,if_false,cP,cO,cN,cR,reduceIte,ig,ik])
   all_goals rfl
 refine cb (((((x88.wordsC (((x70.l.length:Nat) : Int)/2)).endC).e)!=0)) (fun bc=>?_) (fun bc=>?_)
 have bd:=al bc
 refine sq<|Rg 7 (fun w'=>w'.cell? ⟨k,3,none⟩=some (.int .i64 (((x88.wordsC (((x70.l.length:Nat) : Int)/2)).endC).e))) fun fU aI=>?_
 have cm:=RC.upd bb aI am (az.step (RC.u bb) aI)
 refine bg (RC.fld cm) fun ab=>Rt 0 ab<|Rt 1 ab<|Rt 2 ab<|Rt 3 ab<|Rl 4 ab (fun _ hs=>hs)<|?_
 have cn:=aE a9 aI
 refine R0 5 rfl<|aT (ub (ut y (ut a4 (ui j (u1 ba cn im)) (ac im (ac im av))) (ac (nr a) (ac (ni g.size f) av))) i) mZ fun fV e5 be=>?_
 have co:=ud cl (uz aI be) s
 refine bg (RC.fld (RC.upd cm be (aa (Ne.symm (nb (ak i) lr a)) am) co)) fun e6=>Rt 6 e6<|re<|tn<|rt<|tr<|bu e5 (.int .i64 (((x88.wordsC (((x70.l.length:Nat) : Int)/2)).endC).e))<|?_
 have fW:=ax N (us aH (us cn be)) (fun x hx=>(aa (fun e=>(ay (ak a0) (le (le (le (le (le (le t.size r.size) z.size) o.size) j.size) I.size) R.size) N) (e▸hx)) (aa (fun e=>(ay (ak q) (le (le (le (le (le (le (le G.size t.size) r.size) z.size) o.size) j.size) I.size) R.size) N) (e▸hx)) (aa (fun e=>(ay (ak i) (le (le (le (le (le (le (le (le g.size G.size) t.size) r.size) z.size) o.size) j.size) I.size) R.size) N) (e▸hx)) am)))) (fun _ _ h=>h)
 rw[hs]
 exact aV bd co
 have bd:=ae bc
 refine aX<|sg<|?_
 refine L0<|bV (aK a9 (Ne.symm F) e4)<|?_
 refine L0<|aT (ub (ut y (ut a4 (ui j (u1 ba a9 im)) (ac im (ac im av))) (ac (nr a) (ac (ni g.size f) av))) i) (mG c 0 0 0 0 0 0 0 ((ai.mk b false 0).wordV) 0 0 0 (.slice cg ((x88.wordsR (((x70.l.length:Nat) : Int)/2)).length) ch) nS nS nS 0 0 0 0 0 nS) fun fX e7 cq=>Pl 1<|nt<|rt<|bu e7 (.int .i64 0)<|?_
 rw[hs]
 exact b7 bd ⟨_,_,_,_,_,rfl,((ax N (us aH (us a9 cq)) (fun x hx=>(aa (fun e=>(ay (ak a0) (le (le (le (le (le (le t.size r.size) z.size) o.size) j.size) I.size) R.size) N) (e▸hx)) (aa (fun e=>(ay (ak q) (le (le (le (le (le (le (le G.size t.size) r.size) z.size) o.size) j.size) I.size) R.size) N) (e▸hx)) (aa (fun e=>(ay (ak i) (le (le (le (le (le (le (le (le g.size G.size) t.size) r.size) z.size) o.size) j.size) I.size) R.size) N) (e▸hx)) am)))) (fun _ _ h=>h))).rd,aB.nil ..,(fun _ _ _=>aB.nil ..),aB.nil ..,aB.nil ..,(bL (by omega))⟩ (ud cl cq s)
 have dV:=aq a6
 refine aX<|sg<|Pl 1<|L0<|Oc<|m3 (ci a5) fun e8 cr O fY=>Pl 1<|ng<|Pl 3<|?_
 have cs:=aK O (Ne.symm F) b9
 refine L0<|aZ cs 8<|Pl 1<|L0<|Oc<|m1 (tV (dir:=1) (sub:=(ai.mk b false 0).wordV) (v:=x70.wordV) (w:=e8) (by omega)) fun fZ J=>?_
 refine L0<|Oc<|m2 (aL ((eg 1 ((ai.mk b false 0).wordV) x70.wordV)) 6 (RC.upd cr J am (az.step (RC.u cr) J))) fun g0 e9 S=>?_
 refine eH e9 fun ad ea eb=>?_
 refine nt<|go<|Pl 1<|L0<|gA (m:=1) (e:=24) #[.int .u16 x70.wordV] fun ct g1 ec ed cv=>?_
 have P:=rj ec (xs:=[x70.wordV]) (by as_aux_lemma=>kernel_rfl) (aR (by omega) dS) (by(try simp only[List.length_cons,List.length_nil]);omega) ed
 refine Pl 1<|?_
 have cw:=uz J (aE S cv)
 refine L0<|bC (aK cw (Ne.symm F) cs) 12 (mG c 0 0 0 0 0 0 0 ((ai.mk b false 0).wordV) 0 0 0 (.slice (some ⟨ct,0,none⟩) 1 1) nS nS nS 0 0 0 0 0 nS) fun g2 ee aJ=>nl<|bn<|tn<|sg<|Pl 1<|?_
 have bh:=ui O (us cw aJ)
 have cx:=ut cc bh (ac (ni d.size a) (ac (ni (le d.size g.size) f) av))
 refine L0<|Oc<|m2 (dy (RC.upd eb (uz cv aJ) (aa F am) cx)) fun g3 bi af=>nt<|sq<|sg<|Pl 3<|L0<|cY (p:=⟨k,3,none⟩) (v:=.int .i64 ad.endC.e) (RC.fld bi)<|Pl 1<|nt<|?_
 have cy:=ud cx af (le d.size a)
 have hs:aj bj 1 c b=aP (aU.mk c 0 0 0 0 0 0 0 ((ai.mk b false 0).wordV) 0 0 0 [x70.wordV] [] [] [] 0 0 0 0 0 []) ad:=by
   subst ea ca
   unfold aj bj dr cU
   (try simp only[D,H,a6,bs,if_true,if_false,decide_true,decide_false,eq_self,true_or,or_true,or_false,false_or,if_true,if_false,cP,cO,cN,cR,reduceIte,ig,ik])
   all_goals rfl
 refine cb ((ad.endC.e != 0)) (fun bm=>?_) (fun bm=>?_)
 have bo:=al bm
 refine sq<|Rg 7 (fun w'=>w'.cell? ⟨k,3,none⟩=some (.int .i64 ad.endC.e)) fun g4 aM=>?_
 have cz:=RC.upd bi aM am (az.step (RC.u bi) aM)
 refine bg (RC.fld cz) fun ag=>Rt 0 ag<|Rt 1 ag<|Rt 2 ag<|Rt 3 ag<|Rl 4 ag (fun _ hs=>hs)<|?_
 have cA:=aE af aM
 refine R0 5 rfl<|aT (ub (ut y (ut a4 (ui j (u1 bh cA im)) (ac im (ac im av))) (ac (nr a) (ac (ni g.size f) av))) i) mZ fun g5 ef bp=>?_
 have cB:=ud cy (uz aM bp) s
 refine bg (RC.fld (RC.upd cz bp (aa (Ne.symm (nb (ak i) lr a)) am) cB)) fun eh=>Rt 6 eh<|re<|tn<|rt<|tr<|bu ef (.int .i64 ad.endC.e)<|?_
 have g6:=ax P (us aJ (us cA bp)) (fun x hx=>(aa (fun e=>(ay (ak a0) (le (le (le (le (le (le (le t.size r.size) z.size) o.size) j.size) O.size) J.size) S.size) P) (e▸hx)) (aa (fun e=>(ay (ak q) (le (le (le (le (le (le (le (le G.size t.size) r.size) z.size) o.size) j.size) O.size) J.size) S.size) P) (e▸hx)) (aa (fun e=>(ay (ak i) (le (le (le (le (le (le (le (le (le g.size G.size) t.size) r.size) z.size) o.size) j.size) O.size) J.size) S.size) P) (e▸hx)) am)))) (fun _ _ h=>h)
 rw[hs]
 exact aV bo cB
 have bo:=ae bm
 refine aX<|sg<|?_
 refine L0<|bV (aK af (Ne.symm F) ee)<|?_
 refine L0<|aT (ub (ut y (ut a4 (ui j (u1 bh af im)) (ac im (ac im av))) (ac (nr a) (ac (ni g.size f) av))) i) (mG c 0 0 0 0 0 0 0 ((ai.mk b false 0).wordV) 0 0 0 (.slice (some ⟨ct,0,none⟩) 1 1) nS nS nS 0 0 0 0 0 nS) fun g7 ei cC=>Pl 1<|nt<|rt<|bu ei (.int .i64 0)<|?_
 rw[hs]
 exact b7 bo ⟨_,_,_,_,_,rfl,((ax P (us aJ (us af cC)) (fun x hx=>(aa (fun e=>(ay (ak a0) (le (le (le (le (le (le (le t.size r.size) z.size) o.size) j.size) O.size) J.size) S.size) P) (e▸hx)) (aa (fun e=>(ay (ak q) (le (le (le (le (le (le (le (le G.size t.size) r.size) z.size) o.size) j.size) O.size) J.size) S.size) P) (e▸hx)) (aa (fun e=>(ay (ak i) (le (le (le (le (le (le (le (le (le g.size G.size) t.size) r.size) z.size) o.size) j.size) O.size) J.size) S.size) P) (e▸hx)) am)))) (fun _ _ h=>h))).rd,aB.nil ..,(fun _ _ _=>aB.nil ..),aB.nil ..,aB.nil ..,(bL (by omega))⟩ (ud cy cC s)
 have dO:=aq H
 refine sg<|Pl 3<|nt<|c0<|sg<|Pl 3<|nt<|cb ((c==7)) (fun T=>?_) (fun T=>?_)
 have ej:=ap T
 refine go<|Pl 1<|?_
 have ek:RC w _ A cp b a1 k (ai.mk b false 0):=⟨hsl,E,(Nat.le_trans d.size a),⟨0,(ub U q),Nat.zero_le _,rfl⟩,by omega⟩
 refine L0<|Oc<|m3 (de ek) fun g8 el cE g9=>L0<|td ((ai.mk b false 0).byteV)<|Pl 1<|?_
 have bq:=nb (ak q) lr f
 refine L0<|bC (aK cE (Ne.symm bq) a2) 4 (mG c 0 0 0 ((ai.mk b false 0).byteV) 0 0 0 0 0 0 0 nS nS nS nS 0 0 0 0 0 nS) fun ga em cF=>nl<|bn<|tn<|sg<|Pl 1<|?_
 have br:=us cE cF
 have cG:=ut E br (ac (ni d.size a) (ac (ni (le d.size g.size) f) av))
 refine L0<|Oc<|m2 (dy (RC.upd el cF (aa bq am) cG)) fun gb bt aN=>nt<|sq<|sg<|Pl 3<|L0<|cY (p:=⟨k,3,none⟩) (v:=.int .i64 ((((ai.mk b false 0).bytesC 1).endC).e)) (RC.fld bt)<|Pl 1<|nt<|?_
 have cH:=ud cG aN (le d.size a)
 have hs:aj bj 1 c b=aP (aU.mk c 0 0 0 ((ai.mk b false 0).byteV) 0 0 0 0 0 0 0 [] [] [] [] 0 0 0 0 0 []) ((ai.mk b false 0).bytesC 1):=by
   unfold aj bj dr cU
   (try simp only[D,H,T,bs,if_true,if_false,decide_true,decide_false,eq_self,true_or,or_true,or_false,false_or,if_true,if_false,cP,cO,cN,cR,reduceIte,ig,ik])
   all_goals rfl
 refine cb ((((((ai.mk b false 0).bytesC 1).endC).e)!=0)) (fun bv=>?_) (fun bv=>?_)
 have bw:=al bv
 refine sq<|Rg 7 (fun w'=>w'.cell? ⟨k,3,none⟩=some (.int .i64 ((((ai.mk b false 0).bytesC 1).endC).e))) fun gc aS=>?_
 have cI:=RC.upd bt aS am (az.step (RC.u bt) aS)
 refine bg (RC.fld cI) fun ah=>Rt 0 ah<|Rt 1 ah<|Rt 2 ah<|Rt 3 ah<|Rl 4 ah (fun _ hs=>hs)<|?_
 refine R0 5 rfl<|aT (ub (ut y (u1 br (aE aN aS) im) (ac (nr a) (ac (ni g.size f) av))) i) mZ fun gd eo cJ=>?_
 have cK:=ud cH (uz aS cJ) s
 refine bg (RC.fld (RC.upd cI cJ (aa (Ne.symm (nb (ak i) lr a)) am) cK)) fun ep=>Rt 6 ep<|re<|tn<|rt<|tr<|bu eo (.int .i64 ((((ai.mk b false 0).bytesC 1).endC).e))<|?_
 rw[hs]
 exact aV bw cK
 have bw:=ae bv
 refine aX<|sg<|?_
 refine L0<|bV (aK aN (Ne.symm bq) em)<|?_
 refine L0<|aT (ub (ut y (u1 br aN im) (ac (nr a) (ac (ni g.size f) av))) i) (mG c 0 0 0 ((ai.mk b false 0).byteV) 0 0 0 0 0 0 0 nS nS nS nS 0 0 0 0 0 nS) fun ge eq er=>Pl 1<|nt<|rt<|bu eq (.int .i64 0)<|?_
 rw[hs]
 exact b7 bw ⟨_,_,_,_,_,rfl,aB.nil ..,aB.nil ..,(fun _ _ _=>aB.nil ..),aB.nil ..,aB.nil ..,(bL (by omega))⟩ (ud cH er s)
 have ej:=aq T
 refine sg<|Pl 3<|nt<|cb ((c==11)) (fun V=>?_) (fun V=>?_)
 have es:=ap V
 refine sg<|Pl 1<|?_
 have et:RC w _ A cp b a1 k (ai.mk b false 0):=⟨hsl,E,(Nat.le_trans d.size a),⟨0,(ub U q),Nat.zero_le _,rfl⟩,by omega⟩
 refine L0<|Oc<|m3 (ci et) fun gf eu cL gg=>Pl 1<|?_
 have an:=nb (ak q) lr f
 refine L0<|bC (aK cL (Ne.symm an) a2) 9 (mG c 0 0 0 0 0 0 0 0 ((ai.mk b false 0).wordV) 0 0 nS nS nS nS 0 0 0 0 0 nS) fun gh bz cM=>ng<|Pl 2<|L0<|aZ bz 9<|Pl 2<|cu 4 [137] 141 (((((ai.mk b false 0).wordV)==0)||(((ai.mk b false 0).wordV)==65535))) (fun K cQ=>?_) ?_
 refine bl 137 ((((ai.mk b false 0).wordV)==0)) (fun ao=>?_) (fun ao=>?_)
 have ev:=ap ao
 exact Pl 4<|ce cQ true (by rw[ao];rfl)
 have ev:=aq ao
 exact Pl 1<|L1<|aZ bz 9<|Pl 2<|ce cQ (((ai.mk b false 0).wordV)==65535) (by rw[ao];rfl)
 have bA:=us cL cM
 have cS:=ut E bA (ac (ni d.size a) (ac (ni (le d.size g.size) f) av))
 refine L0<|Oc<|m2 (aL (((((ai.mk b false 0).wordV)==0)||(((ai.mk b false 0).wordV)==65535))) 6 (RC.upd eu cM (aa an am) cS)) fun gi ex ey=>?_
 refine eH ex fun Q ez eA=>?_
 refine nt<|go<|Pl 1<|L0<|Oc<|m3 (ci eA) fun gj eB eC gk=>Pl 1<|?_
 have cT:=u1 ey eC im
 refine L0<|bC (aK cT (Ne.symm an) bz) 10 (mG c 0 0 0 0 0 0 0 0 ((ai.mk b false 0).wordV) Q.wordV 0 nS nS nS nS 0 0 0 0 0 nS) fun gl eD cV=>nl<|bn<|tn<|sg<|Pl 1<|?_
 have bB:=us cT cV
 have cW:=ut cS bB (ac (ni d.size a) (ac (ni (le d.size g.size) f) av))
 refine L0<|Oc<|m2 (dy (RC.upd eB cV (aa an am) cW)) fun gm bE aW=>nt<|sq<|sg<|Pl 3<|L0<|cY (p:=⟨k,3,none⟩) (v:=.int .i64 (((Q.wordsC 1).endC).e)) (RC.fld bE)<|Pl 1<|nt<|?_
 have cX:=ud cW aW (le d.size a)
 have hs:aj bj 1 c b=aP (aU.mk c 0 0 0 0 0 0 0 0 ((ai.mk b false 0).wordV) Q.wordV 0 [] [] [] [] 0 0 0 0 0 []) (Q.wordsC 1):=by
   subst ez
   unfold aj bj dr cU
   (try simp only[D,H,T,V,bs,if_true,if_false,decide_true,decide_false,eq_self,true_or,or_true,or_false,false_or,if_true,if_false,cP,cO,cN,cR,reduceIte,ig,ik])
   all_goals rfl
 refine cb (((((Q.wordsC 1).endC).e)!=0)) (fun bF=>?_) (fun bF=>?_)
 have bG:=al bF
 refine sq<|Rg 7 (fun w'=>w'.cell? ⟨k,3,none⟩=some (.int .i64 (((Q.wordsC 1).endC).e))) fun gn aY=>?_
 have cZ:=RC.upd bE aY am (az.step (RC.u bE) aY)
 refine bg (RC.fld cZ) fun ar=>Rt 0 ar<|Rt 1 ar<|Rt 2 ar<|Rt 3 ar<|Rl 4 ar (fun _ hs=>hs)<|?_
 refine R0 5 rfl<|aT (ub (ut y (ut bA (u1 bB (aE aW aY) im) (ac im (ac im av))) (ac (nr a) (ac (ni g.size f) av))) i) mZ fun gp eE d0=>?_
 have d1:=ud cX (uz aY d0) s
 refine bg (RC.fld (RC.upd cZ d0 (aa (Ne.symm (nb (ak i) lr a)) am) d1)) fun eF=>Rt 6 eF<|re<|tn<|rt<|tr<|bu eE (.int .i64 (((Q.wordsC 1).endC).e))<|?_
 rw[hs]
 exact aV bG d1
 have bG:=ae bF
 refine aX<|sg<|?_
 refine L0<|bV (aK aW (Ne.symm an) eD)<|?_
 refine L0<|aT (ub (ut y (ut bA (u1 bB aW im) (ac im (ac im av))) (ac (nr a) (ac (ni g.size f) av))) i) (mG c 0 0 0 0 0 0 0 0 ((ai.mk b false 0).wordV) Q.wordV 0 nS nS nS nS 0 0 0 0 0 nS) fun gq eG eI=>Pl 1<|nt<|rt<|bu eG (.int .i64 0)<|?_
 rw[hs]
 exact b7 bG ⟨_,_,_,_,_,rfl,aB.nil ..,aB.nil ..,(fun _ _ _=>aB.nil ..),aB.nil ..,aB.nil ..,(bL (by omega))⟩ (ud cX eI s)
 have es:=aq V
 refine sg<|Pl 3<|nt<|cb ((c==12)) (fun au=>?_) (fun au=>?_)
 have eJ:=ap au
 refine sg<|Pl 1<|?_
 have eK:RC w _ A cp b a1 k (ai.mk b false 0):=⟨hsl,E,(Nat.le_trans d.size a),⟨0,(ub U q),Nat.zero_le _,rfl⟩,by omega⟩
 refine L0<|Oc<|m3 (de eK) fun gr eL eM gs=>L0<|Oi ((ai.mk b false 0).byteV)<|Pl 1<|ng<|Pl 4<|cu 3 [155] 158 (((decide (6≤((ai.mk b false 0).byteV)))&&(decide (((ai.mk b false 0).byteV)≤70)))) (fun K d2=>?_) ?_
 refine bl 155 ((decide (6≤((ai.mk b false 0).byteV)))) (fun aw=>?_) (fun aw=>?_)
 have eN:=of_decide_eq_true aw
 exact Pl 3<|ce d2 (decide (((ai.mk b false 0).byteV)≤70)) (by rw[aw];rfl)
 have eN:=of_decide_eq_false aw
 exact Pl 3<|ce d2 false (by rw[aw];rfl)
 refine L0<|Oc<|m2 (aL (((decide (6≤((ai.mk b false 0).byteV)))&&(decide (((ai.mk b false 0).byteV)≤70)))) 5 eL) fun gt eP eR=>?_
 refine eH eP fun C eS eT=>?_
 refine ng<|Pl 1<|L0<|Oc<|m3 (ci eT) fun gu eU eV gv=>Pl 1<|?_
 have d3:=u1 eM (u1 eR eV im) im
 have L:=nb (ak q) lr f
 refine L0<|bC (aK d3 (Ne.symm L) a2) 9 (mG c 0 0 0 0 0 0 0 0 C.wordV 0 0 nS nS nS nS 0 0 0 0 0 nS) fun gw bH d4=>ng<|Pl 2<|L0<|aZ bH 9<|Pl 2<|cu 4 [167] 171 (((C.wordV==0)||(C.wordV==65535))) (fun K d5=>?_) ?_
 refine bl 167 ((C.wordV==0)) (fun aA=>?_) (fun aA=>?_)
 have eW:=ap aA
 exact Pl 4<|ce d5 true (by rw[aA];rfl)
 have eW:=aq aA
 exact Pl 1<|L1<|aZ bH 9<|Pl 2<|ce d5 (C.wordV==65535) (by rw[aA];rfl)
 have bI:=us d3 d4
 have d6:=ut E bI (ac (ni d.size a) (ac (ni (le d.size g.size) f) av))
 refine L0<|Oc<|m2 (aL (((C.wordV==0)||(C.wordV==65535))) 6 (RC.upd eU d4 (aa L am) d6)) fun gx eX eY=>?_
 refine eH eX fun B eZ f0=>?_
 refine ng<|Pl 1<|L0<|Oc<|m3 (ci f0) fun gy f1 f2 gz=>Pl 1<|?_
 have d7:=u1 eY f2 im
 refine L0<|bC (aK d7 (Ne.symm L) bH) 10 (mG c 0 0 0 0 0 0 0 0 C.wordV B.wordV 0 nS nS nS nS 0 0 0 0 0 nS) fun gB f3 d8=>ng<|Pl 1<|?_
 have bJ:=us d7 d8
 have d9:=ut d6 bJ (ac (ni d.size a) (ac (ni (le d.size g.size) f) av))
 refine L0<|Oc<|m3 (ci (RC.upd f1 d8 (aa L am) d9)) fun gC f4 da gD=>Pl 1<|?_
 refine L0<|bC (aK da (Ne.symm L) f3) 11 (mG c 0 0 0 0 0 0 0 0 C.wordV B.wordV ((B.wordsC 1).wordV) nS nS nS nS 0 0 0 0 0 nS) fun gE f5 db=>nt<|go<|Pl 2<|L0<|Oi (((ai.mk b false 0).byteV)-6)<|?_
 have bK:=us da db
 have dc:=ut d9 bK (ac (ni d.size a) (ac (ni (le d.size g.size) f) av))
 have dd:=RC.upd f4 db (aa L am) dc
 refine L0<|Oc<|m7 (ew (n:=(((ai.mk b false 0).byteV)-6)) (by omega) dd) fun df dg gF f6 f7 dh=>?_
 have gG:=Nat.le_trans (ai.bytesR_le ((B.wordsC 1).wordsC 1) (((ai.mk b false 0).byteV)-6)) (RC.clen dd)
 refine eH f7 fun aC f8 f9=>?_
 refine Pl 1<|?_
 refine L0<|bC (aK dh (Ne.symm L) f5) 14 (mG c 0 0 0 0 0 0 0 0 C.wordV B.wordV ((B.wordsC 1).wordV) nS nS (.slice df ((((B.wordsC 1).wordsC 1).bytesR (((ai.mk b false 0).byteV)-6)).length) dg) nS 0 0 0 0 0 nS) fun gH fa di=>nl<|bn<|tn<|sg<|Pl 1<|?_
 have bM:=us dh di
 have dj:=ut dc bM (ac (ni d.size a) (ac (ni (le d.size g.size) f) av))
 refine L0<|Oc<|m2 (dy (RC.upd f9 di (aa L am) dj)) fun gI bN b0=>nt<|sq<|sg<|Pl 3<|L0<|cY (p:=⟨k,3,none⟩) (v:=.int .i64 aC.endC.e) (RC.fld bN)<|Pl 1<|nt<|?_
 have dk:=ud dj b0 (le d.size a)
 have hs:aj bj 1 c b=aP (aU.mk c 0 0 0 0 0 0 0 0 C.wordV B.wordV ((B.wordsC 1).wordV) [] [] (((B.wordsC 1).wordsC 1).bytesR (((ai.mk b false 0).byteV)-6)) [] 0 0 0 0 0 []) aC:=by
   subst f8 eZ eS
   unfold aj bj dr cU
   (try simp only[D,H,T,V,au,bs,if_true,if_false,decide_true,decide_false,eq_self,true_or,or_true,or_false,false_or,if_true,if_false,cP,cO,cN,cR,reduceIte,ig,ik])
   all_goals rfl
 refine cb ((aC.endC.e != 0)) (fun bO=>?_) (fun bO=>?_)
 have bP:=al bO
 refine sq<|Rg 7 (fun w'=>w'.cell? ⟨k,3,none⟩=some (.int .i64 aC.endC.e)) fun gJ b1=>?_
 have dl:=RC.upd bN b1 am (az.step (RC.u bN) b1)
 refine bg (RC.fld dl) fun aD=>Rt 0 aD<|Rt 1 aD<|Rt 2 aD<|Rt 3 aD<|Rl 4 aD (fun _ hs=>hs)<|?_
 refine R0 5 rfl<|aT (ub (ut y (ut bI (ut bJ (ut bK (u1 bM (aE b0 b1) im) (ac im (ac im av))) (ac im (ac im av))) (ac im (ac im av))) (ac (nr a) (ac (ni g.size f) av))) i) mZ fun gK fb dm=>?_
 have dn:=ud dk (uz b1 dm) s
 refine bg (RC.fld (RC.upd dl dm (aa (Ne.symm (nb (ak i) lr a)) am) dn)) fun fc=>Rt 6 fc<|re<|tn<|rt<|tr<|bu fb (.int .i64 aC.endC.e)<|?_
 rw[hs]
 exact aV bP dn
 have bP:=ae bO
 refine aX<|sg<|?_
 refine L0<|bV (aK b0 (Ne.symm L) fa)<|?_
 refine L0<|aT (ub (ut y (ut bI (ut bJ (ut bK (u1 bM b0 im) (ac im (ac im av))) (ac im (ac im av))) (ac im (ac im av))) (ac (nr a) (ac (ni g.size f) av))) i) (mG c 0 0 0 0 0 0 0 0 C.wordV B.wordV ((B.wordsC 1).wordV) nS nS (.slice df ((((B.wordsC 1).wordsC 1).bytesR (((ai.mk b false 0).byteV)-6)).length) dg) nS 0 0 0 0 0 nS) fun gL fd fe=>Pl 1<|nt<|rt<|bu fd (.int .i64 0)<|?_
 rw[hs]
 exact b7 bP ⟨_,_,_,_,_,rfl,aB.nil ..,aB.nil ..,f6,aB.nil ..,aB.nil ..,(bL (by omega))⟩ (ud dk fe s)
 have eJ:=aq au
 refine sg<|Pl 1<|?_
 have ff:RC w _ A cp b a1 k (ai.mk b false 0):=⟨hsl,E,(Nat.le_trans d.size a),⟨0,(ub U q),Nat.zero_le _,rfl⟩,by omega⟩
 refine L0<|Oc<|m3 (de ff) fun gM fg fh gN=>L0<|Oi ((ai.mk b false 0).byteV)<|Pl 1<|ng<|Pl 4<|cu 3 [52] 55 (((decide (1≤((ai.mk b false 0).byteV)))&&(decide (((ai.mk b false 0).byteV)≤251)))) (fun K dp=>?_) ?_
 refine bl 52 ((decide (1≤((ai.mk b false 0).byteV)))) (fun aF=>?_) (fun aF=>?_)
 have fi:=of_decide_eq_true aF
 exact Pl 3<|ce dp (decide (((ai.mk b false 0).byteV)≤251)) (by rw[aF];rfl)
 have fi:=of_decide_eq_false aF
 exact Pl 3<|ce dp false (by rw[aF];rfl)
 refine L0<|Oc<|m2 (aL (((decide (1≤((ai.mk b false 0).byteV)))&&(decide (((ai.mk b false 0).byteV)≤251)))) 5 fg) fun gO fj fk=>?_
 refine eH fj fun M fl dq=>?_
 refine nt<|go<|Pl 2<|L0<|Oc<|m7 (ew (n:=(ai.mk b false 0).byteV) (by omega) dq) fun ds dt gP fm fn fo=>?_
 have gQ:=Nat.le_trans (ai.bytesR_le M ((ai.mk b false 0).byteV)) (RC.clen dq)
 refine Pl 1<|?_
 have du:=u1 fh (u1 fk fo im) im
 have bQ:=nb (ak q) lr f
 refine L0<|bC (aK du (Ne.symm bQ) a2) 14 (mG c 0 0 0 0 0 0 0 0 0 0 0 nS nS (.slice ds ((M.bytesR ((ai.mk b false 0).byteV)).length) dt) nS 0 0 0 0 0 nS) fun gR fp dv=>nl<|bn<|tn<|sg<|Pl 1<|?_
 have bR:=us du dv
 have dx:=ut E bR (ac (ni d.size a) (ac (ni (le d.size g.size) f) av))
 refine L0<|Oc<|m2 (dy (RC.upd fn dv (aa bQ am) dx)) fun gS bS b2=>nt<|sq<|sg<|Pl 3<|L0<|cY (p:=⟨k,3,none⟩) (v:=.int .i64 (((M.bytesC ((ai.mk b false 0).byteV)).endC).e)) (RC.fld bS)<|Pl 1<|nt<|?_
 have dz:=ud dx b2 (le d.size a)
 have hs:aj bj 1 c b=aP (aU.mk c 0 0 0 0 0 0 0 0 0 0 0 [] [] (M.bytesR ((ai.mk b false 0).byteV)) [] 0 0 0 0 0 []) (M.bytesC ((ai.mk b false 0).byteV)):=by
   subst fl
   unfold aj bj dr cU
   (try simp only[D,H,T,V,au,bs,if_true,if_false,decide_true,decide_false,eq_self,true_or,or_true,or_false,false_or,if_true,if_false,cP,cO,cN,cR,reduceIte,ig,ik])
   all_goals rfl
 refine cb (((((M.bytesC ((ai.mk b false 0).byteV)).endC).e)!=0)) (fun bT=>?_) (fun bT=>?_)
 have bU:=al bT
 refine sq<|Rg 7 (fun w'=>w'.cell? ⟨k,3,none⟩=some (.int .i64 (((M.bytesC ((ai.mk b false 0).byteV)).endC).e))) fun gT b3=>?_
 have dA:=RC.upd bS b3 am (az.step (RC.u bS) b3)
 refine bg (RC.fld dA) fun aG=>Rt 0 aG<|Rt 1 aG<|Rt 2 aG<|Rt 3 aG<|Rl 4 aG (fun _ hs=>hs)<|?_
 refine R0 5 rfl<|aT (ub (ut y (u1 bR (aE b2 b3) im) (ac (nr a) (ac (ni g.size f) av))) i) mZ fun gU fq dB=>?_
 have dD:=ud dz (uz b3 dB) s
 refine bg (RC.fld (RC.upd dA dB (aa (Ne.symm (nb (ak i) lr a)) am) dD)) fun fr=>Rt 6 fr<|re<|tn<|rt<|tr<|bu fq (.int .i64 (((M.bytesC ((ai.mk b false 0).byteV)).endC).e))<|?_
 rw[hs]
 exact aV bU dD
 have bU:=ae bT
 refine aX<|sg<|?_
 refine L0<|bV (aK b2 (Ne.symm bQ) fp)<|?_
 refine L0<|aT (ub (ut y (u1 bR b2 im) (ac (nr a) (ac (ni g.size f) av))) i) (mG c 0 0 0 0 0 0 0 0 0 0 0 nS nS (.slice ds ((M.bytesR ((ai.mk b false 0).byteV)).length) dt) nS 0 0 0 0 0 nS) fun gV fs ft=>Pl 1<|nt<|rt<|bu fs (.int .i64 0)<|?_
 rw[hs]
 exact b7 bU ⟨_,_,_,_,_,rfl,aB.nil ..,aB.nil ..,fm,aB.nil ..,aB.nil ..,(bL (by omega))⟩ (ud dz ft s)
theorem jv{m:Md}{A:Option Addr}{cp:Nat}{b:List Int}{w:World}{dir c:Int}(hcode:B8 c)(hsl:aQ m w (.slice A b.length cp) b)(hb:b.length≤1048576)(hd:¬ (dir=0∨dir=1)) :
    Calls Tryz.prog 95 #[.int .i64 dir,.int .u8 c,.slice A b.length cp] w (cD (.slice A b.length cp) b (aj bj dir c b) w):=by
 obtain⟨hcode1,hcode2⟩:=hcode
 have hln:(b.length:Int)≤1048576:=by omega
 have e0:(dir != 0)=true:=by simp;omega
 have e1:(dir != 1)=true:=by simp;omega
 refine en 197 Tryz.func95 rfl<|sg<|L0<|bD mZ fun g h a d e=>Pl 1<|nt<|sq<|sg<|Pl 3<|sy 17 e0<|Pl 3<|nl<|?_
 refine tn<|ct e1<|sg<|Pl 1<|L0<|aT d mZ fun i dF f=>Pl 1<|nt<|rt<|tr<|bu dF (.int .i64 1)<|?_
 have hs:aj bj dir c b=(aU.zero,1):=by
   unfold aj bj dr cU
   (try simp only[e0,e1,bs,if_true,if_false,decide_true,decide_false,eq_self,true_or,or_true,or_false,false_or,if_true,if_false,cP,cO,cN,cR,reduceIte,hd,ig,ik])
   all_goals rfl
 rw[hs]
 exact bf (ud e f a)
open Go.RowKit
theorem dn{C:ai}{ok:Bool}{x:Int}(h:C.e≠0) : C.need ok x=C:=by
  unfold ai.need
  rw[if_neg fun k=>h k.1]
theorem dW{C:ai}{n:Int}(h:C.fails n=true) : (C.bytesC n).e≠0:=by
  unfold ai.bytesC
  rw[if_pos h]
  unfold ai.need
  split
  · exact(show(2:Int)≠0 from by decide)
  · rename_i k
    intro e
    exact k ⟨e,rfl⟩
theorem ka{C:ai}(h:(C.wordsR 1).length≠1) : (C.wordsC 1).e≠0:=by
  unfold ai.wordsR at h
  unfold ai.wordsC
  split
  · exact dW (by unfold ai.fails;simp)
  · rename_i hb
    rw[if_neg hb] at h
    by_cases hf:C.fails (2*1)=true
    · exact dW hf
    · exfalso
      apply h
      unfold ai.bytesR
      rw[if_neg hf]
      unfold ai.fails at hf
      simp only[Bool.or_eq_true,decide_eq_true_eq,not_or] at hf
      rcases e:C.l with _|⟨a,_|⟨b,t⟩⟩
      · rw[e] at hf;simp at hf
      · rw[e] at hf;simp at hf
      · show(bY [a,b]).length=1
        unfold bY
        rw[if_pos (by simp)]
        simp[cz]
theorem my{C:ai}(h:(C.wordsR 1).length=1) : [C.wordV]=C.wordsR 1:=by
  unfold ai.wordV
  rcases e:C.wordsR 1 with _|⟨a,_|⟨b,t⟩⟩
  · rw[e] at h;simp at h
  · rfl
  · rw[e] at h;simp at h
theorem ox{M M':aU}{C:ai}(h:C.e≠0) : aP M C=aP M' C:=by
  unfold aP
  have e:C.endC.e≠0:=by unfold ai.endC;rw[dn h];exact h
  rw[if_neg e,if_neg e]
theorem pk(dir:Int)(C:ai) : dP dir C=ej dir C:=by
  unfold dP ej
  rw[Bool.or_comm]
theorem oh(dir c:Int)(C:ai) : aP (dr dir c C).2 (dr dir c C).1=aP (dX dir c C).2 (dX dir c C).1:=by
  unfold dr dX
  rw[pk]
  by_cases h0:C.wordV=0
  · rw[h0,if_pos (show((0:Int)==0)=true from rfl),if_neg (show ¬ ((0:Int)!=0)=true from by decide)]
  · rw[if_neg (by simpa using h0),if_pos (by simpa using h0)]
    by_cases h1:((ej dir C).wordsR 1).length=1
    · rw[my h1,show((((ej dir C).wordsR 1).length:Int)==1)=true from by rw[h1];rfl,Bool.true_and]
      rfl
    · have k:=ka h1
      dsimp only
      rw[dn k,dn k]
      exact ox k
theorem jp{f f':Int→Int→ai→Option (ai × aU)}{dir c:Int}{b:List Int}(h:∀ C,(dir=0∨dir=1)→(f dir c C=none∧f' dir c C=none)∨∃ r r',f dir c C=some r∧f' dir c C=some r'∧aP r.2 r.1=aP r'.2 r'.1) : aj f dir c b=aj f' dir c b:=by
  unfold aj
  split
  · rename_i hd
    rcases h ⟨b,false,0⟩ hd with⟨h1,h2⟩|⟨r,r',h1,h2,h3⟩
    · rw[h1,h2]
    · rw[h1,h2];exact h3
  · rfl
theorem kx(dir c:Int)(b:List Int) : aj bj dir c b=aj aW dir c b:=by
  refine jp fun C hd=>?_
  unfold bj aW
  by_cases h8:c=8
  · subst h8
    exact .inr ⟨_,_,rfl,rfl,oh dir 8 C⟩
  · by_cases h:c=7∨c=11∨c=12∨c=17
    · refine .inr ?_
      rw[if_neg (show ¬ (((((c != 7)&&(c != 8))&&(c != 11))&&(c != 12))&&(c != 17))=true from by rcases h with rfl | rfl | rfl | rfl<;>decide),if_neg (show ¬ (c==8)=true from by simpa using h8),if_neg (show ¬ (c==8)=true from by simpa using h8),if_pos (show(c==7 || c==11 || c==12 || c==17)=true from by rcases h with rfl | rfl | rfl | rfl<;>decide)]
      rcases hd with rfl|rfl
      · exact⟨_,_,rfl,rfl,rfl⟩
      · refine⟨_,_,rfl,rfl,?_⟩
        rcases h with rfl|rfl|rfl|rfl<;>rfl
    · refine .inl ?_
      rw[if_pos (show(((((c != 7)&&(c != 8))&&(c != 11))&&(c != 12))&&(c != 17))=true from by simp;omega),if_neg (show ¬ (c==8)=true from by simpa using h8),if_neg (show ¬ (c==7 || c==11 || c==12 || c==17)=true from by simp;omega)]
      exact⟨rfl,rfl⟩
end Go.Proofs.YtogbnemojakcpaaGreat
namespace Go.Proofs.YtogbnemojakcpaaGreat
def gj (C:ai) : Prop:=∀ x,x∈C.l→0≤x∧x<256
theorem nG{C:ai}{ok:Bool}{x:Int}(hx:x≠0)(h:(C.need ok x).e=0) : C.e=0∧ok=true:=by
  unfold ai.need at h
  split at h
  · exact absurd h hx
  · rename_i hh
    refine⟨h,?_⟩
    cases ok
    · exact absurd ⟨h,rfl⟩ hh
    · rfl
theorem lF{C:ai}{n:Int}(h:(C.bytesC n).e=0) : C.e=0∧C.l=C.bytesR n++(C.bytesC n).l∧((C.bytesR n).length:Int)=n:=by
  unfold ai.bytesC at h ⊢
  unfold ai.bytesR
  split at h
  · exfalso
    unfold ai.need at h
    split at h
    · cases h
    · rename_i hh
      exact hh ⟨h,rfl⟩
  · rename_i hf
    rw[if_neg hf,if_neg hf]
    refine⟨h,(List.take_append_drop _ _).symm,?_⟩
    unfold ai.fails at hf
    simp only[Bool.or_eq_true,decide_eq_true_eq,not_or] at hf
    rw[List.length_take]
    omega
theorem iD:∀ (l:List Int),l.length%2=0→(∀ x,x∈l→0≤x∧x<256)→m8 (cz l)=l
  | [],_,_=>rfl
  | [_],h,_=>by simp at h
  | a :: b :: r,h,hr=>by
    have ha:=hr a (by simp)
    have hb:=hr b (by simp)
    simp only[cz,m8]
    rw[iD r (by simp at h;omega) (fun x hx=>hr x (by simp[hx]))]
    congr 1
    · omega
    · congr 1
      omega
theorem sv{C:ai}{n:Int}(hr:gj C)(h:(C.wordsC n).e=0) : C.e=0∧C.l=m8 (C.wordsR n)++(C.wordsC n).l∧((C.wordsR n).length:Int)=n:=by
  unfold ai.wordsC at h ⊢
  unfold ai.wordsR
  split at h
  · obtain⟨_,_,h3⟩:=lF h
    omega
  · rename_i hb
    rw[if_neg hb,if_neg hb]
    obtain⟨h1,h2,h3⟩:=lF h
    have h4:(C.bytesR (2*n)).length%2=0:=by omega
    have h5:∀ x,x∈C.bytesR (2*n)→0≤x∧x<256:=fun x hx=>hr x (by rw[h2];exact List.mem_append_left _ hx)
    unfold bY
    rw[if_pos h4]
    refine⟨h1,by rw[iD _ h4 h5];exact h2,?_⟩
    rw[el]
    omega
def lz (C:ai)(l:List Int)(C':ai) : Prop:=gj C→gj C'∧(C'.e=0→C.e=0∧C.l=l++C'.l)
theorem lz.trans{A B C:ai}{l m:List Int}(h:lz A l B)(k:lz B m C) : lz A (l++m) C:=fun hr=>by
  obtain⟨h1,h2⟩:=h hr
  obtain⟨k1,k2⟩:=k h1
  refine⟨k1,fun he=>?_⟩
  obtain⟨k3,k4⟩:=k2 he
  obtain⟨h3,h4⟩:=h2 k3
  exact⟨h3,by rw[h4,k4,List.append_assoc]⟩
theorem lz.refl(C:ai) : lz C [] C:=fun hr=>⟨hr,fun he=>⟨he,rfl⟩⟩
theorem lz.need{A C:ai}{l:List Int}{ok:Bool}{x:Int}(h:lz A l C)(hx:x≠0:=by decide) : lz A l (C.need ok x):=fun hr=>by
  obtain⟨h1,h2⟩:=h hr
  refine⟨fun y hy=>h1 y (by rwa [iR] at hy),fun he=>?_⟩
  rw[iR]
  exact h2 (nG hx he).1
theorem lz.bytes{A C:ai}{l:List Int}(h:lz A l C)(n:Int) : lz A (l++C.bytesR n) (C.bytesC n):=h.trans fun hr=>⟨gf hr n,fun he=>⟨(lF he).1,(lF he).2.1⟩⟩
theorem lz.words{A C:ai}{l:List Int}(h:lz A l C)(n:Int) : lz A (l++m8 (C.wordsR n)) (C.wordsC n):=h.trans fun hr=>⟨c3 hr n,fun he=>⟨(sv hr he).1,(sv hr he).2.1⟩⟩
theorem lz.fin{A C:ai}{l:List Int}(h:lz A l C)(hr:gj A)(he:C.endC.e=0) : C.e=0∧A.l=l:=by
  unfold ai.endC at he
  obtain⟨h1,h2⟩:=nG (by decide) he
  obtain⟨_,h3⟩:=(h hr).2 h1
  have:C.l=[]:=by
    simp only[beq_iff_eq] at h2
    exact List.eq_nil_of_length_eq_zero (by omega)
  exact⟨h1,by rw[h3,this,List.append_nil]⟩
theorem gi{C:ai}(hr:gj C) : 0≤C.byteV∧C.byteV<256:=by
  unfold ai.byteV
  rw[List.getD_eq_getElem?_getD]
  cases h:(C.bytesR 1)[0]? with
  | none=>simp
  | some x =>
    have hm:x∈C.bytesR 1:=List.mem_of_getElem? h
    have:x∈C.l:=by
      unfold ai.bytesR at hm
      split at hm
      · cases hm
      · exact List.mem_of_mem_take hm
    exact hr x this
theorem s7:∀ n:Nat,n<256→(((if ((n:Int)/2 ^ 0%2==1) then 1 else 0)+(if ((n:Int)/2 ^ 1%2==1) then 2 else 0)+(if ((n:Int)/2 ^ 2%2==1) then 4 else 0)+(if ((n:Int)/2 ^ 3%2==1) then 8 else 0)+(if ((n:Int)/2 ^ 4%2==1) then 16 else 0)+(if ((n:Int)/2 ^ 5%2==1) then 32 else 0)+(if ((n:Int)/2 ^ 6%2==1) then 64 else 0)+(if ((n:Int)/2 ^ 7%2==1) then 128 else 0) : Nat) : Int)=n:=by decide +kernel
theorem jw{x:Int}(hx:0≤x∧x<256)(f:Nat→Bool)(hf:∀ i,i<8→f i=(x/2 ^ i%2==1)) :
    (((if f 0 then 1 else 0)+(if f 1 then 2 else 0)+(if f 2 then 4 else 0)+(if f 3 then 8 else 0)+(if f 4 then 16 else 0)+(if f 5 then 32 else 0)+(if f 6 then 64 else 0)+(if f 7 then 128 else 0) : Nat) : Int)=x:=by
  rw[hf 0 (by decide),hf 1 (by decide),hf 2 (by decide),hf 3 (by decide),hf 4 (by decide),hf 5 (by decide),hf 6 (by decide),hf 7 (by decide)]
  obtain⟨n,rfl⟩:=Int.eq_ofNat_of_zero_le hx.1
  exact s7 n (by omega)
theorem ll{b:List Int}{n:Int}{l:List Bool}(hr:∀ x,x∈b→0≤x∧x<256)(h:bN b n=some l) : dh l=b:=by
  unfold bN at h
  split at h
  · rename_i hc
    split at h
    · rename_i hall
      injection h with h
      subst h
      have hlen:((List.range n.toNat).map (bQ b)).length=n.toNat:=by simp
      have hm:((List.range n.toNat).map (bQ b)).length=n:=by rw[hlen];omega
      unfold dh
      rw[hm,← hc.2]
      apply List.ext_getElem
      · simp
      intro j h1 h2
      simp only[List.getElem_map,List.getElem_range]
      have hj:j<b.length:=h2
      have hget:∀ i,i<8*b.length→((List.range n.toNat).map (bQ b)).getD i false=bQ b i:=fun i hi=>by
        rw[List.getD_eq_getElem?_getD,List.getElem?_map]
        by_cases hin:i<n.toNat
        · rw[List.getElem?_range hin];rfl
        · rw[List.getElem?_eq_none (by simpa using hin)]
          rw[List.all_eq_true] at hall
          have:=hall i (by simpa using hi)
          simp only[Bool.or_eq_true,decide_eq_true_eq,Bool.not_eq_true'] at this
          rcases this with h3|h3
          · omega
          · simp[h3]
      have hx:∀ k,k<8→bQ b (8*j+k)=(b[j]/2 ^ k%2==1):=fun k hk=>by
        unfold bQ
        rw[show(8*j+k)/8=j from by omega,show(8*j+k)%8=k from by omega,List.getD_eq_getElem?_getD,List.getElem?_eq_getElem hj]
        rfl
      unfold co
      rw[show(8*j:Nat)=8*j+0 from rfl]
      simp only[hget _ (show 8*j+0<8*b.length by omega),hget _ (show 8*j+0+1<8*b.length by omega),hget _ (show 8*j+0+2<8*b.length by omega),hget _ (show 8*j+0+3<8*b.length by omega),hget _ (show 8*j+0+4<8*b.length by omega),hget _ (show 8*j+0+5<8*b.length by omega),hget _ (show 8*j+0+6<8*b.length by omega),hget _ (show 8*j+0+7<8*b.length by omega)]
      exact jw (hr _ (List.getElem_mem hj)) (fun k=>bQ b (8*j+k)) hx
    · cases h
  · cases h
end Go.Proofs.YtogbnemojakcpaaGreat
namespace Go.Proofs.YtogbnemojakcpaaGreat
end Go.Proofs.YtogbnemojakcpaaGreat
namespace Go.Proofs.YtogbnemojakcpaaGreat
end Go.Proofs.YtogbnemojakcpaaGreat
namespace Go.Proofs.YtogbnemojakcpaaGreat
def Sh (C C':ai) : Prop:=C'.l.length≤C.l.length
theorem Sh.refl(C:ai) : Sh C C:=Nat.le_refl _
theorem Sh.bytes{A C:ai}(h:Sh A C){n:Int}:Sh A (C.bytesC n):=Nat.le_trans (g8 C n) h
theorem Sh.words{A C:ai}(h:Sh A C){n:Int}:Sh A (C.wordsC n):=Nat.le_trans (dL C n) h
theorem Sh.need{A C:ai}(h:Sh A C){b:Bool}{e:Int}:Sh A (C.need b e):=by unfold Sh;rw[dE];exact h
open Go.RowKit
theorem kk{n:Int}:dz n=if n<1 then 0 else n/8+(if 0<n%8 then 1 else 0):=by
  unfold dz
  split
  · rfl
  · split<;>omega
theorem iC(l:List Bool)(j:Nat) : co (l.take (8*j)) j=0:=by
  have h:=oN l (8*j)
  rw[show 8*j/8=j from by omega,show 8*j%8=0 from by omega] at h
  omega
theorem hZ{l:List Bool}{j t:Nat}(ht:t<8) : co (l.take (8*j+t+1)) j=co (l.take (8*j+t)) j+if l.getD (8*j+t) false=true then 2 ^ t else 0:=by
  rw[l3,show(8*j+t)/8=j from by omega,show(8*j+t)%8=t from by omega]
  simp
theorem p8{l:List Bool}{j t:Nat}(h:t=8∨l.length≤8*j+t) : co (l.take (8*j+t)) j=co l j:=by
  rcases h with rfl|h
  · unfold co
    simp only[fH]
    simp
  · rw[List.take_of_length_le h]
theorem pA{l:List Bool}{j:Nat}(h1:l.length≤8*j)(h2:8*j<l.length+8) : (List.range j).map (fun i=>(co l i:Int))=dh l:=by
  unfold dh
  rw[show(dz l.length).toNat=j from by unfold dz;split<;>omega]
theorem ot(l:List Bool) : ((dh l).length:Int)=dz l.length:=by
  unfold dh
  rw[List.length_map,List.length_range]
  unfold dz
  split<;>omega
theorem v3:∀ x0 x1 x2 x3 x4 x5 x6 x7:Bool,∀ t:Fin 8,(((((if x0=true then 1 else 0)+(if x1=true then 2 else 0)+(if x2=true then 4 else 0)+(if x3=true then 8 else 0)+(if x4=true then 16 else 0)+(if x5=true then 32 else 0)+(if x6=true then 64 else 0)+(if x7=true then 128 else 0) : Nat) : Int)/2 ^ t.val%2==1)=[x0,x1,x2,x3,x4,x5,x6,x7].getD t.val false):=by decide +kernel
theorem sM{l:List Bool}{j t:Nat}(ht:t<8) : ((co l j:Int)/2 ^ t%2==1)=l.getD (8*j+t) false:=by
  have h:=v3 (l.getD (8*j) false) (l.getD (8*j+1) false) (l.getD (8*j+2) false) (l.getD (8*j+3) false) (l.getD (8*j+4) false) (l.getD (8*j+5) false) (l.getD (8*j+6) false) (l.getD (8*j+7) false) ⟨t,ht⟩
  refine h.trans ?_
  rcases t with _|_|_|_|_|_|_|_|t
  case succ.succ.succ.succ.succ.succ.succ.succ=>omega
  all_goals rfl
theorem ly(l:List Bool) : bN (dh l) (l.length:Int)=some ((List.range l.length).map (bQ (dh l))):=by
  have hl:=ot l
  unfold bN
  rw[if_pos ⟨by omega,hl⟩,if_pos,show((l.length:Int)).toNat=l.length from by omega]
  rw[List.all_eq_true]
  intro i hi
  have hi:i<8*(dh l).length:=by simpa using hi
  simp only[Bool.or_eq_true,decide_eq_true_eq,Bool.not_eq_true']
  by_cases h:(i:Int)<l.length
  · exact .inl h
  · refine .inr ?_
    have hj:i/8<(dh l).length:=by omega
    unfold bQ
    have e:(dh l).getD (i/8) 0=(co l (i/8) : Int):=by
      have hj2:i/8<(dz (l.length:Int)).toNat:=by omega
      unfold dh
      rw[List.getD_eq_getElem?_getD,List.getElem?_map,List.getElem?_range hj2]
      rfl
    rw[e,sM (Nat.mod_lt _ (by decide)),show 8*(i/8)+i%8=i from by omega,List.getD_eq_getElem?_getD,List.getElem?_eq_none (by omega)]
    rfl
theorem lJ{b:List Int}{n:Int}(hr:∀ x,x∈b→0≤x∧x<256)(h0:0≤n) : bN b n=if dh ((List.range n.toNat).map (bQ b))=b then some ((List.range n.toNat).map (bQ b)) else none:=by
  by_cases h:dh ((List.range n.toNat).map (bQ b))=b
  · rw[if_pos h]
    have k:=ly ((List.range n.toNat).map (bQ b))
    rw[h,List.length_map,List.length_range,show((n.toNat:Nat) : Int)=n from by omega] at k
    exact k
  · rw[if_neg h]
    cases e:bN b n with
    | none=>rfl
    | some l =>
      exfalso
      have k:=ll hr e
      unfold bN at e
      split at e
      · split at e
        · injection e with e;rw[e] at h;exact h k
        · cases e
      · cases e
open Go.RowKit
theorem uw{n:Int}{w:World}(hn : -1048576≤n∧n≤1048576) : Calls Tryz.prog 155 #[.int .i64 n] w (c8 (.int .i64 (dz n)) w):=by
 refine en 14 Tryz.func155 rfl<|sg<|Pl 1<|nt<|sq<|sg<|Pl 2<|nt<|cb ((decide (n<1))) (fun a=>?_) (fun a=>?_)
 have c:=of_decide_eq_true a
 refine sg<|Pl 1<|nt<|rt<|tr<|rr (.int .i64 0)<|?_
 have hs:dz n=0:=by rw[kk];split<;>(try split)<;>omega
 rw[hs]
 exact⟨rfl,(az.refl [] _)⟩
 have c:=of_decide_eq_false a
 refine aX<|sg<|Pl 1<|L0<|Oe (.int .i64 (IntKind.i64.wrap (Int.tdiv n 8))) (.int .i64 (n/8)) (congrArg (Value.int .i64) (eO (by omega) (by omega)))<|Pl 1<|nt<|sq<|sg<|Pl 1<|L0<|Oe (.int .i64 (Int.tmod n 8)) (.int .i64 (n%8)) (congrArg (Value.int .i64) (Int.tmod_eq_emod_of_nonneg (by omega)))<|?_
 refine Pl 1<|nt<|cb ((decide (0<(n%8)))) (fun b=>?_) (fun b=>?_)
 have d:=of_decide_eq_true b
 refine go<|Pl 1<|L0<|Oi ((n/8)+1)<|Pl 1<|ng<|Pl 2<|nt<|rt<|rr (.int .i64 ((n/8)+1))<|?_
 have hs:dz n=((n/8)+1):=by rw[kk];split<;>(try split)<;>omega
 rw[hs]
 exact⟨rfl,(az.refl [] _)⟩
 have d:=of_decide_eq_false b
 refine aX<|sg<|Pl 2<|nt<|rt<|rr (.int .i64 (n/8))<|?_
 have hs:dz n=(n/8):=by rw[kk];split<;>(try split)<;>omega
 rw[hs]
 exact⟨rfl,(az.refl [] _)⟩
theorem nI(l:List Bool)(j t:Nat)(ht:t≤8) : co (l.take (8*j+t)) j<2 ^ t:=by
  induction t with
  | zero=>rw[Nat.add_zero,iC];decide
  | succ t ih =>
    have h:=ih (by omega)
    rw[← Nat.add_assoc,hZ (by omega),Nat.pow_succ]
    split<;>omega
theorem r7{t:Nat}(ht:t≤8) : 2 ^ t≤256:=by
  rcases t with _|_|_|_|_|_|_|_|_|t
  case succ.succ.succ.succ.succ.succ.succ.succ.succ=>omega
  all_goals decide
theorem od{l:List Bool}{j:Nat}(h1:¬ 8*j<l.length)(h2:8*j<l.length+8) : (List.range j).map (fun i=>(co l i:Int))=dh l:=pA (by omega) h2
theorem qf{l:List Bool}{j t:Nat}{c:Int}(hc:c=(co (l.take (8*j+t)) j:Int))(ht:t≤8)(h:t=8∨l.length≤8*j+t) : c%256=(co l j:Int):=by
  have h1:=nI l j t ht
  have h2:=r7 ht
  rw[p8 h] at hc h1
  omega
theorem tk{m:Md}{A:Option Addr}{cp:Nat}{l:List Bool}{w:World}(h:eN m w (.slice A l.length cp) l)(hn:l.length≤1048576) : Calls Tryz.prog 216 #[.slice A l.length cp] w (sm l w):=by
 refine en 42 Tryz.func216 rfl<|sg<|Pl 1<|ng<|Pl 1<|nt<|sq<|sg<|?_
 refine Pl 1<|nt<|bk<|?_
 refine gI (fun x=>[(0,.slice A l.length cp),(2,.slice none 0 0),(3,.slice x.2.2.1 x.2.1.length x.2.2.2),(4,.int .i64 ((8*x.1:Nat) : Int))]) (fun(x:Nat × List Int × Option Addr × Nat) w'=>az [] w w'∧fp w.heap.size w' (.slice x.2.2.1 x.2.1.length x.2.2.2) x.2.1∧(8*x.1<l.length+8)∧(x.2.1=(List.range x.1).map (fun i=>(co l i:Int)))) (fun x=>l.length+8-8*x.1) (0,[],none,0) ⟨az.refl _ _,(b6.nil w.heap.size _ _ iw _),(by(try dsimp only);omega),rfl⟩ ?_
 rintro⟨j,L,B,cq⟩ r ⟨f,z,C,D⟩
 refine gJ [(0,.slice A l.length cp),(2,.slice none 0 0),(3,.slice B L.length cq),(4,.int .i64 ((8*j:Nat) : Int))] ?_
 have g:fp w.heap.size r (.slice B L.length cq) L:=z
 have Z:8*j<l.length+8:=C
 have k:L=(List.range j).map (fun i=>(co l i:Int)):=D
 have hLn:L.length=j:=by rw[k,List.length_map,List.length_range]
 refine sq<|sg<|Pl 4<|nt<|cb ((decide (((8*j:Nat) : Int)<((l.length:Nat) : Int)))) (fun n=>?_) (fun n=>?_)
 have E:=of_decide_eq_true n
 refine aX<|sq<|bk<|sg<|Pl 1<|ng<|Pl 1<|nt<|?_
 refine sq<|sg<|Pl 2<|nt<|bk<|?_
 refine gI (fun x=>[(0,.slice A l.length cp),(2,.slice none 0 0),(3,.slice B L.length cq),(4,.int .i64 ((8*j:Nat) : Int)),(5,.int .i64 x.2.1),(6,.int .i64 x.2.2),(7,.int .i64 ((8*j+x.1:Nat) : Int)),(8,.int .i64 ((8*j:Nat) : Int)),(9,.slice A l.length cp),(10,.int .i64 ((l.length:Nat) : Int)),(11,.bool (decide (((8*j:Nat) : Int)<((l.length:Nat) : Int)))),(14,.int .i64 ((8*j:Nat) : Int))]) (fun(x:Nat × Int × Int) w'=>az [] r w'∧(x.1≤8)∧(x.2.1=(co (l.take (8*j+x.1)) j:Int))∧(x.2.2=((2 ^ x.1:Nat) : Int))) (fun x=>8-x.1) (0,0,1) ⟨az.refl _ _,(by(try dsimp only);omega),(by(try dsimp only);rw[Nat.add_zero,iC];rfl),rfl⟩ ?_
 rintro⟨t,c,u⟩ a0 ⟨a,F,G,H⟩
 refine gJ [(0,.slice A l.length cp),(2,.slice none 0 0),(3,.slice B L.length cq),(4,.int .i64 ((8*j:Nat) : Int)),(5,.int .i64 c),(6,.int .i64 u),(7,.int .i64 ((8*j+t:Nat) : Int)),(8,.int .i64 ((8*j:Nat) : Int)),(9,.slice A l.length cp),(10,.int .i64 ((l.length:Nat) : Int)),(11,.bool (decide (((8*j:Nat) : Int)<((l.length:Nat) : Int)))),(14,.int .i64 ((8*j:Nat) : Int))] ?_
 have a1:t≤8:=F
 have I:c=(co (l.take (8*j+t)) j:Int):=G
 have a2:u=((2 ^ t:Nat) : Int):=H
 have hpl:=nI l j t (by omega)
 have hpp:=r7 (t:=t) (by omega)
 refine sq<|sg<|Pl 5<|cu 5 [19] 24 (((decide (((8*j+t:Nat) : Int)<((l.length:Nat) : Int)))&&(decide (((8*j+t:Nat) : Int)<(((8*j:Nat) : Int)+8))))) (fun K s=>?_) ?_
 refine bl 19 ((decide (((8*j+t:Nat) : Int)<((l.length:Nat) : Int)))) (fun b=>?_) (fun b=>?_)
 have J:=of_decide_eq_true b
 exact Pl 2<|L1<|Oi (((8*j:Nat) : Int)+8)<|Pl 2<|ce s (decide (((8*j+t:Nat) : Int)<(((8*j:Nat) : Int)+8))) (by rw[b];rfl)
 have J:=of_decide_eq_false b
 exact Pl 5<|ce s false (by rw[b];rfl)
 refine nt<|?_
 have y:=aE f a
 refine cb (((decide (((8*j+t:Nat) : Int)<((l.length:Nat) : Int)))&&(decide (((8*j+t:Nat) : Int)<(((8*j:Nat) : Int)+8))))) (fun d=>?_) (fun d=>?_)
 have M:=(aO d).1
 have N:=(aO d).2
 have a3:=of_decide_eq_true M
 have a4:=of_decide_eq_true N
 refine aX<|sq<|bk<|sq<|sg<|Pl 2<|?_
 refine jf (eN.at_ (eN.old h y) (8*j+t) (by omega)) fun O P Q R=>L0<|fR l.length (8*j+t) Q (by omega)<|L0<|cY (p:=⟨O,P+(8*j+t),none⟩) (v:=.bool (l.getD (8*j+t) false)) R<|nt<|cb ((l.getD (8*j+t) false)) (fun o=>?_) (fun o=>?_)
 refine go<|Pl 2<|L0<|Oi (c+u)<|Pl 1<|nt<|go<|Pl 1<|L0<|Oi (2*u)<|Pl 1<|nl<|bn<|tn<|go<|?_
 exact Pl 1<|L0<|Oi (((8*j+t:Nat) : Int)+1)<|Pl 1<|nl<|ek ((t+1),(c+u),(2*u)) ⟨a,(by(try dsimp only);omega),(by(try dsimp only);rw[← Nat.add_assoc,hZ (by omega),if_pos o];omega),(by(try dsimp only);rw[Nat.pow_succ];omega)⟩ (by omega)
 refine aX<|go<|Pl 1<|L0<|Oi (2*u)<|Pl 1<|nl<|bn<|tn<|go<|Pl 1<|L0<|Oi (((8*j+t:Nat) : Int)+1)<|Pl 1<|nl<|?_
 exact ek ((t+1),c,(2*u)) ⟨a,(by(try dsimp only);omega),(by(try dsimp only);rw[← Nat.add_assoc,hZ (by omega),if_neg (by rw[o];decide)];omega),(by(try dsimp only);rw[Nat.pow_succ];omega)⟩ (by omega)
 refine xt<|tx<|tx<|bx<|tn<|go<|Pl 3<|L0<|gA (m:=1) (e:=5) #[.int .u8 (c%256)] fun a5 a6 S T q=>?_
 have U:=oS S (xs:=[(c%256)]) (by as_aux_lemma=>kernel_rfl) (aR (by omega) dS) (by(try simp only[List.length_cons,List.length_nil]);omega) T
 refine L0<|to i3 (xs:=L) (ys:=([(c%256)])) (.int .u8 0) 1 (ax g (aE a q) (fun x hx=>am) (fun _ _ h=>h)) (U).rd (by(try simp only[List.length_append,List.length_cons,List.length_nil,bB]);omega) (le (le f.size a.size) q.size) fun V W a7 X Y=>Pl 1<|nl<|bn<|tn<|go<|Pl 1<|L0<|Oi (((8*j:Nat) : Int)+8)<|Pl 1<|nl<|?_
 exact ek ((j+1),(L++[(c%256)]),V,W) ⟨(ut y (ut (az.mono (S':=(ob B++[])) q av) Y (aM il av)) (aM (cC g lr) av)),X,(by(try dsimp only);omega),(by(try dsimp only);rw[k,List.range_succ,List.map_append];show _++[_]=_++[_];rw[qf I (by omega) (by have hq:=d;simp only[Bool.and_eq_false_iff,decide_eq_false_iff_not] at hq;omega)])⟩ (by omega)
 have E:=of_decide_eq_false n
 refine xt<|tx<|tx<|bx<|tn<|sg<|Pl 2<|nt<|rt<|rr (.slice B L.length cq)<|?_
 have hs:L=dh l:=by rw[k];exact od (by omega) (by omega)
 exact⟨_,rfl,by rw[← hs];exact g,f⟩
theorem uq{m:Md}{v:Value}{l:List Bool}{w:World}(h:eN m w v l)(hn:l.length≤1048576) : Calls Tryz.prog 216 #[v] w (sm l w):=by
  obtain⟨A,c,rfl,_,_⟩:=h.shape
  exact tk h hn
theorem pu{P:Program}{w:World}{ev:Operand→Value}{o:Oper}{x y:Operand}{t t':TypeId}{a b:ByteArray}{v:Bool}(ho:o.op = .binOp .neq t x y t')(hx:ev x = .string a)(hy:ev y = .string b)(hv:(a.toList==b.toList)=v) : (execOp ev o).run P w = .ok (.value (.bool !v)) w:=by
  have hg:eqGuard .neq t x y (.string a) (.string b)=pure ():=rfl
  unfold execOp
  simp only[ho,hx,hy,hg,binOp_string_neq,Sem.run_bind,Sem.run_pure,Result.andThen,hv]
theorem vg{w0 w:World}{g:Nat}{cs:Array Value}{xs:List Bool}(hg:w0.heap.size≤g)(hcs:cs=(xs.map Value.bool).toArray)(hl:xs.length≤4194304)(hb:w.heap[g]? = some (.cells cs 4 (0,0))) :
    sc w0.heap.size w (.slice (some ⟨g,0,none⟩) xs.length xs.length) xs:=sH (enc:=Value.bool) hg hcs (fun x h=>rfl) hl hb
theorem o8{x c:Int}{k:Nat}(h:c=x/2 ^ k) : c/2=x/2 ^ (k+1):=by
  rw[h,Int.ediv_ediv_of_nonneg (Int.le_of_lt (Int.pow_pos (by decide))),Int.pow_succ]
theorem qg{x c:Int}(hx:0≤x∧x<256){k:Nat}(h:c=x/2 ^ k) : 0≤c∧c<256:=by
  have h1:(1:Int)≤2 ^ k:=Int.pow_pos (by decide)
  subst h
  exact⟨Int.ediv_nonneg hx.1 (by omega),Int.lt_of_le_of_lt (Int.ediv_le_self _ hx.1) hx.2⟩
theorem oD{l:List Int}{i:Nat}(h:i<l.length) : l.getD i 0∈l:=by
  rw[List.getD_eq_getElem?_getD,List.getElem?_eq_getElem h]
  exact List.getElem_mem h
theorem pB{m:Md}{A:Option Addr}{cp:Nat}{b:List Int}{n:Int}{w:World}(h:aQ m w (.slice A b.length cp) b)(hl:b.length≤1048576)(hn : -1048576≤n∧n≤1048576) : Calls Tryz.prog 156 #[.slice A b.length cp,.int .i64 n] w (eI b n w):=by
 have hb:=aQ.range h
 refine en 51 Tryz.func156 rfl<|sg<|Pl 2<|nt<|sq<|sg<|Pl 3<|cu 6 [12] 18 (((decide (n<0))||(decide ((8*((b.length:Nat) : Int))<n)))) (fun K H=>?_) ?_
 refine bl 12 ((decide (n<0))) (fun d=>?_) (fun d=>?_)
 have R:=of_decide_eq_true d
 exact Pl 6<|ce H true (by rw[d];rfl)
 have R:=of_decide_eq_false d
 exact Pl 3<|L1<|Oi (8*((b.length:Nat) : Int))<|Pl 2<|ce H (decide ((8*((b.length:Nat) : Int))<n)) (by rw[d];rfl)
 refine nt<|cb (((decide (n<0))||(decide ((8*((b.length:Nat) : Int))<n)))) (fun g=>?_) (fun g=>?_)
 refine sg<|Pl 2<|nt<|rt<|tr<|rr (.tuple #[.slice none 0 0,.bool false])<|?_
 have hq:=g
 have hs:bN b n=none:=by unfold bN;rw[if_neg];rintro⟨h1,h2⟩;simp only[Bool.or_eq_true,decide_eq_true_eq] at hq;rw[kk] at h2;split at h2<;>(try split at h2)<;>omega
 exact ea hs (az.refl [] _)
 have S:=(aD g).1
 have T:=(aD g).2
 have ae:=of_decide_eq_false S
 have af:=of_decide_eq_false T
 refine aX<|sg<|Pl 1<|nt<|sq<|sg<|Pl 1<|nt<|bk<|?_
 refine gI (fun x=>[(0,.slice A b.length cp),(1,.int .i64 n),(4,.slice none 0 0),(5,.bool false),(6,.slice x.2.2.1 x.2.1.length x.2.2.2),(7,.int .i64 ((x.1:Nat) : Int))]) (fun(x:Nat × List Bool × Option Addr × Nat) w'=>az [] w w'∧sc w.heap.size w' (.slice x.2.2.1 x.2.1.length x.2.2.2) x.2.1∧(((x.1:Nat) : Int)≤n)∧(x.2.1=(List.range x.1).map (bQ b))) (fun x=>n.toNat-x.1) (0,[],none,0) ⟨az.refl _ _,(b6.nil w.heap.size _ _ jF _),(by(try dsimp only);omega),rfl⟩ ?_
 rintro⟨i,L,B,cq⟩ I ⟨j,U,V,W⟩
 refine gJ [(0,.slice A b.length cp),(1,.int .i64 n),(4,.slice none 0 0),(5,.bool false),(6,.slice B L.length cq),(7,.int .i64 ((i:Nat) : Int))] ?_
 have r:sc w.heap.size I (.slice B L.length cq) L:=U
 have ag:((i:Nat) : Int)≤n:=V
 have o:L=(List.range i).map (bQ b):=W
 have hLn:L.length=i:=by rw[o,List.length_map,List.length_range]
 have hi8:(((i:Nat) : Int)/8).toNat=i/8:=by omega
 refine sq<|sg<|Pl 3<|nt<|cb ((decide (((i:Nat) : Int)<n))) (fun s=>?_) (fun s=>?_)
 have X:=of_decide_eq_true s
 refine aX<|sq<|bk<|sg<|Pl 2<|L0<|Oe (.int .i64 (IntKind.i64.wrap (Int.tdiv ((i:Nat) : Int) 8))) (.int .i64 (((i:Nat) : Int)/8)) (congrArg (Value.int .i64) (eO (by omega) (by omega)))<|?_
 refine f3 (aQ.at_ (aQ.old h j) (((((i:Nat) : Int)/8)).toNat) (by omega)) fun t u Y Z ah=>L0<|rC b.length (((((i:Nat) : Int)/8)).toNat) (((i:Nat) : Int)/8) (by omega) Y (by omega)<|L0<|cY (p:=⟨t,u+(((((i:Nat) : Int)/8)).toNat),none⟩) (v:=.int .u8 (b.getD (((((i:Nat) : Int)/8)).toNat) 0)) Z<|L0<|Oi (b.getD (((((i:Nat) : Int)/8)).toNat) 0)<|Pl 1<|nt<|sq<|sg<|Pl 1<|nt<|bk<|?_
 refine gI (fun x=>[(0,.slice A b.length cp),(1,.int .i64 n),(4,.slice none 0 0),(5,.bool false),(6,.slice B L.length cq),(7,.int .i64 ((i:Nat) : Int)),(8,.int .i64 x.2),(9,.int .i64 ((x.1:Nat) : Int)),(19,.int .i64 ((i:Nat) : Int)),(20,.int .i64 n),(21,.bool (decide (((i:Nat) : Int)<n))),(24,.slice A b.length cp),(25,.int .i64 ((i:Nat) : Int)),(26,.int .i64 (((i:Nat) : Int)/8)),(27,.pointer (some (⟨t,u+(((((i:Nat) : Int)/8)).toNat),none⟩))),(28,.int .u8 (b.getD (((((i:Nat) : Int)/8)).toNat) 0)),(29,.int .i64 (b.getD (((((i:Nat) : Int)/8)).toNat) 0))]) (fun(x:Nat × Int) w'=>az [] I w'∧(x.1≤i%8)∧(x.2=b.getD (i/8) 0/2 ^ x.1)) (fun x=>8-x.1) (0,(b.getD (((((i:Nat) : Int)/8)).toNat) 0)) ⟨az.refl _ _,(by(try dsimp only);omega),(by(try dsimp only);rw[hi8,Int.pow_zero,Int.ediv_one])⟩ ?_
 rintro⟨k,c⟩ ai ⟨q,a0,a1⟩
 refine gJ [(0,.slice A b.length cp),(1,.int .i64 n),(4,.slice none 0 0),(5,.bool false),(6,.slice B L.length cq),(7,.int .i64 ((i:Nat) : Int)),(8,.int .i64 c),(9,.int .i64 ((k:Nat) : Int)),(19,.int .i64 ((i:Nat) : Int)),(20,.int .i64 n),(21,.bool (decide (((i:Nat) : Int)<n))),(24,.slice A b.length cp),(25,.int .i64 ((i:Nat) : Int)),(26,.int .i64 (((i:Nat) : Int)/8)),(27,.pointer (some (⟨t,u+(((((i:Nat) : Int)/8)).toNat),none⟩))),(28,.int .u8 (b.getD (((((i:Nat) : Int)/8)).toNat) 0)),(29,.int .i64 (b.getD (((((i:Nat) : Int)/8)).toNat) 0))] ?_
 have aj:k≤i%8:=a0
 have y:c=b.getD (i/8) 0/2 ^ k:=a1
 have hcr:=qg (hb _ (oD (l:=b) (i:=i/8) (by omega))) y
 refine sq<|sg<|Pl 2<|L0<|Oe (.int .i64 (Int.tmod ((i:Nat) : Int) 8)) (.int .i64 (((i:Nat) : Int)%8)) (congrArg (Value.int .i64) (Int.tmod_eq_emod_of_nonneg (by omega)))<|Pl 1<|nt<|?_
 refine cb ((decide (((k:Nat) : Int)<(((i:Nat) : Int)%8)))) (fun z=>?_) (fun z=>?_)
 have a2:=of_decide_eq_true z
 refine aX<|sq<|bk<|go<|Pl 1<|L0<|Oe (.int .i64 (IntKind.i64.wrap (Int.tdiv c 2))) (.int .i64 (c/2)) (congrArg (Value.int .i64) (eO (by omega) (by omega)))<|Pl 1<|nl<|bn<|tn<|go<|Pl 1<|L0<|Oi (((k:Nat) : Int)+1)<|?_
 exact Pl 1<|nl<|ek ((k+1),(c/2)) ⟨q,(by(try dsimp only);omega),o8 y⟩ (by omega)
 have a2:=of_decide_eq_false z
 refine xt<|tx<|tx<|bx<|tn<|go<|Pl 2<|L0<|Oe (.int .i64 (Int.tmod c 2)) (.int .i64 (c%2)) (congrArg (Value.int .i64) (Int.tmod_eq_emod_of_nonneg (by omega)))<|Pl 1<|L0<|gA (m:=1) (e:=4) #[.bool ((c%2)==1)] fun ak al a3 a4 C=>?_
 have a5:=vg a3 (xs:=[((c%2)==1)]) (by as_aux_lemma=>kernel_rfl)  (by(try simp only[List.length_cons,List.length_nil]);omega) a4
 refine L0<|to qA (xs:=L) (ys:=([((c%2)==1)])) (.bool false) 1 (ax r (aE q C) (fun x hx=>am) (fun _ _ h=>h)) (a5).rd (by(try simp only[List.length_append,List.length_cons,List.length_nil,bB]);omega) (le (le j.size q.size) C.size) fun a6 a7 an a8 a9=>Pl 1<|nl<|bn<|tn<|go<|Pl 1<|L0<|Oi (((i:Nat) : Int)+1)<|Pl 1<|nl<|?_
 exact ek ((i+1),(L++[((c%2)==1)]),a6,a7) ⟨(ut (aE j q) (ut (az.mono (S':=(ob B++[])) C av) a9 (aM il av)) (aM (cC r lr) av)),a8,(by(try dsimp only);omega),(by(try dsimp only);rw[o,List.range_succ,List.map_append];show _++[_]=_++[bQ b i];unfold bQ;rw[y,show k=i%8 from by omega])⟩ (by omega)
 have X:=of_decide_eq_false s
 refine xt<|tx<|tx<|bx<|tn<|sq<|sq<|Rg 6 (fun w'=>aQ false w' (.slice A b.length cp) b) fun ao J=>?_
 have M:=aE j J
 have D:=aQ.old h M
 refine bg (aB.any D (fun _ _ h=>h)) fun E=>Rt 0 E<|Rt 3 E<|Rr 4 E (.string (strOfNums b)) (fun _ hs=>cL (A:=A) (n:=b.length) (c:=cp) rfl (by kernel_rfl) Tryz.underlying22 Tryz.underlying5 Tryz.underlying9 hs)<|?_
 have N:=ax r J (fun x hx=>am) (fun _ _ h=>h)
 refine R0 1 rfl<|Oc<|m6 (uq (N).rd (by omega)) fun aa ab ap O aq ar F=>?_
 have P:=aQ.old D F
 refine bg (aB.any P (fun _ _ h=>h)) fun au=>R0 2 rfl<|i7 (.string (strOfNums (dh L))) (cL (A:=aa) (n:=(dh L).length) (c:=ab) rfl (by kernel_rfl) Tryz.underlying22 Tryz.underlying5 Tryz.underlying9 (O).rd)<|bg (aB.any P (fun _ _ h=>h)) fun ac=>Rr 5 ac (.bool (!(decide ((dh L)=b)))) (fun _ _=>pu (a:=(strOfNums (dh L))) (b:=(strOfNums b)) rfl (by kernel_rfl) (by kernel_rfl) (gR (O).rd D))<|re<|tn<|?_
 have Q:=aE M F
 refine cb ((!(decide ((dh L)=b)))) (fun f=>?_) (fun f=>?_)
 have G:(decide ((dh L)=b))=false:=by simpa using f
 have ad:=of_decide_eq_false G
 refine sg<|Pl 2<|nt<|rt<|tr<|rr (.tuple #[.slice none 0 0,.bool false])<|?_
 have hL:L=(List.range n.toNat).map (bQ b):=by rw[o,show i=n.toNat from by omega]
 have hu:=lJ (n:=n) hb (by omega)
 rw[if_neg (by rw[← hL];simpa using f)] at hu
 exact ea hu Q
 have G:(decide ((dh L)=b))=true:=by simpa using f
 have ad:=of_decide_eq_true G
 refine aX<|sg<|Pl 3<|nt<|rt<|rr (.tuple #[.slice B L.length cq,.bool true])<|?_
 have hL:L=(List.range n.toNat).map (bQ b):=by rw[o,show i=n.toNat from by omega]
 have hu:=lJ (n:=n) hb (by omega)
 rw[if_pos (by rw[← hL];simpa using f),← hL] at hu
 exact⟨_,by rw[hu];rfl,by rw[hu];exact(ax N F (fun x hx=>am) (fun _ _ h=>h)),Q⟩
theorem rG{m:Md}{v:Value}{b:List Int}{n:Int}{w:World}(h:aQ m w v b)(hl:b.length≤1048576)(hn : -1048576≤n∧n≤1048576) : Calls Tryz.prog 156 #[v,.int .i64 n] w (eI b n w):=by
  obtain⟨A,c,rfl,_,_⟩:=h.shape
  exact pB h hl hn
open Go.RowKit
def rD (w0:World)(m:Md)(A:Option Addr)(cp:Nat)(full:List Int)(g gm:Nat)(C':ai)(cs:Array Value)(w:World)(e:Ending)(w':World) : Prop:=e = .returned (.tuple #[])∧RC w0 m A cp full w' g C'∧w'.heap[gm]? = some (.cells cs 30 (0,0))∧az [g,gm] w w'
theorem kK{w0:World}{m:Md}{A:Option Addr}{cp:Nat}{full:List Int}{w:World}{g gm:Nat}{c:Int}{C:ai}{most:Int}(hcode:B8 c)(hC:RC w0 m A cp full w g C)(hm:w.heap[gm]? = some (.cells (mC c) 30 (0,0)))(hgm:w0.heap.size≤gm)(hne:g≠gm) :
    Calls Tryz.prog 150 #[.pointer (some ⟨g,0,none⟩),.pointer (some ⟨gm,0,none⟩),.int .i64 most] w (rD w0 m A cp full g gm (bo C most) (mG c 0 C.wordV (C.wordsC 1).wordV 0 0 0 0 0 0 0 0 nS nS nS nS 0 0 0 0 0 nS) w):=by
 obtain⟨hcode1,hcode2⟩:=hcode
 have hrng:=bE (RC.rng hC)
 refine en 39 Tryz.func150 rfl<|sg<|Pl 2<|L0<|Oc<|m3 (ci hC) fun G t e H=>Pl 2<|?_
 refine L0<|bC (aK e (Ne.symm hne) hm) 2 (mG c 0 C.wordV 0 0 0 0 0 0 0 0 0 nS nS nS nS 0 0 0 0 0 nS) fun I dF f=>ng<|Pl 2<|?_
 have h:=us e f
 refine L0<|Oc<|m3 (ci (RC.upd t f (aa hne am) (hC.u.trans' h (fun x hx=>.inr (by simp at hx;rcases hx with rfl | rfl;exact hC.new;exact hgm))))) fun J v i L=>Pl 2<|?_
 refine L0<|bC (aK i (Ne.symm hne) dF) 3 (mG c 0 C.wordV ((C.wordsC 1).wordV) 0 0 0 0 0 0 0 0 nS nS nS nS 0 0 0 0 0 nS) fun M j k=>ng<|Pl 3<|L0<|aZ j 3<|L0<|Oi ((C.wordsC 1).wordV)<|Pl 1<|ng<|Pl 4<|cu 4 [25] 29 (((decide (0<((C.wordsC 1).wordV)))&&(decide (((C.wordsC 1).wordV)≤most)))) (fun K l=>?_) ?_
 refine bl 25 ((decide (0<((C.wordsC 1).wordV)))) (fun b=>?_) (fun b=>?_)
 have y:=of_decide_eq_true b
 exact Pl 4<|ce l (decide (((C.wordsC 1).wordV)≤most)) (by rw[b];rfl)
 have y:=of_decide_eq_false b
 exact Pl 4<|ce l false (by rw[b];rfl)
 have o:=ut h (us i k) (ac im (ac im av))
 refine L0<|Oc<|m2 (aL (((decide (0<((C.wordsC 1).wordV)))&&(decide (((C.wordsC 1).wordV)≤most)))) 5 (RC.upd v k (aa hne am) (hC.u.trans' o (fun x hx=>.inr (by simp at hx;rcases hx with rfl | rfl;exact hC.new;exact hgm))))) fun z B p=>?_
 refine eH B fun x36 D q=>?_
 refine nt<|go<|Pl 4<|?_
 have r:=aK p (Ne.symm hne) j
 refine L0<|aZ r 2<|Pl 1<|L0<|Oc<|m1 (nU (a:=C.wordV) (n:=(C.wordsC 1).wordV) (w:=z) (by omega) (by omega)) fun N d=>?_
 refine L0<|Oc<|m2 (aL ((cH C.wordV ((C.wordsC 1).wordV))) 7 (RC.upd q d am (az.step (RC.u q) d))) fun O E F=>nl<|rm (.tuple #[])<|?_
 subst D
 have hs:bo C most=((((C.wordsC 1).wordsC 1).need ((decide (0<((C.wordsC 1).wordV)))&&(decide (((C.wordsC 1).wordV)≤most))) 5).need (cH C.wordV ((C.wordsC 1).wordV)) 7):=by
   unfold bo gP
   (try simp only[bs,if_true,if_false,decide_true,decide_false,dN,reduceIte])
   all_goals rfl
 rw[hs]
 have s:=uz d F
 exact⟨rfl,E,(aK s (Ne.symm hne) r),(u1 o (u1 p s im) im)⟩
theorem j0{m:Md}{A:Option Addr}{cp:Nat}{b:List Int}{w:World}{c:Int}(hcode:B8 c)(hsl:aQ m w (.slice A b.length cp) b)(hb:b.length≤1048576) :
    Calls Tryz.prog 93 #[.int .i64 0,.int .u8 c,.slice A b.length cp] w (cD (.slice A b.length cp) b (aj aC 0 c b) w):=by
 obtain⟨hcode1,hcode2⟩:=hcode
 have hln:(b.length:Int)≤1048576:=by omega
 refine en 113 Tryz.func93 rfl<|sg<|L0<|bD mZ fun aY d4 o i f=>Pl 1<|nt<|sq<|sg<|Pl 6<|nt<|c0<|?_
 refine aX<|sg<|Pl 2<|L0<|dC #[.slice A b.length cp,.int .i64 0,.bool false,.int .i64 0] fun j d5 a k g=>Pl 1<|ng<|Pl 2<|L0<|bD mZ fun a6 d6 d a7 J=>L0<|aT a7 (mC c) fun Y Z C=>?_
 refine nt<|sq<|sg<|Pl 1<|nt<|bk<|sq<|sg<|Pl 2<|nl<|?_
 refine tn<|?_
 have L:=ud J C d
 have l:=aE g L
 have q:=aE f l
 refine cb ((c==1)) (fun r=>?_) (fun r=>?_)
 have bY:=ap r
 refine aX<|ct r<|sq<|sg<|Pl 2<|nt<|c1<|sg<|Pl 1<|?_
 have a8:RC w _ A cp b Y j (ai.mk b false 0):=⟨hsl,q,(Nat.le_trans f.size a),⟨0,(ub L k),Nat.zero_le _,rfl⟩,by omega⟩
 have b0:=nb (ak k) lr d
 refine L0<|Oc<|m3 (kK (most:=2000) (b8 (by omega)) a8 Z (Nat.le_trans (le f.size g.size) d) b0) fun d7 bZ c2 c4=>?_
 have d8:=bE (RC.rng a8)
 have d9:=bE (c:=(ai.mk b false 0).wordsC 1) (c3 (RC.rng a8) 1)
 refine nt<|xt<|tx<|bx<|tn<|sg<|Pl 1<|L0<|Oc<|m2 (dy bZ) fun da a9 b1=>nt<|sq<|sq<|?_
 refine go<|Pl 3<|L0<|cY (p:=⟨j,3,none⟩) (v:=.int .i64 (((bo (ai.mk b false 0) 2000).endC).e)) (RC.fld a9)<|Pl 1<|nt<|?_
 have ab:=u1 c4 b1 im
 have b2:=ut q ab (ac (ni f.size a) (ac (ni (le f.size g.size) d) av))
 have hs:aj aC 0 c b=aP (aU.mk c 0 ((ai.mk b false 0).wordV) (((ai.mk b false 0).wordsC 1).wordV) 0 0 0 0 0 0 0 0 [] [] [] [] 0 0 0 0 0 []) (bo (ai.mk b false 0) 2000):=by
   unfold aj aC cQ cM cE f9 ns gc nm m9 mR dA eF
   (try simp only[r,bs,if_true,if_false,decide_true,decide_false,eq_self,true_or,or_true,or_false,false_or,if_true,if_false,cP,cO,cN,cR,reduceIte,dN])
   all_goals rfl
 refine cb (((((bo (ai.mk b false 0) 2000).endC).e)!=0)) (fun ad=>?_) (fun ad=>?_)
 have af:=al ad
 refine sq<|Rg 7 (fun w'=>w'.cell? ⟨j,3,none⟩=some (.int .i64 (((bo (ai.mk b false 0) 2000).endC).e))) fun db a0=>?_
 have b3:=RC.upd a9 a0 am (az.step (RC.u a9) a0)
 refine bg (RC.fld b3) fun M=>Rt 0 M<|Rt 1 M<|Rt 2 M<|Rt 3 M<|Rl 4 M (fun _ hs=>hs)<|?_
 refine R0 5 rfl<|aT (ub (ut l (aE ab a0) (ac (nr a) (ac (ni g.size d) av))) i) mZ fun dc c5 b4=>?_
 have b5:=ud b2 (uz a0 b4) o
 refine bg (RC.fld (RC.upd b3 b4 (aa (Ne.symm (nb (ak i) lr a)) am) b5)) fun c6=>Rt 6 c6<|re<|tn<|rt<|tr<|bu c5 (.int .i64 (((bo (ai.mk b false 0) 2000).endC).e))<|?_
 rw[hs]
 exact aV af b5
 have af:=ae ad
 refine aX<|sg<|?_
 refine L0<|bV (aK b1 (Ne.symm b0) c2)<|?_
 refine L0<|aT (ub (ut l ab (ac (nr a) (ac (ni g.size d) av))) i) (mG c 0 ((ai.mk b false 0).wordV) (((ai.mk b false 0).wordsC 1).wordV) 0 0 0 0 0 0 0 0 nS nS nS nS 0 0 0 0 0 nS) fun dd c7 c8=>Pl 1<|nt<|rt<|bu c7 (.int .i64 0)<|?_
 rw[hs]
 exact b7 af ⟨_,_,_,_,_,rfl,aB.nil ..,aB.nil ..,(fun _ _ _=>aB.nil ..),aB.nil ..,aB.nil ..,(bL (by omega))⟩ (ud b2 c8 o)
 have bY:=aq r
 refine go<|Pl 2<|nt<|cb ((c==2)) (fun D=>?_) (fun D=>?_)
 have c9:=ap D
 refine sq<|sg<|Pl 2<|nt<|c1<|sg<|Pl 1<|?_
 have ag:RC w _ A cp b Y j (ai.mk b false 0):=⟨hsl,q,(Nat.le_trans f.size a),⟨0,(ub L k),Nat.zero_le _,rfl⟩,by omega⟩
 have b6:=nb (ak k) lr d
 refine L0<|Oc<|m3 (kK (most:=2000) (b8 (by omega)) ag Z (Nat.le_trans (le f.size g.size) d) b6) fun df ca cc cd=>?_
 have dg:=bE (RC.rng ag)
 have dh:=bE (c:=(ai.mk b false 0).wordsC 1) (c3 (RC.rng ag) 1)
 refine nt<|xt<|tx<|bx<|tn<|sg<|Pl 1<|L0<|Oc<|m2 (dy ca) fun di ah b9=>nt<|sq<|sq<|?_
 refine go<|Pl 3<|L0<|cY (p:=⟨j,3,none⟩) (v:=.int .i64 (((bo (ai.mk b false 0) 2000).endC).e)) (RC.fld ah)<|Pl 1<|nt<|?_
 have an:=u1 cd b9 im
 have ba:=ut q an (ac (ni f.size a) (ac (ni (le f.size g.size) d) av))
 have hs:aj aC 0 c b=aP (aU.mk c 0 ((ai.mk b false 0).wordV) (((ai.mk b false 0).wordsC 1).wordV) 0 0 0 0 0 0 0 0 [] [] [] [] 0 0 0 0 0 []) (bo (ai.mk b false 0) 2000):=by
   unfold aj aC cQ cM cE f9 ns gc nm m9 mR dA eF
   (try simp only[r,D,bs,if_true,if_false,decide_true,decide_false,eq_self,true_or,or_true,or_false,false_or,if_true,if_false,cP,cO,cN,cR,reduceIte,dN])
   all_goals rfl
 refine cb (((((bo (ai.mk b false 0) 2000).endC).e)!=0)) (fun ao=>?_) (fun ao=>?_)
 have ar:=al ao
 refine sq<|Rg 7 (fun w'=>w'.cell? ⟨j,3,none⟩=some (.int .i64 (((bo (ai.mk b false 0) 2000).endC).e))) fun dj a1=>?_
 have bb:=RC.upd ah a1 am (az.step (RC.u ah) a1)
 refine bg (RC.fld bb) fun N=>Rt 0 N<|Rt 1 N<|Rt 2 N<|Rt 3 N<|Rl 4 N (fun _ hs=>hs)<|?_
 refine R0 5 rfl<|aT (ub (ut l (aE an a1) (ac (nr a) (ac (ni g.size d) av))) i) mZ fun dk cf bc=>?_
 have bd:=ud ba (uz a1 bc) o
 refine bg (RC.fld (RC.upd bb bc (aa (Ne.symm (nb (ak i) lr a)) am) bd)) fun cg=>Rt 6 cg<|re<|tn<|rt<|tr<|bu cf (.int .i64 (((bo (ai.mk b false 0) 2000).endC).e))<|?_
 rw[hs]
 exact aV ar bd
 have ar:=ae ao
 refine aX<|sg<|?_
 refine L0<|bV (aK b9 (Ne.symm b6) cc)<|?_
 refine L0<|aT (ub (ut l an (ac (nr a) (ac (ni g.size d) av))) i) (mG c 0 ((ai.mk b false 0).wordV) (((ai.mk b false 0).wordsC 1).wordV) 0 0 0 0 0 0 0 0 nS nS nS nS 0 0 0 0 0 nS) fun dl ch cj=>Pl 1<|nt<|rt<|bu ch (.int .i64 0)<|?_
 rw[hs]
 exact b7 ar ⟨_,_,_,_,_,rfl,aB.nil ..,aB.nil ..,(fun _ _ _=>aB.nil ..),aB.nil ..,aB.nil ..,(bL (by omega))⟩ (ud ba cj o)
 have c9:=aq D
 refine sg<|Pl 2<|nt<|cb ((c==5)) (fun H=>?_) (fun H=>?_)
 have cl:=ap H
 refine sg<|Pl 1<|?_
 have cm:RC w _ A cp b Y j (ai.mk b false 0):=⟨hsl,q,(Nat.le_trans f.size a),⟨0,(ub L k),Nat.zero_le _,rfl⟩,by omega⟩
 refine L0<|Oc<|m3 (ci cm) fun dm cn be dn=>Pl 1<|?_
 have O:=nb (ak k) lr d
 refine L0<|bC (aK be (Ne.symm O) Z) 2 (mG c 0 ((ai.mk b false 0).wordV) 0 0 0 0 0 0 0 0 0 nS nS nS nS 0 0 0 0 0 nS) fun dp co bh=>ng<|Pl 1<|?_
 have aw:=us be bh
 have bi:=ut q aw (ac (ni f.size a) (ac (ni (le f.size g.size) d) av))
 refine L0<|Oc<|m3 (ci (RC.upd cn bh (aa O am) bi)) fun dq cq bj dr=>Pl 1<|?_
 refine L0<|bC (aK bj (Ne.symm O) co) 4 (mG c 0 ((ai.mk b false 0).wordV) 0 (((ai.mk b false 0).wordsC 1).wordV) 0 0 0 0 0 0 0 nS nS nS nS 0 0 0 0 0 nS) fun ds aA bm=>nt<|go<|Pl 2<|L0<|aZ aA 4<|Pl 2<|cu 4 [62] 66 ((((((ai.mk b false 0).wordsC 1).wordV)==0)||((((ai.mk b false 0).wordsC 1).wordV)==65280))) (fun K bp=>?_) ?_
 refine bl 62 (((((ai.mk b false 0).wordsC 1).wordV)==0)) (fun P=>?_) (fun P=>?_)
 have cr:=ap P
 exact Pl 4<|ce bp true (by rw[P];rfl)
 have cr:=aq P
 exact Pl 1<|L1<|aZ aA 4<|Pl 2<|ce bp ((((ai.mk b false 0).wordsC 1).wordV)==65280) (by rw[P];rfl)
 have aD:=us bj bm
 have bq:=ut bi aD (ac (ni f.size a) (ac (ni (le f.size g.size) d) av))
 refine L0<|Oc<|m2 (aL ((((((ai.mk b false 0).wordsC 1).wordV)==0)||((((ai.mk b false 0).wordsC 1).wordV)==65280))) 6 (RC.upd cq bm (aa O am) bq)) fun dt cs cv=>?_
 refine eH cs fun Q cw cx=>?_
 refine nl<|bn<|tn<|sg<|Pl 1<|L0<|Oc<|m2 (dy cx) fun du aF cy=>nt<|sq<|sg<|Pl 3<|L0<|cY (p:=⟨j,3,none⟩) (v:=.int .i64 Q.endC.e) (RC.fld aF)<|?_
 refine Pl 1<|nt<|?_
 have a2:=u1 cv cy im
 have bt:=ud bq a2 (le f.size a)
 have hs:aj aC 0 c b=aP (aU.mk c 0 ((ai.mk b false 0).wordV) 0 (((ai.mk b false 0).wordsC 1).wordV) 0 0 0 0 0 0 0 [] [] [] [] 0 0 0 0 0 []) Q:=by
   subst cw
   unfold aj aC cQ cM cE f9 ns gc nm m9 mR dA eF
   (try simp only[r,D,H,bs,if_true,if_false,decide_true,decide_false,eq_self,true_or,or_true,or_false,false_or,if_true,if_false,cP,cO,cN,cR,reduceIte,dN])
   all_goals rfl
 refine cb ((Q.endC.e != 0)) (fun aG=>?_) (fun aG=>?_)
 have aH:=al aG
 refine sq<|Rg 7 (fun w'=>w'.cell? ⟨j,3,none⟩=some (.int .i64 Q.endC.e)) fun dv a3=>?_
 have bv:=RC.upd aF a3 am (az.step (RC.u aF) a3)
 refine bg (RC.fld bv) fun R=>Rt 0 R<|Rt 1 R<|Rt 2 R<|Rt 3 R<|Rl 4 R (fun _ hs=>hs)<|?_
 refine R0 5 rfl<|aT (ub (ut l (ut aw (u1 aD (aE a2 a3) im) (ac im (ac im av))) (ac (nr a) (ac (ni g.size d) av))) i) mZ fun dw cz bw=>?_
 have bz:=ud bt (uz a3 bw) o
 refine bg (RC.fld (RC.upd bv bw (aa (Ne.symm (nb (ak i) lr a)) am) bz)) fun cA=>Rt 6 cA<|re<|tn<|rt<|tr<|bu cz (.int .i64 Q.endC.e)<|?_
 rw[hs]
 exact aV aH bz
 have aH:=ae aG
 refine aX<|sg<|?_
 refine L0<|bV (aK a2 (Ne.symm O) aA)<|?_
 refine L0<|aT (ub (ut l (ut aw (u1 aD a2 im) (ac im (ac im av))) (ac (nr a) (ac (ni g.size d) av))) i) (mG c 0 ((ai.mk b false 0).wordV) 0 (((ai.mk b false 0).wordsC 1).wordV) 0 0 0 0 0 0 0 nS nS nS nS 0 0 0 0 0 nS) fun dx cB cC=>Pl 1<|nt<|rt<|bu cB (.int .i64 0)<|?_
 rw[hs]
 exact b7 aH ⟨_,_,_,_,_,rfl,aB.nil ..,aB.nil ..,(fun _ _ _=>aB.nil ..),aB.nil ..,aB.nil ..,(bL (by omega))⟩ (ud bt cC o)
 have cl:=aq H
 refine sg<|Pl 2<|nt<|cb ((c==15)) (fun S=>?_) (fun S=>?_)
 have cF:=ap S
 refine sg<|Pl 1<|?_
 have aI:RC w _ A cp b Y j (ai.mk b false 0):=⟨hsl,q,(Nat.le_trans f.size a),⟨0,(ub L k),Nat.zero_le _,rfl⟩,by omega⟩
 have E:=nb (ak k) lr d
 refine L0<|Oc<|m3 (kK (most:=1968) (b8 (by omega)) aI Z (Nat.le_trans (le f.size g.size) d) E) fun dB cG cH F=>?_
 have dD:=bE (RC.rng aI)
 have dE:=bE (c:=(ai.mk b false 0).wordsC 1) (c3 (RC.rng aI) 1)
 refine nt<|sq<|sg<|Pl 2<|nt<|c0<|aX<|sg<|Pl 1<|L0<|Oc<|m3 (de cG) fun cI bA y dF=>?_
 refine L0<|Oi ((bo (ai.mk b false 0) 1968).byteV)<|Pl 1<|ng<|Pl 3<|?_
 have bB:=aK y (Ne.symm E) cH
 refine L0<|aZ bB 3<|L0<|Oi (((ai.mk b false 0).wordsC 1).wordV)<|L0<|Oc<|m1 (uw (n:=((ai.mk b false 0).wordsC 1).wordV) (w:=cI) (by omega)) fun dG s=>Pl 1<|?_
 refine L0<|Oc<|m2 (aL ((((bo (ai.mk b false 0) 1968).byteV)==(dz (((ai.mk b false 0).wordsC 1).wordV)))) 5 (RC.upd bA s am (az.step (RC.u bA) s))) fun dH cJ G=>?_
 refine eH cJ fun I cK bF=>?_
 refine nt<|sq<|Rg 12 (fun w'=>w'.cell? ⟨a6,3,none⟩=some (.int .u16 (((ai.mk b false 0).wordsC 1).wordV))) fun dI t=>?_
 have bG:=uz s (aE G t)
 have bH:=aK bG (Ne.symm E) bB
 refine bg (au bH rfl) fun T=>Rt 0 T<|Rt 1 T<|Rt 3 T<|Rl 4 T (fun _ hs=>hs)<|Rr 5 T (.int .i64 (((ai.mk b false 0).wordsC 1).wordV)) (fun _ _=>ck (.int .i64 (IntKind.i64.wrap (((ai.mk b false 0).wordsC 1).wordV))) (by kernel_rfl) (congrArg (Value.int .i64) (i64_in (by omega))))<|?_
 have bI:=RC.upd bF t am (az.step (RC.u bF) t)
 refine R0 2 rfl<|Oc<|m7 (ew (n:=(bo (ai.mk b false 0) 1968).byteV) (by omega) bI) fun cL cS dJ cT aJ z=>?_
 have dK:=Nat.le_trans (ai.bytesR_le I ((bo (ai.mk b false 0) 1968).byteV)) (RC.clen bI)
 have bJ:=aK z (Ne.symm E) bH
 refine bg (au bJ rfl) fun dL=>R0 6 rfl<|Oc (args:=#[.slice cL ((I.bytesR ((bo (ai.mk b false 0) 1968).byteV)).length) cS,.int .i64 (((ai.mk b false 0).wordsC 1).wordV)])<|m6 (rG (n:=((ai.mk b false 0).wordsC 1).wordV) (cT _ _ (RC.rd aJ)) (by omega) (by omega)) fun bK bM dM B dO dP a4=>?_
 have bO:=ub a4 bJ
 refine bg (au bO rfl) fun U=>Rt 7 U<|Rt 8 U<|Rt 9 U<|Rt 10 U<|Rt 11 U<|re<|tn<|sg<|Pl 2<|?_
 refine L0<|Oc<|m2 (aL ((bN (I.bytesR ((bo (ai.mk b false 0) 1968).byteV)) (((ai.mk b false 0).wordsC 1).wordV)).isSome) 6 (RC.upd aJ a4 am (az.step (RC.u aJ) a4))) fun dQ cU bP=>?_
 refine eH cU fun V cV cW=>?_
 refine nt<|go<|Pl 2<|?_
 refine L0<|bC (aK bP (Ne.symm E) bO) 13 (mG c 0 ((ai.mk b false 0).wordV) (((ai.mk b false 0).wordsC 1).wordV) 0 0 0 0 0 0 0 0 nS (.slice bK (((bN (I.bytesR ((bo (ai.mk b false 0) 1968).byteV)) (((ai.mk b false 0).wordsC 1).wordV)).getD []).length) bM) nS nS 0 0 0 0 0 nS) fun dR cX bQ=>nl<|bn<|tn<|sg<|Pl 1<|?_
 have aM:=us bP bQ
 have aN:=ut F (ui y (ui bG (ui z (uz a4 aM)))) (ac im (ac im av))
 have bR:=ut q aN (ac (ni f.size a) (ac (ni (le f.size g.size) d) av))
 refine L0<|Oc<|m2 (dy (RC.upd cW bQ (aa E am) bR)) fun dS aO W=>nt<|sq<|sg<|Pl 3<|L0<|cY (p:=⟨j,3,none⟩) (v:=.int .i64 V.endC.e) (RC.fld aO)<|Pl 1<|nt<|?_
 have bS:=ud bR W (le f.size a)
 have hs:aj aC 0 c b=aP (aU.mk c 0 ((ai.mk b false 0).wordV) (((ai.mk b false 0).wordsC 1).wordV) 0 0 0 0 0 0 0 0 [] ((bN (I.bytesR ((bo (ai.mk b false 0) 1968).byteV)) (((ai.mk b false 0).wordsC 1).wordV)).getD []) [] [] 0 0 0 0 0 []) V:=by
   subst cV cK
   unfold aj aC cQ cM cE f9 ns gc nm m9 mR dA eF
   (try simp only[r,D,H,S,bs,if_true,if_false,decide_true,decide_false,eq_self,true_or,or_true,or_false,false_or,if_true,if_false,cP,cO,cN,cR,reduceIte,dN])
   all_goals rfl
 refine cb ((V.endC.e != 0)) (fun aR=>?_) (fun aR=>?_)
 have aS:=al aR
 refine sq<|Rg 7 (fun w'=>w'.cell? ⟨j,3,none⟩=some (.int .i64 V.endC.e)) fun dT a5=>?_
 have bT:=RC.upd aO a5 am (az.step (RC.u aO) a5)
 refine bg (RC.fld bT) fun X=>Rt 0 X<|Rt 1 X<|Rt 2 X<|Rt 3 X<|Rl 4 X (fun _ hs=>hs)<|?_
 have bU:=aE W a5
 refine R0 5 rfl<|aT (ub (ut l (u1 aN bU im) (ac (nr a) (ac (ni g.size d) av))) i) mZ fun dU cZ aW=>?_
 have bW:=ud bS (uz a5 aW) o
 refine bg (RC.fld (RC.upd bT aW (aa (Ne.symm (nb (ak i) lr a)) am) bW)) fun d0=>Rt 6 d0<|re<|tn<|rt<|tr<|bu cZ (.int .i64 V.endC.e)<|?_
 have dV:=ax B (ut (az.mono (S':=[j,a6,aY]) aM (ac im (ac im av))) (us bU aW) (ac im (ac im av))) (fun x hx=>(aa (fun e=>(ay (ak k) (le (le (le (le (le (le (le J.size C.size) F.size) y.size) s.size) G.size) t.size) z.size) B) (e▸hx)) (aa (fun e=>(ay (ak a7) (le (le (le (le (le (le C.size F.size) y.size) s.size) G.size) t.size) z.size) B) (e▸hx)) (aa (fun e=>(ay (ak i) (le (le (le (le (le (le (le (le g.size J.size) C.size) F.size) y.size) s.size) G.size) t.size) z.size) B) (e▸hx)) am)))) (fun _ _ h=>h)
 rw[hs]
 exact aV aS bW
 have aS:=ae aR
 refine aX<|sg<|?_
 refine L0<|bV (aK W (Ne.symm E) cX)<|?_
 refine L0<|aT (ub (ut l (u1 aN W im) (ac (nr a) (ac (ni g.size d) av))) i) (mG c 0 ((ai.mk b false 0).wordV) (((ai.mk b false 0).wordsC 1).wordV) 0 0 0 0 0 0 0 0 nS (.slice bK (((bN (I.bytesR ((bo (ai.mk b false 0) 1968).byteV)) (((ai.mk b false 0).wordsC 1).wordV)).getD []).length) bM) nS nS 0 0 0 0 0 nS) fun dW d1 bX=>Pl 1<|nt<|rt<|bu d1 (.int .i64 0)<|?_
 rw[hs]
 exact b7 aS ⟨_,_,_,_,_,rfl,aB.nil ..,((ax B (ut (az.mono (S':=[j,a6,aY]) aM (ac im (ac im av))) (us W bX) (ac im (ac im av))) (fun x hx=>(aa (fun e=>(ay (ak k) (le (le (le (le (le (le (le J.size C.size) F.size) y.size) s.size) G.size) t.size) z.size) B) (e▸hx)) (aa (fun e=>(ay (ak a7) (le (le (le (le (le (le C.size F.size) y.size) s.size) G.size) t.size) z.size) B) (e▸hx)) (aa (fun e=>(ay (ak i) (le (le (le (le (le (le (le (le g.size J.size) C.size) F.size) y.size) s.size) G.size) t.size) z.size) B) (e▸hx)) am)))) (fun _ _ h=>h))).rd,(fun _ _ _=>aB.nil ..),aB.nil ..,aB.nil ..,(bL (by omega))⟩ (ud bS bX o)
 have cF:=aq S
 refine sg<|Pl 1<|?_
 refine L0<|aT (ub l i) mZ fun dX d2 d3=>Pl 1<|nt<|rt<|br<|tr<|bu d2 (.int .i64 4)<|?_
 have hs:aj aC 0 c b=(aU.zero,4):=by
   unfold aj aC cQ cM cE f9 ns gc nm m9 mR dA eF
   (try simp only[r,D,H,S,bs,if_true,if_false,decide_true,decide_false,eq_self,true_or,or_true,or_false,false_or,if_true,if_false,cP,cO,cN,cR,reduceIte,dN])
   all_goals rfl
 rw[hs]
 exact bf (ud q d3 o)
theorem iH{m:Md}{A:Option Addr}{cp:Nat}{b:List Int}{w:World}{c:Int}(hcode:B8 c)(hsl:aQ m w (.slice A b.length cp) b)(hb:b.length≤1048576) :
    Calls Tryz.prog 93 #[.int .i64 1,.int .u8 c,.slice A b.length cp] w (cD (.slice A b.length cp) b (aj aC 1 c b) w):=by
 obtain⟨hcode1,hcode2⟩:=hcode
 have hln:(b.length:Int)≤1048576:=by omega
 refine en 113 Tryz.func93 rfl<|sg<|L0<|bD mZ fun cI cJ k h d=>Pl 1<|nt<|sq<|sg<|Pl 6<|nt<|c0<|?_
 refine aX<|sg<|Pl 2<|L0<|dC #[.slice A b.length cp,.int .i64 0,.bool false,.int .i64 0] fun i cK a r g=>Pl 1<|ng<|Pl 2<|L0<|bD mZ fun cL cS f bp bq=>L0<|aT bp (mC c) fun J L bt=>?_
 refine nt<|sq<|sg<|Pl 1<|nt<|bk<|sq<|sg<|Pl 2<|nl<|?_
 refine tn<|?_
 have x:=ud bq bt f
 have j:=aE g x
 have l:=aE d j
 refine cb ((c==1)) (fun o=>?_) (fun o=>?_)
 have bv:=ap o
 refine aX<|ct o<|sq<|sg<|Pl 2<|nt<|c0<|aX<|sg<|?_
 refine Pl 1<|?_
 have bw:RC w _ A cp b J i (ai.mk b false 0):=⟨hsl,l,(Nat.le_trans d.size a),⟨0,(ub x r),Nat.zero_le _,rfl⟩,by omega⟩
 refine L0<|Oc<|m3 (de bw) fun cT bz bA cU=>L0<|Oi ((ai.mk b false 0).byteV)<|Pl 1<|ng<|Pl 4<|cu 3 [41] 44 (((decide (0<((ai.mk b false 0).byteV)))&&(decide (((ai.mk b false 0).byteV)≤250)))) (fun K ah=>?_) ?_
 refine bl 41 ((decide (0<((ai.mk b false 0).byteV)))) (fun y=>?_) (fun y=>?_)
 have bB:=of_decide_eq_true y
 exact Pl 3<|ce ah (decide (((ai.mk b false 0).byteV)≤250)) (by rw[y];rfl)
 have bB:=of_decide_eq_false y
 exact Pl 3<|ce ah false (by rw[y];rfl)
 refine L0<|Oc<|m2 (aL (((decide (0<((ai.mk b false 0).byteV)))&&(decide (((ai.mk b false 0).byteV)≤250)))) 5 bz) fun cV bF bG=>?_
 refine eH bF fun x43 bH an=>?_
 refine nt<|go<|Pl 2<|L0<|Oc<|m7 (ew (n:=(ai.mk b false 0).byteV) (by omega) an) fun ao ar cW bI bJ bK=>?_
 have cX:=Nat.le_trans (ai.bytesR_le x43 ((ai.mk b false 0).byteV)) (RC.clen an)
 refine Pl 1<|?_
 have au:=u1 bA (u1 bG bK im) im
 have T:=nb (ak r) lr f
 refine L0<|bC (aK au (Ne.symm T) L) 14 (mG c 0 0 0 0 0 0 0 0 0 0 0 nS nS (.slice ao ((x43.bytesR ((ai.mk b false 0).byteV)).length) ar) nS 0 0 0 0 0 nS) fun cZ bM aw=>nl<|bn<|tn<|sg<|Pl 1<|?_
 have U:=us au aw
 have ax:=ut l U (ac (ni d.size a) (ac (ni (le d.size g.size) f) av))
 refine L0<|Oc<|m2 (dy (RC.upd bJ aw (aa T am) ax)) fun d0 V M=>nt<|sq<|sg<|Pl 3<|L0<|cY (p:=⟨i,3,none⟩) (v:=.int .i64 (((x43.bytesC ((ai.mk b false 0).byteV)).endC).e)) (RC.fld V)<|Pl 1<|nt<|?_
 have ay:=ud ax M (le d.size a)
 have hs:aj aC 1 c b=aP (aU.mk c 0 0 0 0 0 0 0 0 0 0 0 [] [] (x43.bytesR ((ai.mk b false 0).byteV)) [] 0 0 0 0 0 []) (x43.bytesC ((ai.mk b false 0).byteV)):=by
   subst bH
   unfold aj aC cQ cM cE f9 ns gc nm m9 mR dA eF
   (try simp only[o,bs,if_true,if_false,decide_true,decide_false,eq_self,true_or,or_true,or_false,false_or,if_true,if_false,cP,cO,cN,cR,reduceIte,dN])
   all_goals rfl
 refine cb (((((x43.bytesC ((ai.mk b false 0).byteV)).endC).e)!=0)) (fun W=>?_) (fun W=>?_)
 have X:=al W
 refine sq<|Rg 7 (fun w'=>w'.cell? ⟨i,3,none⟩=some (.int .i64 (((x43.bytesC ((ai.mk b false 0).byteV)).endC).e))) fun d1 N=>?_
 have aA:=RC.upd V N am (az.step (RC.u V) N)
 refine bg (RC.fld aA) fun z=>Rt 0 z<|Rt 1 z<|Rt 2 z<|Rt 3 z<|Rl 4 z (fun _ hs=>hs)<|?_
 refine R0 5 rfl<|aT (ub (ut j (u1 U (aE M N) im) (ac (nr a) (ac (ni g.size f) av))) h) mZ fun d2 bN aD=>?_
 have aF:=ud ay (uz N aD) k
 refine bg (RC.fld (RC.upd aA aD (aa (Ne.symm (nb (ak h) lr a)) am) aF)) fun bO=>Rt 6 bO<|re<|tn<|rt<|tr<|bu bN (.int .i64 (((x43.bytesC ((ai.mk b false 0).byteV)).endC).e))<|?_
 rw[hs]
 exact aV X aF
 have X:=ae W
 refine aX<|sg<|?_
 refine L0<|bV (aK M (Ne.symm T) bM)<|?_
 refine L0<|aT (ub (ut j (u1 U M im) (ac (nr a) (ac (ni g.size f) av))) h) (mG c 0 0 0 0 0 0 0 0 0 0 0 nS nS (.slice ao ((x43.bytesR ((ai.mk b false 0).byteV)).length) ar) nS 0 0 0 0 0 nS) fun d3 bP bQ=>Pl 1<|nt<|rt<|bu bP (.int .i64 0)<|?_
 rw[hs]
 exact b7 X ⟨_,_,_,_,_,rfl,aB.nil ..,aB.nil ..,bI,aB.nil ..,aB.nil ..,(bL (by omega))⟩ (ud ay bQ k)
 have bv:=aq o
 refine go<|Pl 2<|nt<|cb ((c==2)) (fun s=>?_) (fun s=>?_)
 have bR:=ap s
 refine sq<|sg<|Pl 2<|nt<|c0<|aX<|sg<|Pl 1<|?_
 have bS:RC w _ A cp b J i (ai.mk b false 0):=⟨hsl,l,(Nat.le_trans d.size a),⟨0,(ub x r),Nat.zero_le _,rfl⟩,by omega⟩
 refine L0<|Oc<|m3 (de bS) fun d4 bT bU d5=>L0<|Oi ((ai.mk b false 0).byteV)<|Pl 1<|ng<|Pl 4<|cu 3 [41] 44 (((decide (0<((ai.mk b false 0).byteV)))&&(decide (((ai.mk b false 0).byteV)≤250)))) (fun K aG=>?_) ?_
 refine bl 41 ((decide (0<((ai.mk b false 0).byteV)))) (fun B=>?_) (fun B=>?_)
 have bW:=of_decide_eq_true B
 exact Pl 3<|ce aG (decide (((ai.mk b false 0).byteV)≤250)) (by rw[B];rfl)
 have bW:=of_decide_eq_false B
 exact Pl 3<|ce aG false (by rw[B];rfl)
 refine L0<|Oc<|m2 (aL (((decide (0<((ai.mk b false 0).byteV)))&&(decide (((ai.mk b false 0).byteV)≤250)))) 5 bT) fun d6 bX bY=>?_
 refine eH bX fun q bZ aH=>?_
 refine nt<|go<|Pl 2<|L0<|Oc<|m7 (ew (n:=(ai.mk b false 0).byteV) (by omega) aH) fun aI aJ d7 c2 c4 c5=>?_
 have d8:=Nat.le_trans (ai.bytesR_le q ((ai.mk b false 0).byteV)) (RC.clen aH)
 refine Pl 1<|?_
 have aM:=u1 bU (u1 bY c5 im) im
 have Y:=nb (ak r) lr f
 refine L0<|bC (aK aM (Ne.symm Y) L) 14 (mG c 0 0 0 0 0 0 0 0 0 0 0 nS nS (.slice aI ((q.bytesR ((ai.mk b false 0).byteV)).length) aJ) nS 0 0 0 0 0 nS) fun d9 c6 aN=>nl<|bn<|tn<|sg<|Pl 1<|?_
 have Z:=us aM aN
 have aO:=ut l Z (ac (ni d.size a) (ac (ni (le d.size g.size) f) av))
 refine L0<|Oc<|m2 (dy (RC.upd c4 aN (aa Y am) aO)) fun da a0 O=>nt<|sq<|sg<|Pl 3<|L0<|cY (p:=⟨i,3,none⟩) (v:=.int .i64 (((q.bytesC ((ai.mk b false 0).byteV)).endC).e)) (RC.fld a0)<|Pl 1<|nt<|?_
 have aR:=ud aO O (le d.size a)
 have hs:aj aC 1 c b=aP (aU.mk c 0 0 0 0 0 0 0 0 0 0 0 [] [] (q.bytesR ((ai.mk b false 0).byteV)) [] 0 0 0 0 0 []) (q.bytesC ((ai.mk b false 0).byteV)):=by
   subst bZ
   unfold aj aC cQ cM cE f9 ns gc nm m9 mR dA eF
   (try simp only[o,s,bs,if_true,if_false,decide_true,decide_false,eq_self,true_or,or_true,or_false,false_or,if_true,if_false,cP,cO,cN,cR,reduceIte,dN])
   all_goals rfl
 refine cb (((((q.bytesC ((ai.mk b false 0).byteV)).endC).e)!=0)) (fun a1=>?_) (fun a1=>?_)
 have a2:=al a1
 refine sq<|Rg 7 (fun w'=>w'.cell? ⟨i,3,none⟩=some (.int .i64 (((q.bytesC ((ai.mk b false 0).byteV)).endC).e))) fun db P=>?_
 have aS:=RC.upd a0 P am (az.step (RC.u a0) P)
 refine bg (RC.fld aS) fun C=>Rt 0 C<|Rt 1 C<|Rt 2 C<|Rt 3 C<|Rl 4 C (fun _ hs=>hs)<|?_
 refine R0 5 rfl<|aT (ub (ut j (u1 Z (aE O P) im) (ac (nr a) (ac (ni g.size f) av))) h) mZ fun dc c7 aW=>?_
 have aY:=ud aR (uz P aW) k
 refine bg (RC.fld (RC.upd aS aW (aa (Ne.symm (nb (ak h) lr a)) am) aY)) fun c8=>Rt 6 c8<|re<|tn<|rt<|tr<|bu c7 (.int .i64 (((q.bytesC ((ai.mk b false 0).byteV)).endC).e))<|?_
 rw[hs]
 exact aV a2 aY
 have a2:=ae a1
 refine aX<|sg<|?_
 refine L0<|bV (aK O (Ne.symm Y) c6)<|?_
 refine L0<|aT (ub (ut j (u1 Z O im) (ac (nr a) (ac (ni g.size f) av))) h) (mG c 0 0 0 0 0 0 0 0 0 0 0 nS nS (.slice aI ((q.bytesR ((ai.mk b false 0).byteV)).length) aJ) nS 0 0 0 0 0 nS) fun dd c9 ca=>Pl 1<|nt<|rt<|bu c9 (.int .i64 0)<|?_
 rw[hs]
 exact b7 a2 ⟨_,_,_,_,_,rfl,aB.nil ..,aB.nil ..,c2,aB.nil ..,aB.nil ..,(bL (by omega))⟩ (ud aR ca k)
 have bR:=aq s
 refine sg<|Pl 2<|nt<|cb ((c==5)) (fun t=>?_) (fun t=>?_)
 have cc:=ap t
 refine sg<|Pl 1<|?_
 have cd:RC w _ A cp b J i (ai.mk b false 0):=⟨hsl,l,(Nat.le_trans d.size a),⟨0,(ub x r),Nat.zero_le _,rfl⟩,by omega⟩
 refine L0<|Oc<|m3 (ci cd) fun df cf b0 dg=>Pl 1<|?_
 have D:=nb (ak r) lr f
 refine L0<|bC (aK b0 (Ne.symm D) L) 2 (mG c 0 ((ai.mk b false 0).wordV) 0 0 0 0 0 0 0 0 0 nS nS nS nS 0 0 0 0 0 nS) fun dh cg b1=>ng<|Pl 1<|?_
 have a3:=us b0 b1
 have b2:=ut l a3 (ac (ni d.size a) (ac (ni (le d.size g.size) f) av))
 refine L0<|Oc<|m3 (ci (RC.upd cf b1 (aa D am) b2)) fun di ch b3 dj=>Pl 1<|?_
 refine L0<|bC (aK b3 (Ne.symm D) cg) 4 (mG c 0 ((ai.mk b false 0).wordV) 0 (((ai.mk b false 0).wordsC 1).wordV) 0 0 0 0 0 0 0 nS nS nS nS 0 0 0 0 0 nS) fun dk a4 b4=>nt<|go<|Pl 2<|L0<|aZ a4 4<|Pl 2<|cu 4 [62] 66 ((((((ai.mk b false 0).wordsC 1).wordV)==0)||((((ai.mk b false 0).wordsC 1).wordV)==65280))) (fun K b5=>?_) ?_
 refine bl 62 (((((ai.mk b false 0).wordsC 1).wordV)==0)) (fun E=>?_) (fun E=>?_)
 have cj:=ap E
 exact Pl 4<|ce b5 true (by rw[E];rfl)
 have cj:=aq E
 exact Pl 1<|L1<|aZ a4 4<|Pl 2<|ce b5 ((((ai.mk b false 0).wordsC 1).wordV)==65280) (by rw[E];rfl)
 have a5:=us b3 b4
 have b6:=ut b2 a5 (ac (ni d.size a) (ac (ni (le d.size g.size) f) av))
 refine L0<|Oc<|m2 (aL ((((((ai.mk b false 0).wordsC 1).wordV)==0)||((((ai.mk b false 0).wordsC 1).wordV)==65280))) 6 (RC.upd ch b4 (aa D am) b6)) fun dl ck cl=>?_
 refine eH ck fun F cm cn=>?_
 refine nl<|bn<|tn<|sg<|Pl 1<|L0<|Oc<|m2 (dy cn) fun dm a6 co=>nt<|sq<|sg<|Pl 3<|L0<|cY (p:=⟨i,3,none⟩) (v:=.int .i64 F.endC.e) (RC.fld a6)<|?_
 refine Pl 1<|nt<|?_
 have Q:=u1 cl co im
 have b9:=ud b6 Q (le d.size a)
 have hs:aj aC 1 c b=aP (aU.mk c 0 ((ai.mk b false 0).wordV) 0 (((ai.mk b false 0).wordsC 1).wordV) 0 0 0 0 0 0 0 [] [] [] [] 0 0 0 0 0 []) F:=by
   subst cm
   unfold aj aC cQ cM cE f9 ns gc nm m9 mR dA eF
   (try simp only[o,s,t,bs,if_true,if_false,decide_true,decide_false,eq_self,true_or,or_true,or_false,false_or,if_true,if_false,cP,cO,cN,cR,reduceIte,dN])
   all_goals rfl
 refine cb ((F.endC.e != 0)) (fun a7=>?_) (fun a7=>?_)
 have a8:=al a7
 refine sq<|Rg 7 (fun w'=>w'.cell? ⟨i,3,none⟩=some (.int .i64 F.endC.e)) fun dn R=>?_
 have ba:=RC.upd a6 R am (az.step (RC.u a6) R)
 refine bg (RC.fld ba) fun G=>Rt 0 G<|Rt 1 G<|Rt 2 G<|Rt 3 G<|Rl 4 G (fun _ hs=>hs)<|?_
 refine R0 5 rfl<|aT (ub (ut j (ut a3 (u1 a5 (aE Q R) im) (ac im (ac im av))) (ac (nr a) (ac (ni g.size f) av))) h) mZ fun dp cq bb=>?_
 have bc:=ud b9 (uz R bb) k
 refine bg (RC.fld (RC.upd ba bb (aa (Ne.symm (nb (ak h) lr a)) am) bc)) fun cr=>Rt 6 cr<|re<|tn<|rt<|tr<|bu cq (.int .i64 F.endC.e)<|?_
 rw[hs]
 exact aV a8 bc
 have a8:=ae a7
 refine aX<|sg<|?_
 refine L0<|bV (aK Q (Ne.symm D) a4)<|?_
 refine L0<|aT (ub (ut j (ut a3 (u1 a5 Q im) (ac im (ac im av))) (ac (nr a) (ac (ni g.size f) av))) h) (mG c 0 ((ai.mk b false 0).wordV) 0 (((ai.mk b false 0).wordsC 1).wordV) 0 0 0 0 0 0 0 nS nS nS nS 0 0 0 0 0 nS) fun dq cs cv=>Pl 1<|nt<|rt<|bu cs (.int .i64 0)<|?_
 rw[hs]
 exact b7 a8 ⟨_,_,_,_,_,rfl,aB.nil ..,aB.nil ..,(fun _ _ _=>aB.nil ..),aB.nil ..,aB.nil ..,(bL (by omega))⟩ (ud b9 cv k)
 have cc:=aq t
 refine sg<|Pl 2<|nt<|cb ((c==15)) (fun H=>?_) (fun H=>?_)
 have cw:=ap H
 refine sg<|Pl 1<|?_
 have a9:RC w _ A cp b J i (ai.mk b false 0):=⟨hsl,l,(Nat.le_trans d.size a),⟨0,(ub x r),Nat.zero_le _,rfl⟩,by omega⟩
 have bd:=nb (ak r) lr f
 refine L0<|Oc<|m3 (kK (most:=1968) (b8 (by omega)) a9 L (Nat.le_trans (le d.size g.size) f) bd) fun dr cx cy cz=>?_
 have ds:=bE (RC.rng a9)
 have dt:=bE (c:=(ai.mk b false 0).wordsC 1) (c3 (RC.rng a9) 1)
 refine nt<|sq<|sg<|Pl 2<|nt<|c1<|xt<|tx<|bx<|tn<|sq<|?_
 refine go<|Pl 1<|L0<|Oc<|m2 (dy cx) fun du ab be=>nt<|sq<|sg<|Pl 3<|L0<|cY (p:=⟨i,3,none⟩) (v:=.int .i64 (((bo (ai.mk b false 0) 1968).endC).e)) (RC.fld ab)<|Pl 1<|nt<|?_
 have ad:=u1 cz be im
 have bh:=ut l ad (ac (ni d.size a) (ac (ni (le d.size g.size) f) av))
 have hs:aj aC 1 c b=aP (aU.mk c 0 ((ai.mk b false 0).wordV) (((ai.mk b false 0).wordsC 1).wordV) 0 0 0 0 0 0 0 0 [] [] [] [] 0 0 0 0 0 []) (bo (ai.mk b false 0) 1968):=by
   unfold aj aC cQ cM cE f9 ns gc nm m9 mR dA eF
   (try simp only[o,s,t,H,bs,if_true,if_false,decide_true,decide_false,eq_self,true_or,or_true,or_false,false_or,if_true,if_false,cP,cO,cN,cR,reduceIte,dN])
   all_goals rfl
 refine cb (((((bo (ai.mk b false 0) 1968).endC).e)!=0)) (fun af=>?_) (fun af=>?_)
 have ag:=al af
 refine sq<|Rg 7 (fun w'=>w'.cell? ⟨i,3,none⟩=some (.int .i64 (((bo (ai.mk b false 0) 1968).endC).e))) fun dv S=>?_
 have bi:=RC.upd ab S am (az.step (RC.u ab) S)
 refine bg (RC.fld bi) fun I=>Rt 0 I<|Rt 1 I<|Rt 2 I<|Rt 3 I<|Rl 4 I (fun _ hs=>hs)<|?_
 refine R0 5 rfl<|aT (ub (ut j (aE ad S) (ac (nr a) (ac (ni g.size f) av))) h) mZ fun dw cA bj=>?_
 have bm:=ud bh (uz S bj) k
 refine bg (RC.fld (RC.upd bi bj (aa (Ne.symm (nb (ak h) lr a)) am) bm)) fun cB=>Rt 6 cB<|re<|tn<|rt<|tr<|bu cA (.int .i64 (((bo (ai.mk b false 0) 1968).endC).e))<|?_
 rw[hs]
 exact aV ag bm
 have ag:=ae af
 refine aX<|sg<|?_
 refine L0<|bV (aK be (Ne.symm bd) cy)<|?_
 refine L0<|aT (ub (ut j ad (ac (nr a) (ac (ni g.size f) av))) h) (mG c 0 ((ai.mk b false 0).wordV) (((ai.mk b false 0).wordsC 1).wordV) 0 0 0 0 0 0 0 0 nS nS nS nS 0 0 0 0 0 nS) fun dx cC cF=>Pl 1<|nt<|rt<|bu cC (.int .i64 0)<|?_
 rw[hs]
 exact b7 ag ⟨_,_,_,_,_,rfl,aB.nil ..,aB.nil ..,(fun _ _ _=>aB.nil ..),aB.nil ..,aB.nil ..,(bL (by omega))⟩ (ud bh cF k)
 have cw:=aq H
 refine sg<|Pl 1<|?_
 refine L0<|aT (ub j h) mZ fun dz cG cH=>Pl 1<|nt<|rt<|br<|tr<|bu cG (.int .i64 4)<|?_
 have hs:aj aC 1 c b=(aU.zero,4):=by
   unfold aj aC cQ cM cE f9 ns gc nm m9 mR dA eF
   (try simp only[o,s,t,H,bs,if_true,if_false,decide_true,decide_false,eq_self,true_or,or_true,or_false,false_or,if_true,if_false,cP,cO,cN,cR,reduceIte,dN])
   all_goals rfl
 rw[hs]
 exact bf (ud l cH k)
theorem j9{m:Md}{A:Option Addr}{cp:Nat}{b:List Int}{w:World}{dir c:Int}(hcode:B8 c)(hsl:aQ m w (.slice A b.length cp) b)(hb:b.length≤1048576)(hd:¬ (dir=0∨dir=1)) :
    Calls Tryz.prog 93 #[.int .i64 dir,.int .u8 c,.slice A b.length cp] w (cD (.slice A b.length cp) b (aj aC dir c b) w):=by
 obtain⟨hcode1,hcode2⟩:=hcode
 have hln:(b.length:Int)≤1048576:=by omega
 have e0:(dir != 0)=true:=by simp;omega
 have e1:(dir != 1)=true:=by simp;omega
 refine en 113 Tryz.func93 rfl<|sg<|L0<|bD mZ fun g h a d e=>Pl 1<|nt<|sq<|sg<|Pl 3<|sy 16 e0<|Pl 3<|nl<|?_
 refine tn<|ct e1<|sg<|Pl 1<|L0<|aT d mZ fun i dF f=>Pl 1<|nt<|rt<|tr<|bu dF (.int .i64 1)<|?_
 have hs:aj aC dir c b=(aU.zero,1):=by
   unfold aj aC cQ cM cE f9 ns gc nm m9 mR dA eF
   (try simp only[e0,e1,bs,if_true,if_false,decide_true,decide_false,eq_self,true_or,or_true,or_false,false_or,if_true,if_false,cP,cO,cN,cR,reduceIte,hd,dN])
   all_goals rfl
 rw[hs]
 exact bf (ud e f a)
end Go.Proofs.YtogbnemojakcpaaGreat
