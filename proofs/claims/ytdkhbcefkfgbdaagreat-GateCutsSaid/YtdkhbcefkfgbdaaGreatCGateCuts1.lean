/- Contracts of functions, part CGateCuts1. -/
import Derived.Test.YtdkhbcefkfgbdaaGreatProg
import Derived.WalkKit
import Derived.WalkSpells
import Derived.WalkLawsBesides
import Derived.Maps.AppendAt
import Derived.Deep.Draws
import Derived.Laws.AppendOwnNone
import Derived.StillTailTactics
import Derived.Deep.RegionHeld3
import Derived.Deep.AppendLies
import Derived.Lib.Hide
import Derived.Laws.ShiftsVarLaws
import Derived.Deep.OwnRows
import Derived.ChangeMaps4
import Derived.Deep.MidRow
import Derived.Laws.BytesArg
import Derived.Orders
set_option linter.unusedVariables false
set_option linter.unusedSimpArgs false
set_option maxRecDepth 100000
set_option maxHeartbeats 4000000
namespace Go.Proofs.YtdkhbcefkfgbdaaGreat
open Go.RowKit
abbrev vB (x:Int) : Value:=.int .u8 x
abbrev vW (x:Int) : Value:=.int .u16 x
abbrev vI (x:Int) : Value:=.int .i64 x
abbrev vP (g o:Nat) : Value:=.pointer (some ⟨g,o,none⟩)
abbrev nS:Value:=.slice none 0 0
variable {w w':World}
theorem dA{α:Sort _}{P:α→World→Ending→World→Prop}{x y:α}  {e:Ending}(h:x=y)(k:P y w e w') : P x w e w':=h▸k
structure ap (S:List Nat) (w w':World) : Prop where
  os:w'.os=w.os
  tape:w'.tape=w.tape
  output:w'.output=w.output
  size:w.heap.size≤w'.heap.size
  block:∀ k,k<w.heap.size→k∉S→w'.heap[k]? = w.heap[k]?
theorem ap.refl(S:List Nat)(w:World) : ap S w w:=⟨rfl,rfl,rfl,Nat.le_refl _,fun _ _ _=>rfl⟩
variable {S S':List Nat}{a b:World}
theorem ap.trans'{c:World}(h:ap S a b)(k:ap S' b c)(hS:∀ x,x∈S'→x∈S∨a.heap.size≤x) : ap S a c :=
  ⟨k.os.trans h.os,k.tape.trans h.tape,k.output.trans h.output,Nat.le_trans h.size k.size,fun i hi hn =>
    (k.block i (Nat.lt_of_lt_of_le hi h.size) (fun hx=>by rcases hS i hx with h1 | h1;exact hn h1;omega)).trans (h.block i hi hn)⟩
theorem ap.trans{c:World}(h:ap S a b)(k:ap S b c) : ap S a c:=h.trans' k fun _ hx=>.inl hx
theorem ap.step{c:World}(h:ap S a b)(k:ap [] b c) : ap S a c:=h.trans' k fun _ hx=>by simp at hx
theorem ap.mono(h:ap S a b)(hS:∀ x,x∈S→x∈S'∨a.heap.size≤x) : ap S' a b:=(ap.refl S' a).trans' h hS
theorem ap.fresh{c:World}(h:ap S a b)(k:ap S' b c)(hS:∀ x,x∈S'→a.heap.size≤x) : ap S a c:=h.trans' k fun x hx=>.inr (hS x hx)
theorem ap.fresh1{c:World}{x:Nat}(h:ap S a b)(k:ap [x] b c)(hx:a.heap.size≤x) : ap S a c:=h.fresh k fun y hy=>by simp at hy;subst hy;exact hx
theorem ap.of_grown{row:Option Nat}(h:w.grownBy w' row)(S:List Nat)(hr:∀ k,row=some k→k∈S∨w.heap.size≤k) : ap S w w' :=
  ⟨h.os,h.tape,h.output,h.size,fun k hk hn=>h.block k hk (fun e=>by rcases hr k e.symm with h1 | h1;exact hn h1;omega)⟩
theorem ap.alloc(h:ap S a w)(o:Obj) : ap S a (w.alloc o) :=
  h.step ⟨rfl,rfl,rfl,by simp,fun k hk _=>Below.heap_alloc _ _ _ hk⟩
theorem ap.drew(h:ap S a w) : ap S a w.drew:=⟨h.os,h.tape,h.output,h.size,h.block⟩
variable {p:Addr}
theorem ap.setCell(h:ap S a w)  (hp:p.block∈S∨a.heap.size≤p.block)(u:Value) : ap S a (w.setCell p u) :=
  h.trans' (S':=[p.block]) ⟨rfl,rfl,rfl,by simp[World.setCell],fun k hk hn=>Below.heap_setCell _ _ _ _ (by simpa using hn)⟩ (fun x hx=>by simp at hx;subst hx;exact hp)
variable {v:Value}
theorem ap.cell(h:ap S w w')   (hp:p.block∉S)(hc:w.cell? p=some v) : w'.cell? p=some v :=
  (World.cell?_of_block (h.block p.block (World.block_lt_of_cell? w p hc) hp)).trans hc
theorem ap.froz(h:ap S w w')  {b:Bool}(hp:p.block∉S)(hl:p.block<w.heap.size)(hc:w.frozen? p=b) : w'.frozen? p=b :=
  (World.frozen?_of_block (h.block p.block hl hp)).trans hc
variable {g:Nat}{o:Obj}
theorem ap.blk(h:ap S w w')   (hg:g∉S)(hb:w.heap[g]? = some o) : w'.heap[g]? = some o :=
  (h.block g (Array.getElem?_eq_some_iff.1 hb).1 hg).trans hb
theorem ai(h:w.heap[g]? = some o) : g<w.heap.size:=(Array.getElem?_eq_some_iff.1 h).1
variable {cs:Array Value}{fr:Nat × Nat}{t:TypeId}
theorem be(h:w.heap[g]? = some (.cells cs t fr))(i:Nat) : w.cell? ⟨g,i,none⟩=cs[i]?:=by simp[World.cell?,h]
theorem ew(h:w.heap[g]? = some (.cells cs t (0,0)))(i:Nat) : w.frozen? ⟨g,i,none⟩=false:=by simp[World.frozen?,h]
theorem dr(w:World)(o:Obj) : (w.alloc o).heap[w.heap.size]? = some o:=by show(w.heap.push o)[_]? = _;simp
theorem zu(h:w.heap[g]? = some o)(o':Obj) : (w.alloc o').heap[g]? = some o:=(Below.heap_alloc _ _ _ (ai h)).trans h
theorem fC(h:w.heap[g]? = some (.cells cs t fr))(i:Nat)(u:Value) :
    (w.setCell ⟨g,i,none⟩ u).heap[g]? = some (.cells (cs.setIfInBounds i u) t fr):=by
  simp[World.setCell,Array.getElem?_modify,h]
theorem eJ{g':Nat}{t':TypeId}{cs':Array Value}{fr':Nat × Nat}(h:w.heap[g]? = some (.cells cs t fr))(h':w.heap[g']? = some (.cells cs' t' fr'))(hne:t≠t') : g≠g':=by
  rintro rfl
  rw[h] at h'
  injection h' with h'
  injection h' with _ ht
  exact hne ht
inductive Md where
  | f
  | t
  | hi (n:Nat)
instance:Coe Bool Md:=⟨fun b=>bif b then .t else .f⟩
def Md.own:Md→Bool
  | .f=>false
  | _=>true
def Md.lo:Md→Nat
  | .hi n=>n
  | _=>0
def bM (m:Md)(D:List TypeId)(S:List Nat)(w:World) : Prop :=
  ∀ s,s∈S→w.heap.size≤s∨(m.own=true∧∃ cells t fr,w.heap[s]? = some (.cells cells t fr)∧(t∉D∨s<m.lo))
theorem bM.nil(m:Md)(D:List TypeId)(w:World) : bM m D [] w:=fun s hs=>by simp at hs
variable {D:List TypeId}{m:Md}
theorem bM.one{cells:Array Value}   (h:w.heap[g]? = some (.cells cells t fr))(ht:t∉D)(hm:m.own=true:=by rfl) : bM m D [g] w :=
  fun s hs=>by simp at hs;subst hs;exact .inr ⟨hm,_,_,_,h,.inl ht⟩
theorem bM.two{g':Nat}  {cells cells':Array Value}{t':TypeId}{fr':Nat × Nat}(h:w.heap[g]? = some (.cells cells t fr))(ht:t∉D)
    (h':w.heap[g']? = some (.cells cells' t' fr')) (ht':t'∉D) : bM true D [g,g'] w :=
  fun s hs=>by
    simp at hs
    rcases hs with rfl|rfl
    · exact .inr ⟨rfl,_,_,_,h,.inl ht⟩
    · exact .inr ⟨rfl,_,_,_,h',.inl ht'⟩
theorem bM.sub{D':List TypeId}   (h:bM m D S w)(hD:∀ t,t∈D'→t∈D) : bM m D' S w :=
  fun s hs=>(h s hs).imp_right fun⟨a,c,t,fr,b,n⟩=>⟨a,c,t,fr,b,n.imp_left fun n hx=>n (hD t hx)⟩
theorem bM.fresh(h:∀ s,s∈S→w.heap.size≤s) : bM m D S w:=fun s hs=>.inl (h s hs)
def Ea (m:Md)(e t:TypeId)(b:Nat) : Prop:=m.own=true→t=e∧m.lo≤b
def aP {α:Type}(m:Md)(e:TypeId)(sz:Nat)(R:World→α→List Value→Prop)(w:World)(v:Value)(xs:List α) : Prop :=
  ∃ A c,v = .slice A xs.length c∧xs.length≤c∧c≤maxLen∧(A=none→c=0)∧(0<xs.length→∃ b off cells t fr,A=some ⟨b,off,none⟩∧w.heap[b]? = some (.cells cells t fr)∧Ea m e t b ∧
    ∀ (j:Nat) (x:α),xs[j]? = some x→∃ cs:List Value,cs.length=sz∧R w x cs∧∀ i u,cs[i]? = some u→cells[off+j*sz+i]? = some u)
variable {e:TypeId}{sz:Nat}{α:Type}
theorem aP.upd{R:World→α→List Value→Prop}   {xs:List α}
    (h:aP m e sz R w v xs) (hu:ap S w w') (hs:bM m [e] S w) (hR:∀ x cs,R w x cs→R w' x cs) : aP m e sz R w' v xs:=by
  obtain⟨A,c,rfl,h1,h2,h0,h3⟩:=h
  refine⟨A,c,rfl,h1,h2,h0,fun hp=>?_⟩
  obtain⟨b,off,cells,t,fr,rfl,hb,ht,hx⟩:=h3 hp
  refine⟨b,off,cells,t,fr,rfl,?_,ht,fun j x hj=>?_⟩
  · refine hu.blk (fun hbs=>?_) hb
    rcases hs b hbs with h4|⟨hm,cells',t',fr',h5,h6⟩
    · have:=ai hb;omega
    · rw[hb] at h5
      injection h5 with h5
      injection h5 with _ h7 _
      rcases h6 with h6|h6
      · exact h6 (by rw[← h7,(ht hm).1];simp)
      · exact absurd (ht hm).2 (by omega)
  · obtain⟨cs,hl,hr,hc⟩:=hx j x hj
    exact⟨cs,hl,hR _ _ hr,hc⟩
theorem aP.any{R R':World→α→List Value→Prop}   {xs:List α}(h:aP m e sz R w v xs)(hR:∀ x cs,R w x cs→R' w x cs) : aP false e sz R' w v xs:=by
  obtain⟨A,c,rfl,h1,h2,h0,h3⟩:=h
  refine⟨A,c,rfl,h1,h2,h0,fun hp=>?_⟩
  obtain⟨b,off,cells,t,fr,rfl,hb,ht,hx⟩:=h3 hp
  exact⟨b,off,cells,t,fr,rfl,hb,(fun h=>by cases h),fun j x hj=>by obtain⟨cs,hl,hr,hc⟩:=hx j x hj;exact⟨cs,hl,hR _ _ hr,hc⟩⟩
theorem aP.nil(m:Md)(e:TypeId)(sz:Nat)(R:World→α→List Value→Prop)(w:World) : aP m e sz R w (.slice none 0 0) [] :=
  ⟨none,0,rfl,Nat.le_refl _,by unfold maxLen;omega,fun _=>rfl,fun h=>by simp at h⟩
def jH (_:World)(x:Int)(cs:List Value) : Prop:=cs=[.int .u8 x]∧0≤x∧x<256
def zp (_:World)(x:Int)(cs:List Value) : Prop:=cs=[.int .u16 x]∧0≤x∧x<65536
def sP (_:World)(x:Bool)(cs:List Value) : Prop:=cs=[.bool x]
abbrev aR (m:Md) (w:World) (v:Value) (xs:List Int) : Prop:=aP m 5 1 jH w v xs
abbrev eO (m:Md) (w:World) (v:Value) (xs:List Int) : Prop:=aP m 37 1 zp w v xs
abbrev mF (m:Md) (w:World) (v:Value) (xs:List Bool) : Prop:=aP m 4 1 sP w v xs
variable {xs:List Int}
theorem aR.upd'(h:aR m w v xs)(hu:ap S w w')(hs:bM m [5] S w) : aR m w' v xs:=aP.upd h hu hs fun _ _ h=>h
theorem eO.upd'(h:eO m w v xs)(hu:ap S w w')(hs:bM m [37] S w) : eO m w' v xs:=aP.upd h hu hs fun _ _ h=>h
theorem mF.upd'{xs:List Bool}  (h:mF m w v xs)(hu:ap S w w')(hs:bM m [4] S w) : mF m w' v xs:=aP.upd h hu hs fun _ _ h=>h
theorem aR.old(h:aR m w v xs)(hu:ap [] w w') : aR m w' v xs:=h.upd' hu (bM.nil _ _ _)
theorem eO.old(h:eO m w v xs)(hu:ap [] w w') : eO m w' v xs:=h.upd' hu (bM.nil _ _ _)
theorem mF.old{xs:List Bool}(h:mF m w v xs)(hu:ap [] w w') : mF m w' v xs:=h.upd' hu (bM.nil _ _ _)
variable {A:Option Addr}{c n:Nat}
theorem aP.take{R:World→α→List Value→Prop}     {xs:List α}
    (h:aP m e sz R w (.slice A n c) xs) (k:Nat) (hk:k≤xs.length) : aP m e sz R w (.slice A k c) (xs.take k):=by
  obtain⟨A',c',hv,h1,h2,h0,h3⟩:=h
  injection hv with e1 e2 e3
  subst e1 e3
  have hl:(xs.take k).length=k:=by simp;omega
  refine⟨A,c,by rw[hl],by omega,h2,h0,fun hp=>?_⟩
  obtain⟨b,off,cells,t,fr,rfl,hb,ht,hx⟩:=h3 (by omega)
  refine⟨b,off,cells,t,fr,rfl,hb,ht,fun j x hj=>hx j x ?_⟩
  rw[List.getElem?_take] at hj
  split at hj
  · exact hj
  · cases hj
theorem iU(b off n:Nat)(sp:Option Nat)(h:sp=none) : (⟨b,off,sp⟩ : Addr).add n=⟨b,off+n,none⟩:=by
  subst h
  unfold Addr.add
  split
  · rename_i h;subst h;rfl
  · rfl
theorem aP.drop{R:World→α→List Value→Prop}     {xs:List α}
    (h:aP m e sz R w (.slice A n c) xs) (k:Nat) (hk:k≤xs.length) : aP m e sz R w (.slice (if c=k then A else A.map (·.add (k*sz))) (xs.length-k) (c-k)) (xs.drop k):=by
  obtain⟨A',c',hv,h1,h2,h0,h3⟩:=h
  injection hv with e1 e2 e3
  subst e1 e3
  have hl:(xs.drop k).length=xs.length-k:=by simp
  refine⟨_,_,by rw[hl],by omega,by omega,fun hA=>?_,fun hp=>?_⟩
  · split at hA
    · omega
    · have:=h0 (by cases A<;>simp_all)
      omega
  obtain⟨b,off,cells,t,fr,rfl,hb,ht,hx⟩:=h3 (by omega)
  refine⟨b,off+k*sz,cells,t,fr,?_,hb,ht,fun j x hj=>?_⟩
  · rw[if_neg (by omega)]
    simp[iU]
  · obtain⟨cs,h4,h5,h6⟩:=hx (k+j) x (by rw[List.getElem?_drop] at hj;exact hj)
    refine⟨cs,h4,h5,fun i u hi=>?_⟩
    have:=h6 i u hi
    rw[Nat.add_mul] at this
    rw[← this]
    congr 1
    omega
theorem aP.shape{R:World→α→List Value→Prop}   {xs:List α}(h:aP m e sz R w v xs) :
    ∃ A c,v = .slice A xs.length c∧xs.length≤c∧c≤maxLen:=by
  obtain⟨A,c,h0,h1,h2,_⟩:=h
  exact⟨A,c,h0,h1,h2⟩
theorem aR.at_(h:aR m w (.slice A n c) xs)(j:Nat)(hj:j<xs.length) :
    ∃ b off,A=some ⟨b,off,none⟩∧w.cell? ⟨b,off+j,none⟩=some (.int .u8 (xs.getD j 0))∧0≤xs.getD j 0∧xs.getD j 0<256:=by
  obtain⟨A',c',hv,h1,h2,h0,h3⟩:=h
  injection hv with e1 e2 e3
  subst e1 e3
  obtain⟨b,off,cells,t,fr,rfl,hb,ht,hx⟩:=h3 (by omega)
  have hg:xs[j]? = some (xs.getD j 0):=by simp[List.getD_eq_getElem?_getD,List.getElem?_eq_getElem hj]
  obtain⟨cs,h4,⟨rfl,h5,h6⟩,h7⟩:=hx j _ hg
  refine⟨b,off,rfl,?_,h5,h6⟩
  rw[be hb]
  have:=h7 0 _ (by simp;rfl)
  simpa using this
theorem eO.at_(h:eO m w (.slice A n c) xs)(j:Nat)(hj:j<xs.length) :
    ∃ b off,A=some ⟨b,off,none⟩∧w.cell? ⟨b,off+j,none⟩=some (.int .u16 (xs.getD j 0))∧0≤xs.getD j 0∧xs.getD j 0<65536:=by
  obtain⟨A',c',hv,h1,h2,h0,h3⟩:=h
  injection hv with e1 e2 e3
  subst e1 e3
  obtain⟨b,off,cells,t,fr,rfl,hb,ht,hx⟩:=h3 (by omega)
  have hg:xs[j]? = some (xs.getD j 0):=by simp[List.getD_eq_getElem?_getD,List.getElem?_eq_getElem hj]
  obtain⟨cs,h4,⟨rfl,h5,h6⟩,h7⟩:=hx j _ hg
  refine⟨b,off,rfl,?_,h5,h6⟩
  rw[be hb]
  have:=h7 0 _ (by simp;rfl)
  simpa using this
theorem mF.at_{xs:List Bool}(h:mF m w (.slice A n c) xs)(j:Nat)(hj:j<xs.length) :
    ∃ b off,A=some ⟨b,off,none⟩∧w.cell? ⟨b,off+j,none⟩=some (.bool (xs.getD j false)):=by
  obtain⟨A',c',hv,h1,h2,h0,h3⟩:=h
  injection hv with e1 e2 e3
  subst e1 e3
  obtain⟨b,off,cells,t,fr,rfl,hb,ht,hx⟩:=h3 (by omega)
  have hg:xs[j]? = some (xs.getD j false):=by simp[List.getD_eq_getElem?_getD,List.getElem?_eq_getElem hj]
  obtain⟨cs,h4,rfl,h7⟩:=hx j _ hg
  refine⟨b,off,rfl,?_⟩
  rw[be hb]
  have:=h7 0 _ (by simp;rfl)
  simpa using this
def aJ {α:Type}(base:Nat)(e:TypeId)(sz:Nat)(R:World→α→List Value→Prop)(w:World)(v:Value)(xs:List α) : Prop :=
  ∃ cells:List Value,w.ownsRow base e sz v xs.length cells∧∀ (j:Nat) (x:α),xs[j]? = some x→∃ cs:List Value,cs.length=sz∧R w x cs∧∀ i u,cs[i]? = some u→cells[j*sz+i]? = some u
abbrev cn (base:Nat) (w:World) (v:Value) (xs:List Int) : Prop:=aJ base 5 1 jH w v xs
abbrev nM (base:Nat) (w:World) (v:Value) (xs:List Int) : Prop:=aJ base 37 1 zp w v xs
abbrev D1 (base:Nat) (w:World) (v:Value) (xs:List Bool) : Prop:=aJ base 4 1 sP w v xs
variable {base:Nat}
theorem aJ.rd{R:World→α→List Value→Prop}   {xs:List α}(h:aJ base e sz R w v xs) : aP true e sz R w v xs:=by
  obtain⟨cells,⟨hl,ho⟩,hx⟩:=h
  rcases ho with⟨rfl,h0⟩|⟨g,cap,cur,rfl,hb,hh,h1,h2,h3,h4⟩
  · obtain rfl:=List.eq_nil_of_length_eq_zero h0
    exact aP.nil ..
  · refine⟨_,_,rfl,h1,h2,(fun hA=>by cases hA),fun hp=>⟨g,0,cur,e,(0,0),rfl,hh,(fun _=>⟨rfl,Nat.zero_le _⟩),fun j x hj=>?_⟩⟩
    obtain⟨cs,h5,h6,h7⟩:=hx j x hj
    refine⟨cs,h5,h6,fun i u hi=>?_⟩
    have h8:=h7 i u hi
    rw[← h4,List.getElem?_take] at h8
    split at h8
    · simpa using h8
    · cases h8
theorem aJ.nil(base:Nat)(e:TypeId)(sz:Nat)(R:World→α→List Value→Prop)(w:World) : aJ base e sz R w (.slice none 0 0) [] :=
  ⟨[],⟨by simp,.inl ⟨rfl,rfl⟩⟩,fun j x h=>by simp at h⟩
theorem kf{xs:List Value}(h:w.ownsRow base e sz v n xs)(hb:∀ g,v.ownBlock=some g→w'.heap[g]? = w.heap[g]?) : w'.ownsRow base e sz v n xs:=by
  obtain⟨h0,h1⟩:=h
  refine⟨h0,?_⟩
  rcases h1 with h1|⟨g,cap,cur,rfl,h2,h3,h4⟩
  · exact .inl h1
  · exact .inr ⟨g,cap,cur,rfl,h2,(hb g rfl).trans h3,h4⟩
theorem aJ.upd{R:World→α→List Value→Prop}   {xs:List α}
    (h:aJ base e sz R w v xs) (hu:ap S w w') (hs:bM true [e] S w) (hR:∀ x cs,R w x cs→R w' x cs) : aJ base e sz R w' v xs:=by
  obtain⟨cells,ho,hx⟩:=h
  refine⟨cells,kf ho fun g hg=>?_,fun j x hj=>?_⟩
  · rcases ho.2 with⟨rfl,_⟩ | ⟨g',cap,cur,rfl,hb,hh,_⟩
    · simp[Value.ownBlock] at hg
    · have:g'=g:=by simpa [Value.ownBlock] using hg
      subst this
      refine hu.block _ (ai hh) fun hgs=>?_
      rcases hs _ hgs with h4|⟨_,cells',t',fr',h5,h6⟩
      · have:=ai hh;omega
      · rw[hh] at h5
        injection h5 with h5
        injection h5 with _ h7 _
        rcases h6 with h6|h6
        · exact h6 (by rw[← h7];simp)
        · cases h6
  · obtain⟨cs,hl,hr,hc⟩:=hx j x hj
    exact⟨cs,hl,hR _ _ hr,hc⟩
theorem aJ.weaken{base':Nat}   {R:World→α→List Value→Prop}   {xs:List α}(h:aJ base e sz R w v xs)(hb:base'≤base) : aJ base' e sz R w v xs:=by
  obtain⟨cells,⟨h0,h1⟩,h2⟩:=h
  refine⟨cells,⟨h0,?_⟩,h2⟩
  rcases h1 with h1|⟨g,cap,cur,h3,h4,h5⟩
  · exact .inl h1
  · exact .inr ⟨g,cap,cur,h3,Nat.le_trans hb h4,h5⟩
theorem aJ.hi{R:World→α→List Value→Prop}   {xs:List α}(h:aJ base e sz R w v xs)(hn:n≤base) : aP (.hi n) e sz R w v xs:=by
  obtain⟨cells,⟨hl,ho⟩,hx⟩:=h
  rcases ho with⟨rfl,h0⟩|⟨g,cap,cur,rfl,hb,hh,h1,h2,h3,h4⟩
  · obtain rfl:=List.eq_nil_of_length_eq_zero h0
    exact aP.nil ..
  · refine⟨_,_,rfl,h1,h2,(fun hA=>by cases hA),fun hp=>⟨g,0,cur,e,(0,0),rfl,hh,(fun _=>⟨rfl,Nat.le_trans hn hb⟩),fun j x hj=>?_⟩⟩
    obtain⟨cs,h5,h6,h7⟩:=hx j x hj
    refine⟨cs,h5,h6,fun i u hi=>?_⟩
    have h8:=h7 i u hi
    rw[← h4,List.getElem?_take] at h8
    split at h8
    · simpa using h8
    · cases h8
theorem aP.hi_le{n':Nat}   {R R':World→α→List Value→Prop}   {xs:List α}(h:aP (.hi n) e sz R w v xs)(hn:n'≤n)(hR:∀ x cs,R w x cs→R' w x cs) : aP (.hi n') e sz R' w v xs:=by
  obtain⟨A,c,rfl,h1,h2,h0,h3⟩:=h
  refine⟨A,c,rfl,h1,h2,h0,fun hp=>?_⟩
  obtain⟨b,off,cells,t,fr,rfl,hb,ht,hx⟩:=h3 hp
  exact⟨b,off,cells,t,fr,rfl,hb,(fun hm=>⟨(ht hm).1,Nat.le_trans hn (ht hm).2⟩),fun j x hj=>by obtain⟨cs,hl,hr,hc⟩:=hx j x hj;exact⟨cs,hl,hR _ _ hr,hc⟩⟩
theorem aP.hi_t{R R':World→α→List Value→Prop}   {xs:List α}(h:aP (.hi n) e sz R w v xs)(hR:∀ x cs,R w x cs→R' w x cs) : aP true e sz R' w v xs:=by
  obtain⟨A,c,rfl,h1,h2,h0,h3⟩:=h
  refine⟨A,c,rfl,h1,h2,h0,fun hp=>?_⟩
  obtain⟨b,off,cells,t,fr,rfl,hb,ht,hx⟩:=h3 hp
  exact⟨b,off,cells,t,fr,rfl,hb,(fun hm=>⟨(ht rfl).1,Nat.zero_le _⟩),fun j x hj=>by obtain⟨cs,hl,hr,hc⟩:=hx j x hj;exact⟨cs,hl,hR _ _ hr,hc⟩⟩
theorem bM.low{cells:Array Value}   (hb:w.heap[g]? = some (.cells cells t fr))(hg:g<n) : bM (.hi n) D [g] w:=fun s hs=>by
  rw[List.mem_singleton] at hs
  subst hs
  exact .inr ⟨rfl,_,_,_,hb,.inr hg⟩
theorem bM.up(h:bM true D S w)(hm:m.own=true:=by rfl) : bM m D S w:=fun s hs=>(h s hs).imp_right fun⟨_,c,t,fr,b,n⟩=>⟨hm,c,t,fr,b,n.imp_right fun k=>absurd k (Nat.not_lt_zero _)⟩
theorem ie{R:World→α→List Value→Prop}{enc:α→Value}  {a:Addr}  {xs:List α}(hR:∀ w x cs,R w x cs→cs=[enc x])(h:aP m e 1 R w (.slice (some a) n c) xs) :
    n=xs.length∧∀ j u,(xs.map enc)[j]? = some u→w.cell? (a.add j)=some u:=by
  obtain⟨A,c',hv,h1,h2,h0,h3⟩:=h
  injection hv with e1 e2 e3
  subst e1 e2 e3
  refine⟨rfl,fun j u hj=>?_⟩
  rw[List.getElem?_map] at hj
  obtain⟨x,hx,rfl⟩:=Option.map_eq_some_iff.1 hj
  have hl:j<xs.length:=(List.getElem?_eq_some_iff.1 hx).1
  obtain⟨b,off,cells,t,fr,hA,hb,ht,hcs⟩:=h3 (by omega)
  injection hA with hA
  subst hA
  obtain⟨cs,h4,h5,h6⟩:=hcs j x hx
  obtain rfl:=hR _ _ _ h5
  rw[iU _ _ _ _ rfl,be hb]
  have:=h6 0 _ (by simp;rfl)
  simpa using this
theorem dX{R:World→α→List Value→Prop}{enc:α→Value}    {xs:List α}(hR:∀ x,x∈xs→R w x [enc x])(h:w.ownsRow base e 1 v xs.length (xs.map enc)) : aJ base e 1 R w v xs:=by
  refine⟨_,h,fun j x hj=>⟨[enc x],rfl,hR _ (List.mem_of_getElem? hj),fun i u hi=>?_⟩⟩
  have:i=0:=by
    rcases Nat.eq_zero_or_pos i with h0|h0
    · exact h0
    · rw[List.getElem?_eq_none (by simp;omega)] at hi;cases hi
  subst this
  simp at hi
  subst hi
  simp[hj]
theorem dW{R:World→α→List Value→Prop}{enc:α→Value}    {xs:List α}(hR:∀ w x cs,R w x cs→cs=[enc x])(h:aJ base e 1 R w v xs) : w.ownsRow base e 1 v xs.length (xs.map enc):=by
  obtain⟨cells,ho,hx⟩:=h
  have:cells=xs.map enc:=by
    apply List.ext_getElem?
    intro j
    rcases Nat.lt_or_ge j xs.length with hj|hj
    · have hg:xs[j]? = some xs[j]:=List.getElem?_eq_getElem hj
      obtain⟨cs,h1,h2,h3⟩:=hx j _ hg
      obtain rfl:=hR _ _ _ h2
      have h4:=h3 0 _ (by simp;rfl)
      simp at h4
      simp[h4,hg]
    · rw[List.getElem?_eq_none (by rw[ho.1];omega),List.getElem?_eq_none (by simp;omega)]
  rw[← this]
  exact ho
theorem aP.mem{R:World→α→List Value→Prop}   {xs:List α}  (h:aP m e sz R w v xs) : ∀ x,x∈xs→∃ cs,R w x cs:=by
  intro x hx
  obtain⟨A,c,rfl,_,_,_,h3⟩:=h
  obtain⟨j,hj⟩:=List.getElem?_of_mem hx
  obtain⟨b,off,cells,t,fr,_,_,_,h4⟩:=h3 (by have:=List.length_pos_of_mem hx;omega)
  obtain⟨cs,_,h5,_⟩:=h4 j x hj
  exact⟨cs,h5⟩
theorem aJ.mem{R:World→α→List Value→Prop}   {xs:List α}  (h:aJ base e sz R w v xs) : ∀ x,x∈xs→∃ cs,R w x cs:=h.rd.mem
theorem aR.rng(h:aR m w v xs) : ∀ x,x∈xs→0≤x∧x<256:=fun x hx=>by obtain⟨cs,h1⟩:=h.mem x hx;exact h1.2
theorem eO.rng(h:eO m w v xs) : ∀ x,x∈xs→0≤x∧x<65536:=fun x hx=>by obtain⟨cs,h1⟩:=h.mem x hx;exact h1.2
structure zn {α:Type} (R:World→α→List Value→Prop) (enc:α→Value) : Prop where
  cell:∀ w x cs,R w x cs→cs=[enc x]
  any:∀ w w' x cs,R w x cs→R w' x [enc x]
  one:∀ x,(enc x).oneCell'=true
theorem bh:zn jH (Value.int .u8):=⟨fun _ _ _ h=>h.1,fun _ _ _ _ h=>⟨rfl,h.2⟩,fun _=>rfl⟩
theorem zP:zn zp (Value.int .u16):=⟨fun _ _ _ h=>h.1,fun _ _ _ _ h=>⟨rfl,h.2⟩,fun _=>rfl⟩
variable {P:Program}{e':TypeId}
theorem l9{R:World→α→List Value→Prop}{enc:α→Value}(hR:zn R enc)
    (base:Nat) (t ty e:TypeId) (z:Value) (bytes:Nat) (ht:P.underlying t=some (.slice e)) (hinfo:(P.info? e).map (fun i=>(i.zero,i.size,i.bytes))=some (some z,1,bytes)) (hz:z.cells.size=1)
    (v:Value) (xs:List α) (HO:aJ base e 1 R w v xs)   (u:Value) (ys:List α) (HY:aP m e' 1 R w u ys)
    (hl:xs.length+ys.length≤4194304) (hby:bytes≤65536) (hbase:base≤w.heap.size) :
    ∃ v' w',(Builtin.append_ #[t,t] ty #[v,u]).run P w = .ok v' w'∧aJ base e 1 R w' v' (xs++ys)∧(∀ S w0,ap S w0 w→w0.heap.size≤base→ap S w0 w'):=by
  obtain⟨i0,hi,hz0,hz1,hz2⟩:=info_parts hinfo
  obtain⟨A,c,hu,hc1,hc2⟩:=HY.shape
  subst hu
  cases A with
  | none =>
    obtain⟨A,c',hv,_,_,h0,h3⟩:=HY
    injection hv with e1 e2 e3
    subst e1 e3
    obtain rfl:ys=[]:=by
      rcases Nat.eq_zero_or_pos ys.length with h0|h0
      · exact List.eq_nil_of_length_eq_zero h0
      · obtain⟨b,off,cells,t,fr,hh,_⟩:=h3 h0
        cases hh
    obtain rfl:=h0 rfl
    exact⟨v,w,run_append_owned_none (P:=P) (w:=w) base t ty e i0 1 ht hi v xs.length (xs.map enc) (dW hR.cell HO),by simpa using HO,fun _ _ h _=>h⟩
  | some ad =>
    obtain⟨_,hnews⟩:=ie hR.cell HY
    have hmul:(xs.length+ys.length)*bytes≤140737488355328:=Nat.le_trans (Nat.mul_le_mul hl hby) (by decide)
    obtain⟨v',w',hr,hown,hg,_,_⟩:=run_append_own_at (P:=P) (w:=w) base t ty e i0 z 1 bytes ht hi hz0 hz1 hz2 hz (by decide) v xs.length (xs.map enc) (dW hR.cell HO) ad ys.length c (ys.map enc) (by simp) hnews
      (fun u hu=>by obtain⟨y,_,rfl⟩:=List.mem_map.1 hu;exact hR.one y) (by unfold maxLen;omega) hmul hbase
    refine⟨v',w',hr,dX (enc:=enc) (fun y hy=>?_) (by simpa using hown),fun S w0 hu hb=>?_⟩
    · rcases List.mem_append.1 hy with hy | hy
      · obtain⟨cs,h1⟩:=HO.mem y hy;exact hR.any _ _ _ _ h1
      · obtain⟨cs,h1⟩:=HY.mem y hy;exact hR.any _ _ _ _ h1
    · refine hu.trans' (ap.of_grown hg (v.ownBlock.toList) fun k hk=>.inl (by simp[hk])) fun k hk=>.inr ?_
      have hk':v.ownBlock=some k:=by cases hvb:v.ownBlock<;>simp_all
      obtain⟨cells,ho',_⟩:=HO
      rcases ho'.2 with⟨rfl,_⟩|⟨g,cap,cur,rfl,hb',_⟩
      · simp[Value.ownBlock] at hk'
      · have:g=k:=by simpa [Value.ownBlock] using hk'
        omega
variable {Q:Exit→Act→World→Prop}
theorem mE{R:World→α→List Value→Prop}{enc:α→Value}(hR:zn R enc)   {ops:Array Oper}{rest:List Oper}{o:Oper}{a:Act}
    (base:Nat) (hgd:o.guard=none) (s x:Operand) (t e:TypeId) (z:Value) (bytes:Nat)
    (ho:o.op = .call { callee:=.builtin .append,args:=#[s,x],argTypes:=#[t,t] })
    (ht:P.underlying t=some (.slice e)) (hinfo:(P.info? e).map (fun i=>(i.zero,i.size,i.bytes))=some (some z,1,bytes)) (hz:z.cells.size=1)
    (v:Value) (xs:List α) (hs:a.eval s=v) (HO:aJ base e 1 R w v xs)   (u:Value) (ys:List α) (hx:a.eval x=u) (HY:aP m e' 1 R w u ys)
    (hl:xs.length+ys.length≤4194304) (hby:bytes≤65536) (hbase:base≤w.heap.size)
    (h:∀ v' w',aJ base e 1 R w' v' (xs++ys)→(∀ S w0,ap S w0 w→w0.heap.size≤base→ap S w0 w')→wpList P ops Q rest (a.put o.dst v') w') :
    wpList P ops Q (o :: rest) a w:=by
  obtain⟨v',w',hr,h1,h2⟩:=l9 hR (P:=P) (w:=w) base t o.type e z bytes ht hinfo hz v xs HO u ys HY hl hby hbase
  refine wpList_plain hgd fun K hK=>?_
  unfold Oper.wp execOp
  simp only[ho,resolve,invoke,builtin,Sem.run_bind,Sem.run_pure,Result.andThen_ok,List.map_toArray,List.map_cons,List.map_nil,hs,hx,hr]
  exact hK _ _ (h v' w' h1 h2)
theorem pK{R:World→α→List Value→Prop}{enc:α→Value}(hR:zn R enc)   {ops:Array Oper}{o:Oper}{a:Act}{K:Act→World→Prop}  {E:Prop}
    (base:Nat) (hgd:o.guard=none) (s x:Operand) (t e:TypeId) (z:Value) (bytes:Nat)
    (ho:o.op = .call { callee:=.builtin .append,args:=#[s,x],argTypes:=#[t,t] })
    (ht:P.underlying t=some (.slice e)) (hinfo:(P.info? e).map (fun i=>(i.zero,i.size,i.bytes))=some (some z,1,bytes)) (hz:z.cells.size=1)
    (v:Value) (xs:List α) (hs:a.eval s=v) (HO:aJ base e 1 R w v xs)   (u:Value) (ys:List α) (hx:a.eval x=u) (HY:aP m e' 1 R w u ys)
    (hl:xs.length+ys.length≤4194304) (hby:bytes≤65536) (hbase:base≤w.heap.size)
    (h:∀ v' w',aJ base e 1 R w' v' (xs++ys)→(∀ S w0,ap S w0 w→w0.heap.size≤base→ap S w0 w')→K (a.put o.dst v') w') :
    if Region.wanted o (yielded ops a.tmps)=true then Oper.wp P o a w K Q else E:=by
  obtain⟨v',w',hr,h1,h2⟩:=l9 hR (P:=P) (w:=w) base t o.type e z bytes ht hinfo hz v xs HO u ys HY hl hby hbase
  rw[if_pos (by simp[Region.wanted,hgd])]
  unfold Oper.wp execOp
  simp only[ho,resolve,invoke,builtin,Sem.run_bind,Sem.run_pure,Result.andThen_ok,List.map_toArray,List.map_cons,List.map_nil,hs,hx,hr]
  exact h v' w' h1 h2
theorem ft(t e:TypeId)(sz:Nat){i:TypeInfo}(ht:P.underlying t=some (.slice e))(hi:P.info? e=some i)(hsz:i.size=sz)(A:Option Addr)(n c k:Nat)(hk:k≤n) :
    ∃ A':Option Addr,(∀ (kl:IntKind) (W:World),(Instr.slice t (.slice A n c) (some (.int kl (k:Int))) none none).run P W = .ok (.slice A' (n-k) (c-k)) W) ∧
      ∀ {α:Type} (m:Md) (e':TypeId) (R:World→α→List Value→Prop) (w:World) (xs:List α),aP m e' sz R w (.slice A n c) xs→aP m e' sz R w (.slice A' (n-k) (c-k)) (xs.drop k):=by
  refine⟨if c=k then A else A.map (·.add (k*sz)),fun kl W=>?_,fun m e' R w xs h=>?_⟩
  · have hel:P.elem t=e:=by simp[Program.elem,ht]
    have hu:P.underlying t=some (.slice (P.elem t)):=by rw[hel];exact ht
    rw[run_slice_l W t A n c hu kl (k:Int) (Int.natCast_nonneg _) (by omega),hel]
    simp[sizeOf,typeInfo,hi,hsz,sliced,Result.andThen]
  · obtain⟨A',c',hv,_⟩:=h.shape
    injection hv with e1 e2 e3
    subst e2
    exact h.drop k hk
theorem vY(t e:TypeId)(sz:Nat){i:TypeInfo}(ht:P.underlying t=some (.slice e))(hi:P.info? e=some i)(hsz:i.size=sz)(A:Option Addr)(n c k h:Nat)(hk:k≤h)(hh:h≤n)(hc:n≤c) :
    ∃ A':Option Addr,(∀ (kl kh:IntKind) (W:World),(Instr.slice t (.slice A n c) (some (.int kl (k:Int))) (some (.int kh (h:Int))) none).run P W = .ok (.slice A' (h-k) (c-k)) W) ∧
      ∀ {α:Type} (m:Md) (e':TypeId) (R:World→α→List Value→Prop) (w:World) (xs:List α),aP m e' sz R w (.slice A n c) xs→aP m e' sz R w (.slice A' (h-k) (c-k)) ((xs.take h).drop k):=by
  refine⟨if c=k then A else A.map (·.add (k*sz)),fun kl kh W=>?_,fun m e' R w xs hr=>?_⟩
  · have hel:P.elem t=e:=by simp[Program.elem,ht]
    have hu:P.underlying t=some (.slice (P.elem t)):=by rw[hel];exact ht
    rw[run_slice_lh W t A n c hu kl kh (k:Int) (h:Int) (Int.natCast_nonneg _) (by omega) (by omega),hel]
    simp[sizeOf,typeInfo,hi,hsz,sliced,Result.andThen]
  · obtain⟨A',c',hv,_⟩:=hr.shape
    injection hv with e1 e2 e3
    subst e2
    have h2:=(hr.take h hh).drop k (by simp;omega)
    have h3:(xs.take h).length-k=h-k:=by simp;omega
    rw[h3] at h2
    exact h2
theorem mj{id:Nat}  {a:Act}  {l:List Oper}(n:Nat)(hm:P.follows .mixedOrders=true)(hB:Region.lexTailB .any l.toArray n=true)
    (h:∀ w2:World,ap [] w w2→wpStill P l.toArray w2 (fun a'=>wpList P l.toArray Q (l.drop n) a' w2) (l.take n) a) : (Code.region id l.toArray true).wp P Q a w :=
  wp_region_still_tail n hm hB (h _ ⟨rfl,rfl,rfl,Nat.le_refl _,fun _ _ _=>rfl⟩)
section
variable {P:Program}{ops:Array Oper}{Q:Exit→Act→World→Prop}{S:World→Prop}
theorem pH{id n:Nat}{a:Act}{w:World}(l:Array Bool)(hm:P.follows .mixedOrders=true)(hn:ops.size=n)(hl:Array.replicate n false=l)(hS:S w.drew)
    (h:S w.drew→wpAnyH P .any ops Q S n l a w.drew) : (Code.region id ops true).wp P Q a w:=by
  subst hn
  subst hl
  exact wp_region_held hm (h hS)
def Cc (ops:Array Oper)(l l':Array Bool)(i:Nat) : Bool :=
  Region.noSelect ops&&Region.free .any ops l i&&(Region.ready .any ops l).contains i&&(l.setIfInBounds i true==l')
theorem cS{i:Nat}{N:Option Tmp}{oi:Oper}{v:Value}{fuel:Nat}{l:Array Bool}{a:Act}{w:World}(l':Array Bool)(hi:ops[i]? = some oi)(hN:oi.dst=N)(hc:Cc ops l l' i=true)
    (hQ:∀ c a w,Q (.panic c) (a.put oi.dst v) w→Q (.panic c) a w) (hy:YieldsIf P ops S oi v a) (hS:S w) {a':Act} (ha:a.put N v=a')
    (h:wpAnyH P .any ops Q S fuel l' a' w) : wpAnyH P .any ops Q S (fuel+1) l a w:=by
  subst ha
  subst hN
  simp only[Cc,Bool.and_eq_true,beq_iff_eq] at hc
  obtain⟨⟨⟨h1,h2⟩,h3⟩,h4⟩:=hc
  subst h4
  exact wpAnyH_take hi h1 h2 h3 hQ hy hS h
def Bs (ops:Array Oper)(l l':Array Bool)(i:Nat) : Bool:=(Region.ready .any ops l==[i])&&(l.setIfInBounds i true==l')
theorem t4{l:Array Bool}{a:Act}{w:World}{n:Nat}(hr:(Region.ready .any ops l==[])=true)(h:Q .normal a w) : wpAnyH P .any ops Q S n l a w:=wpAnyH_done (by simpa using hr) h n
end
theorem qH{α:Type}{R:World→α→List Value→Prop}{enc:α→Value}(w:World)(e:TypeId)(xs:List α)(hR:∀ x,x∈xs→R (w.alloc (.cells (xs.map enc).toArray e)) x [enc x])(hl:xs.length≤4194304) :
    aJ w.heap.size e 1 R (w.alloc (.cells (xs.map enc).toArray e)) (.slice (some ⟨w.heap.size,0,none⟩) xs.length xs.length) xs:=by
  refine dX (enc:=enc) hR ⟨by simp,.inr ⟨w.heap.size,xs.length,_,rfl,Nat.le_refl _,dr w _,Nat.le_refl _,by unfold maxLen;omega,by simp,by simp[List.take_of_length_le]⟩⟩
open Go.RowKit
def At (xs:List Int)(w:World)(e:Ending)(w':World) : Prop:=∃ v,e = .returned v∧cn w.heap.size w' v xs∧ap [] w w'
theorem kG:(Tryz.prog.info? 5).map (fun i=>(i.zero,i.size,i.bytes))=some (some (.int .u8 0),1,1):=by kernel_rfl
theorem wI:(Tryz.prog.info? 37).map (fun i=>(i.zero,i.size,i.bytes))=some (some (.int .u16 0),1,2):=by kernel_rfl
theorem n7{m:Md}{v:Value}{xs:List Int}{w:World}(h:aR m w v xs)(hn:xs.length≤1048576) : Calls Tryz.prog 192 #[v] w (At xs w):=by
  have hh:=h
  obtain⟨A,c,rfl,hc1,hc2⟩:=h.shape
  have qT:∀ (w:World) (a:Option Addr) (n c n' c':Nat),(binOp .eql 27 (.slice a n c) (.slice none n' c')).run Tryz.prog w = .ok (.bool a.isNone) w:=fun w a n c n' c'=>Lib.run_eql_slice_nil w _ _ a n c n' c' Tryz.underlying27
  cases A with
  | none =>
    obtain rfl:xs=[]:=by
      obtain⟨A,c,hv,_,_,_,h3⟩:=hh
      rcases Nat.eq_zero_or_pos xs.length with h0|h0
      · exact List.eq_nil_of_length_eq_zero h0
      · obtain⟨b,off,cells,t,fr,rfl,_⟩:=h3 h0
        cases hv
    clear h hh
    go_enter Tryz.func192,Tryz.ntmps192
    go_wp2
    go_ret
    exact⟨_,rfl,aJ.nil ..,ap.refl _ _⟩
  | some a =>
    have hown:=qH (R:=jH) (enc:=Value.int .u8) w 5 [] (fun x hx=>by cases hx) (by simp)
    have hsrc:aR m (w.alloc (.cells #[] 5)) (.slice (some a) xs.length c) xs:=hh.old ((ap.refl [] w).alloc _)
    clear h hh
    go_enter Tryz.func192,Tryz.ntmps192
    go_wp2_with (at_builtin;refine mE bh w.heap.size rfl _ _ 27 5 (.int .u8 0) 1 rfl Tryz.underlying27 kG rfl _ [] rfl hown _ xs rfl hsrc (by simp;omega) (by decide) (by simp) ?_;intro v' w' hown' hupd;clear hown hsrc)
    go_ret
    exact⟨_,rfl,hown',hupd [] w ((ap.refl [] w).alloc _) (Nat.le_refl _)⟩
structure aA where
  l:List Int
  sh:Bool
  e:Int
def aA.need (c:aA)(ok:Bool)(x:Int) : aA:=if c.e=0∧ok=false then { c with e:=x } else c
def aA.fails (c:aA)(n:Int) : Bool:=c.sh || decide (n<0)||decide ((c.l.length:Int)<n)
def aA.bytesC (c:aA)(n:Int) : aA:=if c.fails n then aA.need { c with l:=[],sh:=true } false 2 else { c with l:=c.l.drop n.toNat }
def aA.bytesR (c:aA)(n:Int) : List Int:=if c.fails n then [] else c.l.take n.toNat
def ag (w:World)(g:Nat)(c:aA) : Prop :=
  ∃ v,w.heap[g]? = some (.cells #[v,.bool c.sh,.int .i64 c.e] 213 (0,0))∧aR true w v c.l∧c.l.length≤1048576
theorem ag.safe{m:Md}{w:World}{g:Nat}{c:aA}(h:ag w g c)(D:List TypeId)(hD:213∉D)(hm:m.own=true:=by rfl) : bM m D [g] w:=by
  obtain⟨v,hb,_⟩:=h
  exact bM.one hb hD hm
theorem ag.lt{w:World}{g:Nat}{c:aA}(h:ag w g c) : g<w.heap.size:=by
  obtain⟨v,hb,_⟩:=h
  exact ai hb
theorem ag.len{w:World}{g:Nat}{c:aA}(h:ag w g c) : c.l.length≤1048576:=by
  obtain⟨v,_,_,h⟩:=h
  exact h
theorem ag.upd{w w':World}{g:Nat}{c:aA}{S:List Nat}(h:ag w g c)(hu:ap S w w')(hg:g∉S)(hs:bM true [5] S w) : ag w' g c:=by
  obtain⟨v,hb,hr,hl⟩:=h
  exact⟨v,hu.blk hg hb,hr.upd' hu hs,hl⟩
theorem ag.old{w w':World}{g:Nat}{c:aA}(h:ag w g c)(hu:ap [] w w') : ag w' g c:=h.upd hu (by simp) (bM.nil _ _ _)
theorem ag.cells{w:World}{g:Nat}{c:aA}(h:ag w g c) : ∃ A cp,w.cell? ⟨g,0,none⟩=some (.slice A c.l.length cp)∧w.cell? ⟨g,1,none⟩=some (.bool c.sh)∧w.cell? ⟨g,2,none⟩=some (.int .i64 c.e) ∧
    (∀ i,w.frozen? ⟨g,i,none⟩=false)∧c.l.length≤cp∧cp≤maxLen∧aR true w (.slice A c.l.length cp) c.l:=by
  obtain⟨v,hb,hr,hl⟩:=h
  obtain⟨A,cp,rfl,h1,h2⟩:=hr.shape
  exact⟨A,cp,by rw[be hb];rfl,by rw[be hb];rfl,by rw[be hb];rfl,fun i=>ew hb i,h1,h2,hr⟩
def Bn (g:Nat)(c':aA)(w:World)(e:Ending)(w':World) : Prop:=e = .returned (.tuple #[])∧ag w' g c'∧ap [g] w w'
theorem aU{g:Nat}{c:aA}{w:World}(ok:Bool)(x:Int)(hc:ag w g c) :
    Calls Tryz.prog 155 #[.pointer (some ⟨g,0,none⟩),.bool ok,.int .i64 x] w (Bn g (c.need ok x) w):=by
  obtain⟨A,cp,c0,c1,c2,hf,_⟩:=hc.cells
  have f2:=hf 2
  clear hf
  by_cases h:c.e=0∧ok=false
  · obtain⟨he,rfl⟩:=h
    rw[he] at c2
    go_enter Tryz.func155,Tryz.ntmps155
    go_wp2
    go_end0
    obtain⟨v,hb,hr,hl⟩:=hc
    refine⟨rfl,?_,(ap.refl [g] w).setCell (p:=⟨g,2,none⟩) (.inl (by simp)) _⟩
    have hu:ap [g] w (w.setCell ⟨g,2,none⟩ (.int .i64 x)):=(ap.refl [g] w).setCell (p:=⟨g,2,none⟩) (.inl (by simp)) _
    refine⟨v,?_,by rw[aA.need,if_pos ⟨he,rfl⟩];exact hr.upd' hu (bM.one hb (by decide)),by rw[aA.need,if_pos ⟨he,rfl⟩];exact hl⟩
    rw[fC hb,aA.need,if_pos ⟨he,rfl⟩]
    rfl
  · have hpost:Bn g (c.need ok x) w (.returned (.tuple #[])) w:=by
      refine⟨rfl,?_,ap.refl _ _⟩
      rw[aA.need,if_neg h]
      exact hc
    cases ok with
    | true =>
      clear hc h
      go_enter Tryz.func155,Tryz.ntmps155
      go_wp2
      all_goals (go_end0;exact hpost)
    | false =>
      have he:(c.e==0)=false:=by simpa using h
      clear hc h
      go_enter Tryz.func155,Tryz.ntmps155
      go_wp2
      all_goals (go_end0;exact hpost)
def iE (g:Nat)(c:aA)(n:Int)(w:World)(e:Ending)(w':World) : Prop:=∃ v,e = .returned v∧aR (.hi w.heap.size) w' v (c.bytesR n)∧ag w' g (c.bytesC n)∧ap [g] w w'
theorem ag.short{w:World}{g:Nat}{c:aA}(h:ag w g c) : ag ((w.setCell ⟨g,0,none⟩ (.slice none 0 0)).setCell ⟨g,1,none⟩ (.bool true)) g { c with l:=[],sh:=true }:=by
  obtain⟨v,hb,hr,hl⟩:=h
  exact⟨.slice none 0 0,by rw[fC (fC hb _ _) _ _];rfl,aP.nil ..,by simp⟩
theorem ul{g:Nat}{c:aA}{w:World}{n:Int}(hc:ag w g c)(hf:c.fails n=true) :
    Calls Tryz.prog 156 #[.pointer (some ⟨g,0,none⟩),.int .i64 n] w (iE g c n w):=by
  obtain⟨A,cp,c0,c1,c2,hfr,_⟩:=hc.cells
  have f0:=hfr 0
  have f1:=hfr 1
  have hs:=hc.short
  have hpost:∀ w',ag w' g (aA.need { c with l:=[],sh:=true } false 2)→ap [g] ((w.setCell ⟨g,0,none⟩ (.slice none 0 0)).setCell ⟨g,1,none⟩ (.bool true)) w'→iE g c n w (.returned (.slice none 0 0)) w':=by
    intro w' h1 h2
    refine⟨_,rfl,by rw[aA.bytesR,if_pos hf];exact aP.nil ..,by rw[aA.bytesC,if_pos hf];exact h1,?_⟩
    exact(((ap.refl [g] w).setCell (p:=⟨g,0,none⟩) (.inl (by simp)) _).setCell (p:=⟨g,1,none⟩) (.inl (by simp)) _).trans h2
  have hlen:(c.l.length:Int)≤1048576:=by obtain⟨_,_,_,h⟩:=hc;omega
  clear hfr hc
  simp only[aA.fails,Bool.or_eq_true,decide_eq_true_eq] at hf
  by_cases h1:c.sh=true
  · rw[h1] at c1
    clear hf
    go_enter Tryz.func156,Tryz.ntmps156
    go_wp2_with (go_at_call 155;refine(aU false 2 hs).mono ?_;rintro e w' ⟨rfl,hn1,hn2⟩)
    go_ret
    exact hpost _ hn1 hn2
  · simp only[Bool.not_eq_true] at h1
    rw[h1] at c1
    by_cases h2:n<0
    · clear hf
      go_enter Tryz.func156,Tryz.ntmps156
      go_wp2_with (go_at_call 155;refine(aU false 2 hs).mono ?_;rintro e w' ⟨rfl,hn1,hn2⟩)
      go_ret
      exact hpost _ hn1 hn2
    · have h3:(c.l.length:Int)<n:=by
        rcases hf with(h|h) | h
        · rw[h1] at h;cases h
        · omega
        · exact h
      clear hf
      go_enter Tryz.func156,Tryz.ntmps156
      go_wp2_with (go_at_call 155;refine(aU false 2 hs).mono ?_;rintro e w' ⟨rfl,hn1,hn2⟩)
      go_ret
      exact hpost _ hn1 hn2
theorem vL{g:Nat}{c:aA}{w:World}{n:Int}(hc:ag w g c)(hf:c.fails n=false) :
    Calls Tryz.prog 156 #[.pointer (some ⟨g,0,none⟩),.int .i64 n] w (iE g c n w):=by
  obtain⟨A,cp,c0,c1,c2,hfr,hcp1,hcp2,hrd⟩:=hc.cells
  have hlen:(c.l.length:Int)≤1048576:=by obtain⟨_,_,_,h⟩:=hc;omega
  have hf':=hf
  simp only[aA.fails,Bool.or_eq_false_iff,decide_eq_false_iff_not] at hf
  obtain⟨⟨h1,h2⟩,h3⟩:=hf
  obtain⟨k,rfl⟩:=Int.eq_ofNat_of_zero_le (show 0≤n by omega)
  rw[h1] at c1
  have hk:k≤c.l.length:=by omega
  have hrk:=hrd.take k hk
  obtain⟨i0,hi,_,hz1,_⟩:=info_parts kG
  obtain⟨A',hcut,hdk⟩:=ft 27 5 1 Tryz.underlying27 hi hz1 A c.l.length cp k hk
  have hd:=hdk true 5 jH w c.l hrd
  have hlt:=hc.lt
  have f0:=hfr 0
  have hpost:∀ v' w',cn w.heap.size w' v' (c.l.take k)→ap [] w w'→iE g c k w (.returned v') (w'.setCell ⟨g,0,none⟩ (.slice A' (c.l.length-k) (cp-k))):=by
    intro v' w' h4 h5
    have hu:ap [g] w' (w'.setCell ⟨g,0,none⟩ (.slice A' (c.l.length-k) (cp-k))):=(ap.refl [g] w').setCell (p:=⟨g,0,none⟩) (.inl (by simp)) _
    have hs:=(hc.old h5).safe (m:=true) [5] (by decide)
    refine⟨_,rfl,?_,?_,(ap.refl [g] w).trans' (h5.mono (S':=[g]) (by simp)) (by simp) |>.trans hu⟩
    · rw[aA.bytesR,if_neg (by simp[hf'])]
      exact aR.upd' (aJ.hi h4 (Nat.le_refl _)) hu hs.up
    · rw[aA.bytesC,if_neg (by simp[hf'])]
      obtain⟨v,hb,_,hl⟩:=hc.old h5
      refine⟨_,by rw[fC hb];rfl,aR.upd' (aR.old hd h5) hu hs,?_⟩
      simp only[Int.toNat_natCast,List.length_drop]
      omega
  clear hfr hrd hdk hd hi hz1 hf'
  go_enter Tryz.func156,Tryz.ntmps156
  go_wp2_with (go_at_call 192;refine(n7 hrk (by simp;omega)).mono ?_;rintro e w' ⟨v',rfl,hn1,hn2⟩;have d0:=hn2.cell (p:=⟨g,0,none⟩) (by simp) c0;have g0:=hn2.froz (p:=⟨g,0,none⟩) (by simp) hlt f0)
  go_ret
  exact hpost _ _ hn1 hn2
theorem bP{g:Nat}{c:aA}{w:World}{n:Int}(hc:ag w g c) : Calls Tryz.prog 156 #[.pointer (some ⟨g,0,none⟩),.int .i64 n] w (iE g c n w):=by
  cases hf:c.fails n with
  | true=>exact ul hc hf
  | false=>exact vL hc hf
open Go.RowKit
def ea:List Int→List Int
  | a :: b :: r=>(a*256+b) :: ea r
  | _=>[]
theorem eg:∀ xs:List Int,(ea xs).length=xs.length/2
  | []=>rfl
  | [_]=>by simp[ea]
  | a :: b :: r=>by simp only[ea,List.length_cons,eg r];omega
theorem na:∀ (xs:List Int)(k:Nat),2*k+1<xs.length→(ea xs)[k]? = some (xs.getD (2*k) 0*256+xs.getD (2*k+1) 0)
  | [],k,h=>by simp at h
  | [_],k,h=>by simp at h
  | a :: b :: r,0,h=>by simp[ea]
  | a :: b :: r,k+1,h=>by
    have:=na r k (by simp at h;omega)
    simp only[ea,List.getElem?_cons_succ,this]
    rw[show 2*(k+1)=2*k+1+1 by omega,show 2*k+1+1+1=(2*k+1)+1+1 by omega]
    simp
theorem ro(xs:List Int)(k:Nat)(h:2*k+1<xs.length) : (ea xs).take (k+1)=(ea xs).take k++[xs.getD (2*k) 0*256+xs.getD (2*k+1) 0]:=by
  have hg:=na xs k h
  rw[List.take_add_one,hg]
  rfl
theorem o7{x y:Int}(hx:0≤x∧x<256)(hy:0≤y∧y<256) : bits .or .u16 (x*256) y=x*256+y:=by
  rw[u16_or _ _ (by omega) (by omega) hy.1 (by omega)]
  obtain⟨a,rfl⟩:=Int.eq_ofNat_of_zero_le hx.1
  obtain⟨b,rfl⟩:=Int.eq_ofNat_of_zero_le hy.1
  have h1:((a:Int)*256).toNat=2 ^ 8*a:=by omega
  rw[h1,Int.toNat_natCast,← Nat.two_pow_add_eq_or_of_lt (by omega:b<2 ^ 8) a]
  omega
def dI (xs:List Int) : List Int:=if xs.length%2=0 then ea xs else []
def BH (xs:List Int)(w:World)(e:Ending)(w':World) : Prop:=∃ v,e = .returned v∧nM w.heap.size w' v (dI xs)∧ap [] w w'
theorem xv{m:Md}{v:Value}{xs:List Int}{w:World}(h:aR m w v xs)(hn:xs.length≤1048576) : Calls Tryz.prog 233 #[v] w (BH xs w):=by
  have hh:=h
  obtain⟨A,c,rfl,hc1,hc2⟩:=h.shape
  by_cases ho:xs.length%2=0
  case neg =>
    have ho':((xs.length:Int)%2 != 0)=true:=by simp;omega
    clear h
    go_enter Tryz.func233,Tryz.ntmps233
    go_wp2
    go_ret
    refine⟨_,rfl,?_,ap.refl _ _⟩
    rw[dI,if_neg ho]
    exact aJ.nil ..
  case pos =>
    have ho':((xs.length:Int)%2 != 0)=false:=by simp;omega
    go_enter Tryz.func233,Tryz.ntmps233
    go_wp2
    go_loopw [3,4] (fun o i wr=>∃ j:Nat,j≤xs.length∧Hid (j%2=0)∧i = .int .i64 (j:Int)∧nM w.heap.size wr o ((ea xs).take (j/2))∧ap [] w wr) (fun _ i _=>xs.length-(intOf i).toNat)
    case atStart=>exact⟨0,by omega,rfl,rfl,by simpa using aJ.nil ..,ap.refl _ _⟩
    case round =>
      obtain⟨j,hj,hj2,rfl,hown,hu⟩:=hrel
      by_cases hlt:j<xs.length
      · obtain⟨b,off,rfl,cw0,hr0⟩:=aR.at_ hh j hlt
        obtain⟨b',off',hbb,cw1,hr1⟩:=aR.at_ hh (j+1) (by have:=hj2.out;omega)
        injection hbb with hbb
        injection hbb with e1 e2 e3
        subst e1 e2
        clear e3
        have hlt1:j+1<xs.length:=by have:=hj2.out;omega
        obtain⟨x0,hx0⟩ : ∃ x,x=xs.getD j 0:=⟨_,rfl⟩
        obtain⟨x1,hx1⟩ : ∃ x,x=xs.getD (j+1) 0:=⟨_,rfl⟩
        rw[← hx0] at cw0 hr0
        rw[← hx1] at cw1 hr1
        have hc0:=hu.cell (by simp) cw0
        have hc1:=hu.cell (by simp) cw1
        have H0:=Lib.hid hx0
        have H1:=Lib.hid hx1
        clear h hh ho ho' hx0 hx1
        go_wp2
        have hw0:IntKind.i64.wrap ((j:Int)+1)=(j:Int)+1:=IntWalk.i64_in _ (by omega)
        have hw1:(0:Int)≤(j:Int)+1:=by omega
        have hw2:((j:Int)+1).toNat=j+1:=by omega
        have hw3:(j:Int)+1<xs.length:=by omega
        have hw4:IntKind.u16.wrap x0=x0:=by show x0%65536=x0;omega
        have hw5:IntKind.u16.wrap x1=x1:=by show x1%65536=x1;omega
        have hw6:IntKind.u16.wrap (x0*256)=x0*256:=by show(x0*256)%65536=x0*256;omega
        have hw7:=o7 hr0 hr1
        have hown2:∀ W,ap [] wr W→nM w.heap.size W u3 ((ea xs).take (j/2)):=fun W hW=>aJ.upd hown hW (bM.nil _ _ _) fun _ _ h=>h
        have hlit:=fun W=>(qH (R:=zp) (enc:=Value.int .u16) W 37 [x0*256+x1] (fun x hx=>by simp at hx;subst hx;exact⟨rfl,by omega,by omega⟩) (by simp)).rd
        have hlw:((ea xs).take (j/2)).length+[x0*256+x1].length≤4194304:=by rw[List.length_take,eg];simp;omega
        have hsz:=hu.size
        have hdone:∀ o w',nM w.heap.size w' o ((ea xs).take (j/2)++[x0*256+x1])→nM w.heap.size w' o ((ea xs).take ((j+2)/2)):=by
          intro o w' h
          have e:(j+2)/2=j/2+1:=by omega
          have h2:2*(j/2)=j:=by have:=hj2.out;omega
          rw[e,ro xs (j/2) (by omega),h2,← H0.out,← H1.out]
          exact h
        go_region_held3 (fun w'=>w'.cell? ⟨b,off+j,none⟩=some (.int .u8 x0)∧w'.cell? ⟨b,off+(j+1),none⟩=some (.int .u8 x1)) (first | go_keep | (go_split_ands;exact⟨(hupd [] w ((hu.alloc _).drew) (Nat.le_refl _)).cell (by simp) cw0,(hupd [] w ((hu.alloc _).drew) (Nat.le_refl _)).cell (by simp) cw1⟩)) ((refine pK zP w.heap.size (by rfl) _ _ 40 37 (.int .u16 0) 2 (by rfl) Tryz.underlying40 wI rfl _ _ (by rfl) (hown2 _ ((ap.refl [] wr).alloc _).drew) _ [x0*256+x1] (by rfl) (hlit _) hlw (by decide) (by simp;omega) ?_;intro v' w' hown' hupd))
        clear hlit hown2 hc0 hc1 cw0 cw1 hw0 hw1 hw2 hw3 hw4 hw5 hw6 hw7
        go_wp2
        go_roundw
        case rel=>exact⟨j+2,by omega,by show(j+2)%2=0;have:=hj2.out;omega,by go_num,hdone _ _ hown',hupd [] w ((hu.alloc _).drew) (Nat.le_refl _)⟩
        case measure=>simp[intOf];omega
      · have hj3:j=xs.length:=by omega
        have H3:=Lib.hid hj3
        clear hj3 h hh ho'
        go_wp2
        go_ret
        refine⟨_,rfl,?_,hu⟩
        rw[dI,if_pos ho]
        rw[H3.out,List.take_of_length_le (by rw[eg];omega)] at hown
        exact hown
def eN (a n:Int) : Bool:=decide (0<n)&&decide (n≤65536-a)
theorem iO{a n:Int}{w:World}(ha:0≤a∧a<65536) : Calls Tryz.prog 227 #[.int .u16 a,.int .i64 n] w fun e w'=>e = .returned (.bool (eN a n))∧w=w':=by
  have h1:IntKind.i64.wrap (65536-a)=65536-a:=IntWalk.i64_in _ (by omega)
  by_cases h:0<n
  · have hd:eN a n=decide (n≤65536-a):=by simp[eN,h]
    rw[hd]
    go_enter Tryz.func227,Tryz.ntmps227
    go_wp2
    go_ret
    exact⟨rfl,rfl⟩
  · have hd:eN a n=false:=by simp[eN,h]
    rw[hd]
    go_enter Tryz.func227,Tryz.ntmps227
    go_wp2
    go_ret
    exact⟨rfl,rfl⟩
def aA.wbad (c:aA)(n:Int) : Bool:=decide (n<0)||decide ((c.l.length:Int)<n)
def aA.wordsC (c:aA)(n:Int) : aA:=if c.wbad n then c.bytesC (-1) else c.bytesC (2*n)
def aA.wordsR (c:aA)(n:Int) : List Int:=if c.wbad n then [] else dI (c.bytesR (2*n))
def jE (g:Nat)(c:aA)(n:Int)(w:World)(e:Ending)(w':World) : Prop:=∃ v,e = .returned v∧nM w.heap.size w' v (c.wordsR n)∧ag w' g (c.wordsC n)∧ap [g] w w'
theorem aA.bytesR_le(c:aA)(n:Int) : (c.bytesR n).length≤c.l.length:=by
  unfold aA.bytesR
  split
  · simp
  · simp;omega
theorem oZ{g:Nat}{c:aA}{w:World}{n:Int}(hc:ag w g c) :
    Calls Tryz.prog 228 #[.func (.func 156) #[.pointer (some ⟨g,0,none⟩)] #[],.int .i64 n,.int .i64 c.l.length] w (jE g c n w):=by
  have hlen:(c.l.length:Int)≤1048576:=by obtain⟨_,_,_,h⟩:=hc;omega
  by_cases hb:c.wbad n=true
  · have hpost:∀ w',ag w' g (c.bytesC (-1))→ap [g] w w'→jE g c n w (.returned (.slice none 0 0)) w':=fun w' h1 h2 =>
      ⟨_,rfl,by rw[aA.wordsR,if_pos hb];exact aJ.nil ..,by rw[aA.wordsC,if_pos hb];exact h1,h2⟩
    simp only[aA.wbad,Bool.or_eq_true,decide_eq_true_eq] at hb
    by_cases h1:n<0
    · clear hb
      go_enter Tryz.func228,Tryz.ntmps228
      go_wp2_with (go_at_call 156;refine(bP hc).mono ?_;rintro e w' ⟨v,rfl,_,hn1,hn2⟩)
      go_ret
      exact hpost _ hn1 hn2
    · have h2:(c.l.length:Int)<n:=by omega
      clear hb
      go_enter Tryz.func228,Tryz.ntmps228
      go_wp2_with (go_at_call 156;refine(bP hc).mono ?_;rintro e w' ⟨v,rfl,_,hn1,hn2⟩)
      go_ret
      exact hpost _ hn1 hn2
  · have hpost:∀ v w1 w',nM w1.heap.size w' v (dI (c.bytesR (2*n)))→ag w1 g (c.bytesC (2*n))→ap [g] w w1→ap [] w1 w'→jE g c n w (.returned v) w':=fun v w1 w' h1 h2 h3 h4 =>
      ⟨_,rfl,by rw[aA.wordsR,if_neg hb];exact h1.weaken h3.size,by rw[aA.wordsC,if_neg hb];exact h2.old h4,h3.step h4⟩
    simp only[aA.wbad,Bool.or_eq_true,decide_eq_true_eq,not_or] at hb
    obtain⟨h1,h2⟩:=hb
    have h3:IntKind.i64.wrap (2*n)=2*n:=IntWalk.i64_in _ (by omega)
    have hle:=c.bytesR_le (2*n)
    go_enter Tryz.func228,Tryz.ntmps228
    go_wp2_with (first | (go_at_call 156;refine(bP hc).mono ?_;rintro e w1 ⟨v,rfl,hr1,hn1,hn2⟩) | (go_at_call 233;refine(xv hr1 (by omega)).mono ?_;rintro e w2 ⟨v2,rfl,ho,hu⟩))
    go_ret
    exact hpost _ _ _ ho hn1 hn2 hu
theorem dO{g:Nat}{c:aA}{w:World}{n:Int}(hc:ag w g c) :
    Calls Tryz.prog 202 #[.pointer (some ⟨g,0,none⟩),.int .i64 n] w (jE g c n w):=by
  obtain⟨A,cp,c0,c1,c2,hfr,hcp1,hcp2,hrd⟩:=hc.cells
  clear hfr hrd c1 c2
  go_enter Tryz.func202,Tryz.ntmps202
  go_wp2_with (go_at_call 228;refine(oZ hc).mono ?_;rintro e w' ⟨v,rfl,hn0,hn1,hn2⟩)
  go_ret
  exact⟨_,rfl,hn0,hn1,hn2⟩
theorem dK{g:Nat}{c:aA}{w:World}(hc:ag w g c) :
    Calls Tryz.prog 160 #[.pointer (some ⟨g,0,none⟩)] w fun e w'=>e = .returned (.int .i64 c.l.length)∧w=w':=by
  obtain⟨A,cp,c0,c1,c2,hfr,hcp1,hcp2,hrd⟩:=hc.cells
  clear hfr hrd c1 c2
  go_enter Tryz.func160,Tryz.ntmps160
  go_wp2
  go_ret
  exact⟨rfl,rfl⟩
theorem ci{g:Nat}{c:aA}{w:World}(hc:ag w g c) :
    Calls Tryz.prog 146 #[.pointer (some ⟨g,0,none⟩)] w fun e w'=>e = .returned (.int .i64 c.e)∧w=w':=by
  obtain⟨A,cp,c0,c1,c2,hfr,hcp1,hcp2,hrd⟩:=hc.cells
  clear hfr hrd c1 c0
  go_enter Tryz.func146,Tryz.ntmps146
  go_wp2
  go_ret
  exact⟨rfl,rfl⟩
def aA.endC (c:aA) : aA:=c.need ((c.l.length:Int)==0) 3
theorem ee{g:Nat}{c:aA}{w:World}(hc:ag w g c) :
    Calls Tryz.prog 145 #[.pointer (some ⟨g,0,none⟩)] w (Bn g c.endC w):=by
  obtain⟨A,cp,c0,c1,c2,hfr,hcp1,hcp2,hrd⟩:=hc.cells
  clear hfr hrd c1 c2
  go_enter Tryz.func145,Tryz.ntmps145
  go_wp2_with (go_at_call 155;refine(aU _ 3 hc).mono ?_;rintro e w' ⟨rfl,hn1,hn2⟩)
  go_end0
  exact⟨rfl,hn1,hn2⟩
def Dg (xs:List Int)(w:World)(e:Ending)(w':World) : Prop:=∃ g,e = .returned (.pointer (some ⟨g,0,none⟩))∧w.heap.size≤g∧ag w' g ⟨xs,false,0⟩∧ap [] w w'
theorem dt{m:Md}{v:Value}{xs:List Int}{w:World}(h:aR m w v xs)(hn:xs.length≤1048576) :
    Calls Tryz.prog 139 #[v] w (Dg xs w):=by
  go_enter Tryz.func139,Tryz.ntmps139
  go_wp2_with (go_at_call 192;refine(n7 h hn).mono ?_;rintro e w' ⟨v',rfl,hn1,hn2⟩;have hr:=hn1.rd;obtain⟨A,c,rfl,_,_⟩:=hr.shape)
  go_ret
  refine⟨_,rfl,hn2.size,⟨_,?_,aR.old hr ((ap.refl [] _).alloc _),hn⟩,hn2.alloc _⟩
  exact dr ..
def aA.byteV (c:aA) : Int:=(c.bytesR 1).getD 0 0
def aA.wordV (c:aA) : Int:=(c.wordsR 1).getD 0 0
def mN (g:Nat)(k:IntKind)(hi:Int)(x:Int)(c':aA)(w:World)(e:Ending)(w':World) : Prop:=e = .returned (.int k x)∧ag w' g c'∧ap [g] w w'∧0≤x∧x<hi
theorem bD{g:Nat}{c:aA}{w:World}(hc:ag w g c) :
    Calls Tryz.prog 154 #[.pointer (some ⟨g,0,none⟩)] w (mN g .u8 256 c.byteV (c.bytesC 1) w):=by
  have hpost:∀ w' x,x=c.byteV→ag w' g (c.bytesC 1)→ap [g] w w'→0≤x∧x<256→mN g .u8 256 c.byteV (c.bytesC 1) w (.returned (.int .u8 x)) w':=fun w' x hx h1 h2 h3=>⟨by rw[hx],h1,h2,hx▸h3⟩
  rcases hl:c.bytesR 1 with _|⟨x,r⟩
  · have hv:c.byteV=0:=by simp[aA.byteV,hl]
    have hb:=bP (n:=1) hc
    unfold iE at hb
    rw[hl] at hb
    have HV:=Lib.hid hv
    clear hl hv
    go_enter Tryz.func154,Tryz.ntmps154
    go_wp2_with (first | (go_at_call 156;refine hb.mono ?_;rintro e w1 ⟨v,rfl,hr1,hn1,hn2⟩;obtain⟨A,cp,rfl,_,_⟩:=hr1.shape;clear hb hr1) | (refine wp_loop_once ?_))
    go_ret
    exact hpost _ _ HV.out.symm hn1 hn2 (by omega)
  · have hv:c.byteV=x:=by simp[aA.byteV,hl]
    have hb:=bP (n:=1) hc
    unfold iE at hb
    rw[hl] at hb
    have HV:=Lib.hid hv
    clear hl hv
    go_enter Tryz.func154,Tryz.ntmps154
    go_wp2_with (first | (go_at_call 156;refine hb.mono ?_;rintro e w1 ⟨v,rfl,hr1,hn1,hn2⟩;obtain⟨A,cp,rfl,_,_⟩:=hr1.shape;obtain⟨b,off,rfl,hcell,hrng⟩:=aR.at_ hr1 0 (by simp);simp only[List.getD_cons_zero,Nat.add_zero] at hcell hrng;clear hb hr1) | (refine wp_loop_once ?_))
    go_ret
    exact hpost _ _ HV.out.symm hn1 hn2 hrng
theorem bC{g:Nat}{c:aA}{w:World}(hc:ag w g c) :
    Calls Tryz.prog 163 #[.pointer (some ⟨g,0,none⟩)] w (mN g .u16 65536 c.wordV (c.wordsC 1) w):=by
  have hpost:∀ w' x,x=c.wordV→ag w' g (c.wordsC 1)→ap [g] w w'→0≤x∧x<65536→mN g .u16 65536 c.wordV (c.wordsC 1) w (.returned (.int .u16 x)) w':=fun w' x hx h1 h2 h3=>⟨by rw[hx],h1,h2,hx▸h3⟩
  rcases hl:c.wordsR 1 with _|⟨x,r⟩
  · have hv:c.wordV=0:=by simp[aA.wordV,hl]
    have hb:=dO (n:=1) hc
    unfold jE at hb
    rw[hl] at hb
    have HV:=Lib.hid hv
    clear hl hv
    go_enter Tryz.func163,Tryz.ntmps163
    go_wp2_with (first | (go_at_call 202;refine hb.mono ?_;rintro e w1 ⟨v,rfl,hr1,hn1,hn2⟩;obtain⟨A,cp,rfl,_,_⟩:=hr1.rd.shape;clear hb hr1) | (refine wp_loop_once ?_))
    go_ret
    exact hpost _ _ HV.out.symm hn1 hn2 (by omega)
  · have hv:c.wordV=x:=by simp[aA.wordV,hl]
    have hb:=dO (n:=1) hc
    unfold jE at hb
    rw[hl] at hb
    have HV:=Lib.hid hv
    clear hl hv
    go_enter Tryz.func163,Tryz.ntmps163
    go_wp2_with (first | (go_at_call 202;refine hb.mono ?_;rintro e w1 ⟨v,rfl,hr1,hn1,hn2⟩;obtain⟨A,cp,rfl,_,_⟩:=hr1.rd.shape;obtain⟨b,off,rfl,hcell,hrng⟩:=eO.at_ hr1.rd 0 (by simp);simp only[List.getD_cons_zero,Nat.add_zero] at hcell hrng;clear hb hr1) | (refine wp_loop_once ?_))
    go_ret
    exact hpost _ _ HV.out.symm hn1 hn2 hrng
theorem fX{xs:List Int}{h:Int}(hh:0<h)(hx:∀ x,x∈xs→0≤x∧x<h)(i:Nat) : 0≤xs.getD i 0∧xs.getD i 0<h:=by
  rw[List.getD_eq_getElem?_getD]
  cases hg:xs[i]? with
  | none=>exact⟨Int.le_refl _,hh⟩
  | some x=>exact hx x (List.mem_of_getElem? hg)
theorem ag.rng{w:World}{g:Nat}{c:aA}(h:ag w g c) : ∀ x,x∈c.l→0≤x∧x<256:=by
  obtain⟨v,_,hr,_⟩:=h
  exact hr.rng
theorem iM{c:aA}(h:∀ x,x∈c.l→0≤x∧x<256)(n:Int) : ∀ x,x∈c.bytesR n→0≤x∧x<256:=by
  intro x hx
  unfold aA.bytesR at hx
  split at hx
  · cases hx
  · exact h x (List.mem_of_mem_take hx)
theorem mU:∀ {xs:List Int},(∀ x,x∈xs→0≤x∧x<256)→∀ x,x∈ea xs→0≤x∧x<65536
  | [],_,x,hx=>by cases hx
  | [_],_,x,hx=>by cases hx
  | a :: b :: r,h,x,hx=>by
    simp only[ea,List.mem_cons] at hx
    have ha:=h a (by simp)
    have hb:=h b (by simp)
    rcases hx with rfl|hx
    · omega
    · exact mU (fun y hy=>h y (by simp[hy])) x hx
theorem jk{xs:List Int}(h:∀ x,x∈xs→0≤x∧x<256) : ∀ x,x∈dI xs→0≤x∧x<65536:=by
  unfold dI
  split
  · exact mU h
  · intro x hx;cases hx
theorem ag.byteV{w:World}{g:Nat}{c:aA}(h:ag w g c) : 0≤c.byteV∧c.byteV<256:=fX (by omega) (iM h.rng 1) 0
theorem ag.wordV{w:World}{g:Nat}{c:aA}(h:ag w g c) : 0≤c.wordV∧c.wordV<65536:=by
  refine fX (by omega) ?_ 0
  unfold aA.wordsR
  split
  · intro x hx;cases hx
  · exact jk (iM h.rng _)
theorem jy(c:aA)(ok:Bool)(x:Int) : (c.need ok x).l=c.l:=by unfold aA.need;split<;>rfl
theorem iS{c:aA}(h:∀ x,x∈c.l→0≤x∧x<256)(n:Int) : ∀ x,x∈(c.bytesC n).l→0≤x∧x<256:=by
  intro x hx
  unfold aA.bytesC at hx
  split at hx
  · rw[jy] at hx;cases hx
  · exact h x (List.mem_of_mem_drop hx)
theorem d6{c:aA}(h:∀ x,x∈c.l→0≤x∧x<256)(n:Int) : ∀ x,x∈(c.wordsC n).l→0≤x∧x<256:=by
  unfold aA.wordsC
  split<;>exact iS h _
theorem di{c:aA}(h:∀ x,x∈c.l→0≤x∧x<256) : 0≤c.wordV∧c.wordV<65536:=by
  refine fX (by omega) ?_ 0
  unfold aA.wordsR
  split
  · intro x hx;cases hx
  · exact jk (iM h _)
open Go.RowKit
def aQ:List Int→List Int
  | []=>[]
  | n :: r=>n/256 :: n%256 :: aQ r
theorem aq:∀ xs:List Int,(aQ xs).length=2*xs.length
  | []=>rfl
  | n :: r=>by simp only[aQ,List.length_cons,aq r];omega
theorem jU:∀ xs ys:List Int,aQ (xs++ys)=aQ xs++aQ ys
  | [],ys=>rfl
  | n :: r,ys=>by simp[aQ,jU r ys]
theorem vc(xs:List Int)(k:Nat)(h:k<xs.length) : aQ (xs.take (k+1))=aQ (xs.take k)++[xs.getD k 0/256,xs.getD k 0%256]:=by
  have hg:xs[k]? = some (xs.getD k 0):=by simp[List.getD_eq_getElem?_getD,List.getElem?_eq_getElem h]
  rw[List.take_add_one,hg,jU]
  rfl
def Dn (xs:List Int)(w:World)(e:Ending)(w':World) : Prop:=∃ v,e = .returned v∧cn w.heap.size w' v (aQ xs)∧ap [] w w'
theorem bW{m:Md}{v:Value}{xs:List Int}{w:World}(h:eO m w v xs)(hn:xs.length≤1048576) : Calls Tryz.prog 196 #[v] w (Dn xs w):=by
  have hh:=h
  obtain⟨A,c,rfl,hc1,hc2⟩:=h.shape
  go_enter Tryz.func196,Tryz.ntmps196
  go_wp2
  go_loopw [3,8] (fun o i wr=>∃ k:Nat,k≤xs.length∧i = .int .i64 (k:Int)∧cn w.heap.size wr o (aQ (xs.take k))∧ap [] w wr) (fun _ i _=>xs.length-(intOf i).toNat)
  case atStart=>exact⟨0,by omega,rfl,by simpa [aQ] using aJ.nil ..,ap.refl _ _⟩
  case round =>
    obtain⟨k,hk,rfl,hown,hu⟩:=hrel
    by_cases hlt:k<xs.length
    · obtain⟨b,off,rfl,cw0,hr0⟩:=eO.at_ hh k hlt
      obtain⟨x0,hx0⟩ : ∃ x,x=xs.getD k 0:=⟨_,rfl⟩
      rw[← hx0] at cw0 hr0
      have hc0:=hu.cell (by simp) cw0
      have H0:=Lib.hid hx0
      have hw1:IntKind.u8.wrap (x0/256)=x0/256:=IntWalk.u8_in _ (by omega)
      have hw2:IntKind.u8.wrap x0=x0%256:=IntKind.wrap_u8 _
      clear h hh hx0 cw0
      have hown2:∀ W,ap [] wr W→cn w.heap.size W u3 (aQ (xs.take k)):=fun W hW=>aJ.upd hown hW (bM.nil _ _ _) fun _ _ h=>h
      have hlit:=fun W=>(qH (R:=jH) (enc:=Value.int .u8) W 5 [x0/256,x0%256] (fun x hx=>by simp at hx;rcases hx with rfl | rfl<;>exact⟨rfl,by omega,by omega⟩) (by simp)).rd
      have hlw:(aQ (xs.take k)).length+[x0/256,x0%256].length≤4194304:=by rw[aq,List.length_take];simp;omega
      have hsz:=hu.size
      have hdone:∀ o w',cn w.heap.size w' o (aQ (xs.take k)++[x0/256,x0%256])→cn w.heap.size w' o (aQ (xs.take (k+1))):=by
        intro o w' h
        rw[vc xs k hlt,← H0.out]
        exact h
      go_wp2_with (at_builtin;refine mE bh w.heap.size rfl _ _ 27 5 (.int .u8 0) 1 rfl Tryz.underlying27 kG rfl _ _ rfl (hown2 _ ((ap.refl [] wr).alloc _)) _ [x0/256,x0%256] rfl (hlit _) hlw (by decide) (by simp;omega) ?_;intro v' w' hown' hupd)
      go_roundw
      case rel=>exact⟨k+1,by omega,by go_num,hdone _ _ hown',hupd [] w (hu.alloc _) (Nat.le_refl _)⟩
      case measure=>simp[intOf];omega
    · have hj3:k=xs.length:=by omega
      have H3:=Lib.hid hj3
      clear hj3 h hh
      go_wp2
      go_ret
      refine⟨_,rfl,?_,hu⟩
      rw[H3.out,List.take_of_length_le (Nat.le_refl _)] at hown
      exact hown
open Go.RowKit
def eI (n:Int) : Int:=if n<1 then 0 else (n-1)/8+1
theorem jl{n:Int}{w:World}(hn : -4611686018427387904≤n∧n≤4611686018427387904) : Calls Tryz.prog 194 #[.int .i64 n] w fun e w'=>e = .returned (.int .i64 (eI n))∧w=w':=by
  by_cases h:n<1
  · have hm:eI n=0:=if_pos h
    rw[hm]
    go_enter Tryz.func194,Tryz.ntmps194
    go_wp2
    go_ret
    exact⟨rfl,rfl⟩
  · have hm:eI n=(n-1)/8+1:=if_neg h
    rw[hm]
    go_enter Tryz.func194,Tryz.ntmps194
    go_wp2
    go_ret
    exact⟨rfl,rfl⟩
def fl {α:Type}(w:World)(g:Nat)(e:TypeId)(enc:α→Value)(xs:List α) : Prop:=w.heap[g]? = some (.cells (xs.map enc).toArray e (0,0))
theorem fl.cell{α:Type}{w:World}{g:Nat}{e:TypeId}{enc:α→Value}{xs:List α}(h:fl w g e enc xs)(d:α)(i:Nat)(hi:i<xs.length) : w.cell? ⟨g,i,none⟩=some (enc (xs.getD i d)):=by
  rw[be h]
  simp[List.getD_eq_getElem?_getD,List.getElem?_eq_getElem hi]
theorem fl.froz{α:Type}{w:World}{g:Nat}{e:TypeId}{enc:α→Value}{xs:List α}(h:fl w g e enc xs)(i:Nat) : w.frozen? ⟨g,i,none⟩=false:=ew h i
theorem fl.set{α:Type}{w:World}{g:Nat}{e:TypeId}{enc:α→Value}{xs:List α}(h:fl w g e enc xs)(i:Nat)(y:α) : fl (w.setCell ⟨g,i,none⟩ (enc y)) g e enc (xs.set i y):=by
  unfold fl
  rw[fC h]
  simp[List.map_set]
theorem fl.upd{α:Type}{w w':World}{g:Nat}{e:TypeId}{enc:α→Value}{xs:List α}{S:List Nat}(h:fl w g e enc xs)(hu:ap S w w')(hg:g∉S) : fl w' g e enc xs:=hu.blk hg h
theorem fl.own{α:Type}{R:World→α→List Value→Prop}{w:World}{g base:Nat}{e:TypeId}{enc:α→Value}{xs:List α}(h:fl w g e enc xs)(hb:base≤g)(hR:∀ x,x∈xs→R w x [enc x])(hl:xs.length≤4194304) :
    aJ base e 1 R w (.slice (some ⟨g,0,none⟩) xs.length xs.length) xs :=
  dX (enc:=enc) hR ⟨by simp,.inr ⟨g,xs.length,_,rfl,hb,h,Nat.le_refl _,by unfold maxLen;omega,by simp,by simp[List.take_of_length_le]⟩⟩
theorem uj{α:Type}(enc:α→Value)(d:α)(m:Nat) : madeCells #[enc d] m=((List.replicate m d).map enc).toArray:=by
  apply Array.ext_getElem?
  intro i
  by_cases hi:i<m
  · simp[madeCells,Nat.mod_one,hi]
  · simp[madeCells,hi]
theorem pC{P:Program}{α:Type}(enc:α→Value)(d:α)(t e:TypeId)(bytes:Nat)(ht:P.underlying t=some (.slice e))(hinfo:(P.info? e).map (fun i=>(i.zero,i.size,i.bytes))=some (some (enc d),1,bytes))(hz:(enc d).cells = #[enc d])
    (m:Nat) (hm:m≤4194304) (hby:bytes≤65536) (W:World) :
    (Instr.makeSlice t (.int .i64 (m:Int)) (.int .i64 (m:Int))).run P W = .ok (.slice (some ⟨W.heap.size,0,none⟩) m m) (W.alloc (.cells ((List.replicate m d).map enc).toArray e)):=by
  rw[← uj]
  exact run_make_row' t e (enc d) bytes ht hinfo hz .i64 .i64 m (Nat.le_trans (Nat.mul_le_mul hby hm) (by decide)) (by omega) W
theorem tw:(Tryz.prog.info? 4).map (fun i=>(i.zero,i.size,i.bytes))=some (some (.bool false),1,1):=by kernel_rfl
def cX (l:List Bool)(j:Nat) : Nat :=
  (if l.getD (8*j) false then 1 else 0)+(if l.getD (8*j+1) false then 2 else 0)+(if l.getD (8*j+2) false then 4 else 0)+(if l.getD (8*j+3) false then 8 else 0) +
  (if l.getD (8*j+4) false then 16 else 0)+(if l.getD (8*j+5) false then 32 else 0)+(if l.getD (8*j+6) false then 64 else 0)+(if l.getD (8*j+7) false then 128 else 0)
theorem jv(l:List Bool)(k i:Nat) : (l.take k).getD i false=(decide (i<k)&&l.getD i false):=by
  rw[List.getD_eq_getElem?_getD,List.getD_eq_getElem?_getD,List.getElem?_take]
  by_cases h:i<k<;>simp[h]
theorem tG(l:List Bool)(k:Nat) : cX (l.take k) (k/8)<2 ^ (k%8):=by
  have hr:k%8<8:=Nat.mod_lt _ (by decide)
  have hk:k=8*(k/8)+k%8:=by omega
  generalize k/8=q at *
  generalize k%8=r at *
  subst hk
  unfold cX
  simp only[jv]
  rcases r with _|_|_|_|_|_|_|_|r
  case succ.succ.succ.succ.succ.succ.succ.succ=>omega
  all_goals
    simp
    repeat' split
    all_goals omega
theorem ky(l:List Bool)(k j:Nat) : cX (l.take (k+1)) j=cX (l.take k) j+if j=k/8∧l.getD k false=true then 2 ^ (k%8) else 0:=by
  by_cases hj:j=k/8
  · subst hj
    have hr:k%8<8:=Nat.mod_lt _ (by decide)
    have hk:k=8*(k/8)+k%8:=by omega
    generalize k/8=q at *
    generalize k%8=r at *
    subst hk
    unfold cX
    simp only[jv]
    have e:∀ t r:Nat,decide (8*q+t<8*q+r)=decide (t<r):=fun t r=>by simp
    have e0:∀ r:Nat,decide (8*q<8*q+r)=decide (0<r):=fun r=>by simp
    simp only[Nat.add_assoc,e,e0]
    rcases r with _|_|_|_|_|_|_|_|r
    case succ.succ.succ.succ.succ.succ.succ.succ=>omega
    all_goals simp
  · have h1:∀ t,t<8→(decide (8*j+t<k+1)&&l.getD (8*j+t) false)=(decide (8*j+t<k)&&l.getD (8*j+t) false):=by
      intro t ht
      have:8*j+t<k+1↔8*j+t<k:=by omega
      simp only[this]
    have h0:=h1 0 (by omega)
    simp only[Nat.add_zero] at h0
    unfold cX
    simp only[jv,h0,h1 1 (by omega),h1 2 (by omega),h1 3 (by omega),h1 4 (by omega),h1 5 (by omega),h1 6 (by omega),h1 7 (by omega)]
    simp[hj]
theorem qU(l:List Bool)(j:Nat) : cX l j≤255:=by
  unfold cX
  repeat' split
  all_goals omega
def dy (l:List Bool) : List Int:=(List.range (eI l.length).toNat).map fun j=>(cX l j:Int)
def Cj (l:List Bool)(w:World)(e:Ending)(w':World) : Prop:=∃ v,e = .returned v∧cn w.heap.size w' v (dy l)∧ap [] w w'
theorem xd{m:Md}{v:Value}{l:List Bool}{w:World}(h:mF m w v l)(hn:l.length≤1048576) : Calls Tryz.prog 197 #[v] w (Cj l w):=by
  have hh:=h
  obtain⟨A,c,rfl,hc1,hc2⟩:=h.shape
  have hmn:0≤eI l.length∧eI l.length≤131073:=by unfold eI;split<;>omega
  obtain⟨N,hN⟩:=Int.eq_ofNat_of_zero_le hmn.1
  have hmk:=pC (P:=Tryz.prog) (Value.int .u8) 0 27 5 1 Tryz.underlying27 kG rfl N (by omega) (by decide)
  clear h
  go_enter Tryz.func197,Tryz.ntmps197
  go_wp2_with (go_at_call 194;refine(jl (by omega)).mono ?_;rintro e w1 ⟨rfl,rfl⟩;rw[hN])
  clear hmk
  go_loopw [4,12] (fun _ i wr=>∃ k:Nat,k≤l.length∧i = .int .i64 (k:Int)∧fl wr w.heap.size 5 (Value.int .u8) ((List.range N).map fun j=>(cX (l.take k) j:Int))∧ap [] w wr) (fun _ i _=>l.length-(intOf i).toNat)
  case atStart =>
    refine⟨0,by omega,rfl,?_,(ap.refl [] w).alloc _⟩
    have e:(List.range N).map (fun j=>(cX (l.take 0) j:Int))=List.replicate N 0:=by
      apply List.ext_getElem
      · simp
      · intro i h1 h2
        simp[cX]
    rw[e]
    have h:=dr w (.cells ((List.replicate N (0:Int)).map (Value.int .u8)).toArray 5)
    simp only[List.map_replicate,List.toArray_replicate] at h
    unfold fl
    rw[List.map_replicate,List.toArray_replicate]
    exact h
  case round =>
    obtain⟨k,hk,rfl,hrow,hu⟩:=hrel
    by_cases hlt:k<l.length
    · obtain⟨b,off,rfl,cw0⟩:=mF.at_ hh k hlt
      obtain⟨x0,hx0⟩ : ∃ x,x=l.getD k false:=⟨_,rfl⟩
      rw[← hx0] at cw0
      have hc0:=hu.cell (by simp) cw0
      have H0:=Lib.hid hx0
      clear hh hx0 cw0
      have hkN:k/8<N:=by
        have:(k:Int)/8<N:=by rw[← hN];unfold eI;split<;>omega
        omega
      cases x0 with
      | false =>
        have hrow':fl wr w.heap.size 5 (Value.int .u8) ((List.range N).map fun j=>(cX (l.take (k+1)) j:Int)):=by
          have e:(fun j=>(cX (l.take (k+1)) j:Int))=fun j=>(cX (l.take k) j:Int):=by
            funext j
            rw[ky,← H0.out]
            simp
          rw[e]
          exact hrow
        clear hrow
        go_wp2
        go_roundw
        case rel=>exact⟨k+1,by omega,by go_num,hrow',hu⟩
        case measure=>simp[intOf];omega
      | true =>
        have s6:IntKind.i64.wrap ((k:Int)/8)=(k:Int)/8:=IntWalk.i64_in _ (by omega)
        have oo:(0:Int)≤(k:Int)/8:=by omega
        have qy:(k:Int)/8<N:=by omega
        have hd4:((k:Int)/8).toNat=k/8:=by omega
        obtain⟨r,hr⟩ : ∃ r,k%8=r:=⟨_,rfl⟩
        have hr8:r<8:=by omega
        have hd5:(k:Int).tmod 8=(r:Int):=by rw[Int.tmod_eq_emod_of_nonneg (by omega)];omega
        have hsh:∀ W,(Op.shift BinOp.shl IntKind.u8 1 IntKind.i64 (r:Int)).run Tryz.prog W = .ok (.int .u8 (2 ^ r)) W:=by
          intro W
          clear hr hd5
          rcases r with _|_|_|_|_|_|_|_|r
          case succ.succ.succ.succ.succ.succ.succ.succ=>omega
          all_goals rfl
        have hbl:=tG l k
        rw[hr] at hbl
        obtain⟨x,hx⟩ : ∃ x,cX (l.take k) (k/8)=x:=⟨_,rfl⟩
        rw[hx] at hbl
        have hor:bits BinOp.or IntKind.u8 (x:Int) (2 ^ r)=((x+2 ^ r:Nat) : Int):=by
          have h2:(2:Nat) ^ r≤128:=by
            have:=Nat.pow_le_pow_right (n:=2) (by decide) (show r≤7 by omega)
            omega
          have h3:((2:Int) ^ r)=((2 ^ r:Nat) : Int):=by simp
          rw[h3,u8_or_nat _ _ (by omega) (by omega)]
          have:=Nat.two_pow_add_eq_or_of_lt hbl 1
          rw[Nat.mul_one,Nat.or_comm] at this
          omega
        have hcell:=hrow.cell 0 (k/8) (by simp;exact hkN)
        have hget:((List.range N).map fun j=>(cX (l.take k) j:Int)).getD (k/8) 0=(x:Int):=by
          rw[List.getD_eq_getElem?_getD]
          simp[hkN,hx]
        rw[hget] at hcell
        have hfro:=hrow.froz (k/8)
        have hrow2:∀ W,ap [] wr W→fl (W.setCell ⟨w.heap.size,k/8,none⟩ (.int .u8 ((x:Int)+2 ^ r))) w.heap.size 5 (Value.int .u8) ((List.range N).map fun j=>(cX (l.take (k+1)) j:Int)):=by
          intro W hW
          have h:=(fl.upd hrow hW (by simp)).set (k/8) ((x+2 ^ r:Nat) : Int)
          have hrow':((List.range N).map fun j=>(cX (l.take k) j:Int)).set (k/8) ((x+2 ^ r:Nat) : Int)=(List.range N).map fun j=>(cX (l.take (k+1)) j:Int):=by
            apply List.ext_getElem
            · simp
            · intro i h1 h2
              simp only[List.getElem_set,List.getElem_map,List.getElem_range]
              rw[ky,← H0.out,hr]
              by_cases hi:i=k/8
              · subst hi
                simp[hx]
              · rw[if_neg (by omega)]
                simp[hi]
          rw[hrow'] at h
          simpa using h
        have hcast:((x+2 ^ r:Nat) : Int)=(x:Int)+2 ^ r:=by simp
        rw[hcast] at hor
        have hwr:IntKind.u8.wrap (2 ^ r)=2 ^ r:=by
          have h2:(2:Nat) ^ r≤128:=by
            have:=Nat.pow_le_pow_right (n:=2) (by decide) (show r≤7 by omega)
            omega
          have h3:((2:Int) ^ r)=((2 ^ r:Nat) : Int):=by simp
          rw[h3]
          exact IntWalk.u8_in _ (by omega)
        clear hrow hr hx hget hbl hcast
        go_wp2_with fail
        refine mj 10 (by kernel_rfl) (by kernel_rfl) (fun w4 hu4=>?_)
        have d0:=hu4.cell (by simp) hcell
        have d1:=hu4.froz (p:=⟨w.heap.size,k/8,none⟩) (by simp) (World.block_lt_of_cell? _ _ hcell) hfro
        clear hcell hfro hc0
        simp only[List.take_succ_cons,List.take_zero,List.drop_succ_cons,List.drop_zero]
        iterate 10 still_step
        refine wpStill_nil ?_
        have h5:=hrow2 w4 hu4
        have hu6:ap [] w (w4.setCell ⟨w.heap.size,k/8,none⟩ (.int .u8 ((x:Int)+2 ^ r))):=(hu.trans hu4).setCell (.inr (Nat.le_refl _)) _
        clear hrow2 hor hwr hsh
        go_wp2
        go_roundw
        case rel=>exact⟨k+1,by omega,by go_num,h5,hu6⟩
        case measure=>simp[intOf];omega
    · have hj3:k=l.length:=by omega
      have H3:=Lib.hid hj3
      clear hj3 hh
      go_wp2
      go_ret
      rw[H3.out,List.take_of_length_le (Nat.le_refl _)] at hrow
      have ho:=hrow.own (R:=jH) (Nat.le_refl _) (fun x hx=>by
        simp only[List.mem_map,List.mem_range] at hx
        obtain⟨j,_,rfl⟩:=hx
        have:=qU l j
        exact⟨rfl,by omega,by omega⟩) (by simp;omega)
      have hlN:((List.range N).map fun j=>(cX l j:Int)).length=N:=by simp
      rw[hlN] at ho
      refine⟨_,rfl,?_,hu⟩
      unfold dy
      rw[hN]
      exact ho
def cJ (b:List Int)(i:Nat) : Bool:=b.getD (i/8) 0/2 ^ (i%8)%2==1
def dc (b:List Int)(n:Int) : Option (List Bool) :=
  if 0≤n∧(b.length:Int)=eI n then
    if (List.range (8*b.length)).all (fun i=>decide ((i:Int)<n) || !cJ b i) then some ((List.range n.toNat).map (cJ b)) else none
  else none
def ij (b:List Int)(n:Int)(w:World)(e:Ending)(w':World) : Prop :=
  ∃ v,e = .returned (.tuple #[v,.bool (dc b n).isSome])∧D1 w.heap.size w' v ((dc b n).getD [])∧ap [] w w'
theorem i8{b:List Int}{n:Int}{w w':World}(h:dc b n=none)(hu:ap [] w w') : ij b n w (.returned (.tuple #[.slice none 0 0,.bool false])) w' :=
  ⟨_,by rw[h];rfl,by rw[h];exact aJ.nil ..,hu⟩
theorem rF{m:Md}{v:Value}{b:List Int}{n:Int}{w:World}(h:aR m w v b)(hb:b.length≤1048576)(hn:n≤100000)(hn0 : -100000≤n) : Calls Tryz.prog 195 #[v,.int .i64 n] w (ij b n w):=by
  have hh:=h
  obtain⟨A,c,rfl,hc1,hc2⟩:=h.shape
  have hrng:=aR.rng h
  clear h
  by_cases h0:n<0
  · have hno:dc b n=none:=if_neg (by omega)
    have hp:∀ w',ap [] w w'→ij b n w (.returned (.tuple #[.slice none 0 0,.bool false])) w':=fun w' hu=>i8 hno hu
    clear hno hh
    go_enter Tryz.func195,Tryz.ntmps195
    go_wp2
    go_ret2
    exact hp _ (ap.refl _ _)
  by_cases h1:(b.length:Int)=eI n
  case neg =>
    have hno:dc b n=none:=if_neg (by omega)
    have hp:∀ w',ap [] w w'→ij b n w (.returned (.tuple #[.slice none 0 0,.bool false])) w':=fun w' hu=>i8 hno hu
    have h1':((b.length:Int)!=eI n)=true:=by simpa using h1
    clear hno hh h1
    go_enter Tryz.func195,Tryz.ntmps195
    go_wp2_with (go_at_call 194;refine(jl (by omega)).mono ?_;rintro e w1 ⟨rfl,rfl⟩)
    go_ret2
    exact hp _ (ap.refl _ _)
  case pos =>
    have h1':((b.length:Int)!=eI n)=false:=by simpa using h1
    obtain⟨N,rfl⟩:=Int.eq_ofNat_of_zero_le (show 0≤n by omega)
    have hmk:=pC (P:=Tryz.prog) Value.bool false 41 4 1 Tryz.underlying41 tw rfl N (by omega) (by decide)
    have H1:=Lib.hid h1
    clear h1
    go_enter Tryz.func195,Tryz.ntmps195
    go_wp2_with (go_at_call 194;refine(jl (by omega)).mono ?_;rintro e w1 ⟨rfl,rfl⟩)
    clear hmk
    go_loopw [23] (fun i wr=>∃ k:Nat,k≤8*b.length∧i = .int .i64 (k:Int)∧fl wr w.heap.size 4 Value.bool ((List.range N).map fun j=>decide (j<k)&&cJ b j)∧(∀ j,N≤j→j<k→cJ b j=false)∧ap [] w wr) (fun i _=>8*b.length-(intOf i).toNat)
    case atStart =>
      refine⟨0,by omega,rfl,?_,fun j _ hj=>by omega,(ap.refl [] w).alloc _⟩
      have e:(List.range N).map (fun j=>decide (j<0)&&cJ b j)=List.replicate N false:=by
        apply List.ext_getElem
        · simp
        · intro i h1 h2
          simp
      rw[e]
      have h:=dr w (.cells ((List.replicate N false).map Value.bool).toArray 4)
      simp only[List.map_replicate,List.toArray_replicate] at h
      unfold fl
      rw[List.map_replicate,List.toArray_replicate]
      exact h
    case round =>
      obtain⟨k,hk,rfl,hrow,hz,hu⟩:=hrel
      by_cases hlt:k<8*b.length
      · have hk8:k/8<b.length:=by omega
        obtain⟨bb,off,rfl,cw0,hr0⟩:=aR.at_ hh (k/8) hk8
        obtain⟨x,hx⟩ : ∃ x,b.getD (k/8) 0=x:=⟨_,rfl⟩
        rw[hx] at cw0 hr0
        have hc0:=hu.cell (by simp) cw0
        obtain⟨r,hr⟩ : ∃ r,k%8=r:=⟨_,rfl⟩
        have hr8:r<8:=by omega
        have hd4:((k:Int)/8).toNat=k/8:=by omega
        have hd5:(k:Int)%8=(r:Int):=by omega
        have hsh:∀ W,(Op.shift BinOp.shr IntKind.u8 x IntKind.i64 (r:Int)).run Tryz.prog W = .ok (.int .u8 (x/2 ^ r)) W:=by
          intro W
          clear hr hd5
          rcases r with _|_|_|_|_|_|_|_|r
          case succ.succ.succ.succ.succ.succ.succ.succ=>omega
          all_goals simp[go_sem]
        have hq:0≤x/2 ^ r∧x/2 ^ r<256:=by
          have h2:(0:Int)<2 ^ r:=Int.pow_pos (by decide)
          constructor
          · exact Int.ediv_nonneg hr0.1 (by omega)
          · exact Int.lt_of_le_of_lt (Int.ediv_le_self _ hr0.1) hr0.2
        have hand:bits BinOp.and IntKind.u8 (x/2 ^ r) 1=x/2 ^ r%2:=by
          rw[u8_and _ _ hq.1 hq.2 (by decide) (by decide)]
          have:(1:Int).toNat=1:=rfl
          rw[this,Nat.and_one_is_mod]
          omega
        have hbit:(x/2 ^ r%2==1)=cJ b k:=by rw[cJ,hx,hr]
        have hset:∀ W B,fl W w.heap.size 4 Value.bool ((List.range N).map fun j=>decide (j<k)&&cJ b j)→B=cJ b k→k<N→fl (W.setCell ⟨w.heap.size,k,none⟩ (.bool B)) w.heap.size 4 Value.bool ((List.range N).map fun j=>decide (j<k+1)&&cJ b j):=by
          intro W B h hB hkN
          have h2:=h.set k B
          have e:((List.range N).map fun j=>decide (j<k)&&cJ b j).set k B=(List.range N).map fun j=>decide (j<k+1)&&cJ b j:=by
            apply List.ext_getElem
            · simp
            · intro i h1 h2
              simp only[List.getElem_set,List.getElem_map,List.getElem_range]
              by_cases hi:i=k
              · subst hi
                simp[hB]
              · rw[if_neg (by omega)]
                have:i<k+1↔i<k:=by omega
                simp[this]
          rw[e] at h2
          exact h2
        have hwr1:IntKind.i64.wrap ((k:Int)/8)=(k:Int)/8:=IntWalk.i64_in _ (by omega)
        have HX:=Lib.hid hx
        have HR:=Lib.hid hr
        clear hx hr cw0 hq
        by_cases hkN:k<N
        · have hkl:k<((List.range N).map fun j=>decide (j<k)&&cJ b j).length:=by simpa using hkN
          have hcell:=hrow.cell false k hkl
          have hfro:=hrow.froz k
          have hset':=fun B hB=>hset wr B hrow hB hkN
          have hz':∀ j,N≤j→j<k+1→cJ b j=false:=fun j h1 h2=>hz j h1 (by omega)
          have hlt2:(k:Int)<N:=by omega
          generalize hBv:cJ b k=B at hbit
          have HB:=Lib.hid hBv
          have HZ:=Lib.hid hz'
          have HS:=Lib.hid hset'
          generalize ((List.range N).map fun j=>decide (j<k)&&cJ b j).getD k false=B0 at hcell
          have hN8:N≤8*b.length:=by have:=H1.out;unfold eI at this;split at this<;>omega
          clear hset hset' hz hz' hrow hh hBv hkl
          cases B <;>
          · go_wp2
            go_roundw
            case rel=>exact⟨k+1,by omega,by go_num,HS.out _ HB.out.symm,HZ.out,hu.setCell (.inr (Nat.le_refl _)) _⟩
            case measure=>simp[intOf];omega
        · have hlt2:¬ (k:Int)<N:=by omega
          generalize hBv:cJ b k=B at hbit
          have HB:=Lib.hid hBv
          clear hset hBv
          cases B with
          | true =>
            have hno:dc b N=none:=by
              unfold dc
              rw[if_pos ⟨by omega,H1.out⟩,if_neg]
              intro hall
              have:=List.all_eq_true.1 hall k (List.mem_range.2 (by omega))
              simp[HB.out] at this
              omega
            have hp:∀ w',ap [] w w'→ij b N w (.returned (.tuple #[.slice none 0 0,.bool false])) w':=fun w' hu=>i8 hno hu
            clear hno hz hrow hh
            go_wp2
            go_ret2
            exact hp _ hu
          | false =>
            have hrow':fl wr w.heap.size 4 Value.bool ((List.range N).map fun j=>decide (j<k+1)&&cJ b j):=by
              have e:(List.range N).map (fun j=>decide (j<k+1)&&cJ b j)=(List.range N).map fun j=>decide (j<k)&&cJ b j:=by
                apply List.map_congr_left
                intro j hj
                have hj':=List.mem_range.1 hj
                have:j<k+1↔j<k:=by omega
                simp[this]
              rw[e]
              exact hrow
            have hz':∀ j,N≤j→j<k+1→cJ b j=false:=fun j h1 h2=>by
              rcases Nat.lt_or_ge j k with h3|h3
              · exact hz j h1 h3
              · obtain rfl:j=k:=by omega
                exact HB.out
            have HZ:=Lib.hid hz'
            clear hz hz' hrow hh
            go_wp2
            go_roundw
            case rel=>exact⟨k+1,by omega,by go_num,hrow',HZ.out,hu⟩
            case measure=>simp[intOf];omega
      · have hk3:k=8*b.length:=by omega
        have hN8:N≤8*b.length:=by have:=H1.out;unfold eI at this;split at this<;>omega
        have hyes:dc b N=some ((List.range N).map (cJ b)):=by
          unfold dc
          rw[if_pos ⟨by omega,H1.out⟩,if_pos]
          · simp
          · simp only[List.all_eq_true,List.mem_range,Bool.or_eq_true,decide_eq_true_eq,Bool.not_eq_true']
            intro j hj
            by_cases hjN:j<N
            · exact .inl (by omega)
            · exact .inr (hz j (by omega) (by omega))
        have hfin:((List.range N).map fun j=>decide (j<k)&&cJ b j)=(List.range N).map (cJ b):=by
          apply List.map_congr_left
          intro j hj
          have hj':=List.mem_range.1 hj
          have:j<k:=by omega
          simp[this]
        rw[hfin] at hrow
        have ho:=hrow.own (R:=sP) (Nat.le_refl _) (fun x hx=>rfl) (by simp;omega)
        have hlN:((List.range N).map (cJ b)).length=N:=by simp
        rw[hlN] at ho
        have hp:ij b N w (.returned (.tuple #[.slice (some ⟨w.heap.size,0,none⟩) N N,.bool true])) wr:=⟨_,by rw[hyes];rfl,by rw[hyes];exact ho,hu⟩
        have H3:=Lib.hid hk3
        clear hk3 hz hrow hh hyes hfin ho hlN
        go_wp2
        go_ret2
        exact hp
open Go.RowKit
theorem td{P:Program}{kt:TypeId}{q q':IntKind}(hk:P.underlying kt=some (.int q))(w:World)(em:Bool)(n:Int) : (Instr.checkKey em 10000 kt (.int q' n)).run P w = .ok () w:=by
  rw[show(10000:Nat)=9999+1 from rfl,Instr.checkKey]
  simp[run_underlying hk,Result.andThen]
theorem lf{P:Program}{w:World}{t kt e:TypeId}{q:IntKind}(ht:P.underlying t=some (.map kt e))(hk:P.underlying kt=some (.int q)){r:Nat}{es:Array MapEntry}{clk:Nat}(hb:w.heap[r]? = some (.map es clk))
    (n:Int) (v:Value) (hno:Instr.findNow (.int q) (.int q n) es.toList 0=some none) :
    ∃ w',(Instr.mapUpdate t (.map (some r)) (.int q n) v).run P w = .ok () w'∧w'.heap[r]? = some (.map (es.push ⟨.int q n,v,clk⟩) (clk+1))∧ap [r] w w':=by
  have hlt:=ai hb
  refine⟨{ w with heap:=w.heap.setIfInBounds r (.map (es.push ⟨.int q n,v,clk⟩) (clk+1)) },?_,by simp[hlt],rfl,rfl,rfl,by simp,fun k hk1 hk2=>?_⟩
  · simp[Instr.mapUpdate,run_underlying ht,MapKept.run_getObj_map hb,td hk,MapKept.run_findKey hk hno,MapKept.run_setObj_map _ hb,Result.andThen]
  · have:r≠k:=fun h=>hk2 (by simp[h])
    simp[Array.getElem?_setIfInBounds,this]
theorem ju{P:Program}{w:World}{t kt e:TypeId}{q:IntKind}(ht:P.underlying t=some (.map kt e))(hk:P.underlying kt=some (.int q)){r:Nat}{es:Array MapEntry}{clk:Nat}(hb:w.heap[r]? = some (.map es clk))
    (n:Int) (z:Value) (hz:(zeroValue e).run P w = .ok z w) {res:Option (Nat × Value)} (hf:Instr.findNow (.int q) (.int q n) es.toList 0=some res) (cok:Bool) :
    (Instr.lookup t (.map (some r)) (.int q n) cok).run P w = .ok (if cok then .tuple #[(res.map (·.2)).getD z,.bool res.isSome] else (res.map (·.2)).getD z) w:=by
  unfold Instr.lookup
  simp only[Sem.run_bind,run_underlying ht,MapKept.run_getObj_map hb,td hk,MapKept.run_findKey hk hf,Result.andThen,Sem.run_pure]
  cases res with
  | none=>simp[hz,Result.andThen]
  | some p=>simp[Result.andThen]
open Go.RowKit
def ic (cs:Array Value) : Nat→List Value→Array Value
  | _,[]=>cs
  | o,v :: r=>ic (cs.setIfInBounds o v) (o+1) r
theorem kx:∀ (vs:List Value)(cs:Array Value)(o j:Nat),o+vs.length≤cs.size→(ic cs o vs)[j]? = if o≤j∧j<o+vs.length then vs[j-o]? else cs[j]?
  | [],cs,o,j,_=>by simp[ic];intro h1 h2;omega
  | v :: r,cs,o,j,h=>by
    have h':o+1+r.length≤cs.size:=by simp at h;omega
    simp only[ic]
    rw[kx r _ (o+1) j (by simpa using h')]
    by_cases hj:j=o
    · subst hj
      rw[if_neg (by omega),if_pos (by simp)]
      simp at h
      simp[Array.getElem?_setIfInBounds]
      omega
    · by_cases h2:o+1≤j∧j<o+1+r.length
      · rw[if_pos h2,if_pos (by simp;omega)]
        have:j-o=(j-(o+1))+1:=by omega
        rw[this,List.getElem?_cons_succ]
      · rw[if_neg h2,if_neg (by simp;omega),Array.getElem?_setIfInBounds,if_neg (by omega)]
theorem kA(vs:List Value)(cs:Array Value)(h:vs.length=cs.size) : ic cs 0 vs=vs.toArray:=by
  apply Array.ext_getElem?
  intro j
  rw[kx vs cs 0 j (by omega)]
  by_cases hj:j<vs.length
  · rw[if_pos (by omega)]
    simp
  · rw[if_neg (by omega)]
    simp
    rw[Array.getElem?_eq_none (by omega),List.getElem?_eq_none (by omega)]
theorem gH:∀ (vs:List Value)(w:World)(b o:Nat)(cs:Array Value)(t:TypeId)(fr:Nat × Nat),w.heap[b]? = some (.cells cs t fr)→(w.setCells b o vs).heap[b]? = some (.cells (ic cs o vs) t fr)∧ap [b] w (w.setCells b o vs)
  | [],w,b,o,cs,t,fr,h=>⟨h,ap.refl _ _⟩
  | v :: r,w,b,o,cs,t,fr,h=>by
    obtain⟨h1,h2⟩:=gH r (w.setCell ⟨b,o,none⟩ v) b (o+1) _ t fr (fC h o v)
    exact⟨h1,((ap.refl [b] w).setCell (p:=⟨b,o,none⟩) (.inl (by simp)) v).trans h2⟩
section
variable {P:Program}{w:World}{ops:Array Oper}{rest:List Oper}{o:Oper}{a:Act}{Q:Exit→Act→World→Prop}
theorem g7(hg:o.guard=none)(t:TypeId)(x y:Operand)(ho:o.op = .store t x y)(g:Nat)(hx:a.eval x = .pointer (some ⟨g,0,none⟩))(vs:Array Value)(hy:a.eval y = .agg vs)
    (cs:Array Value) (t':TypeId) (hb:w.heap[g]? = some (.cells cs t' (0,0))) (hi:(P.info? t).map (·.size)=some vs.size) (hs:vs.size=cs.size) (h1:vs.all (·.oneCell')=true)
    (h:∀ w',w'.heap[g]? = some (.cells vs t' (0,0))→ap [g] w w'→wpList P ops Q rest (a.put o.dst undef) w') : wpList P ops Q (o :: rest) a w:=by
  obtain⟨h2,h3⟩:=gH vs.toList w g 0 cs t' (0,0) hb
  rw[kA _ _ (by simpa using hs)] at h2
  refine wpList_store_mid hg t x y ho g 0 vs hx hy (fun j hj=>?_) hi h1 (h _ (by simpa using h2) h3)
  rw[Nat.zero_add,be hb,ew hb]
  exact⟨by rw[Array.getElem?_eq_getElem (by omega)];rfl,rfl⟩
theorem g9(hg:o.guard=none)(t:TypeId)(ho:o.op = .alloc t)(z:Value)(hz:(P.info? t).map (·.zero)=some (some z))
    (h:∀ g w',w.heap.size≤g→w'.heap[g]? = some (.cells z.cells t (0,0))→ap [] w w'→wpList P ops Q rest (a.put o.dst (.pointer (some ⟨g,0,none⟩))) w') : wpList P ops Q (o :: rest) a w:=by
  refine wpList_plain hg fun K hK=>?_
  obtain⟨i0,hi,hz0⟩:=Option.map_eq_some_iff.1 hz
  have hrun:(execOp a.eval o).run P w = .ok (.value (.pointer (some ⟨w.heap.size,0,none⟩))) (w.alloc (.cells z.cells t)):=by
    unfold execOp
    simp[go_sem,ho,Instr.alloc,zeroValue,typeInfo,hi,hz0,newVar,newRow]
  unfold Oper.wp
  rw[hrun]
  exact hK _ _ (h _ _ (Nat.le_refl _) (dr ..) ((ap.refl [] w).alloc _))
theorem zR(hg:o.guard=none)(t:TypeId)(x:Operand)(ho:o.op = .box t x)(v:Value)(hx:a.eval x=v)
    (h:∀ g w',w.heap.size≤g→w'.heap[g]? = some (.cells v.cells t (0,0))→ap [] w w'→wpList P ops Q rest (a.put o.dst (.pointer (some ⟨g,0,none⟩))) w') : wpList P ops Q (o :: rest) a w:=by
  subst hx
  refine wpList_plain hg fun K hK=>?_
  have hrun:(execOp a.eval o).run P w = .ok (.value (.pointer (some ⟨w.heap.size,0,none⟩))) (w.alloc (.cells (a.eval x).cells t)):=by
    unfold execOp
    simp[go_sem,ho,newVar,newRow]
  unfold Oper.wp
  rw[hrun]
  exact hK _ _ (h _ _ (Nat.le_refl _) (dr ..) ((ap.refl [] w).alloc _))
end
theorem jx{P:Program}{fn:Func}{p q:Tmp}{ty:TypeId}(h:fn.results = #[.cell p ty,.tmp q])(tmps:Array Value)(w:World)(g:Nat)(t:TypeId)(cs:Array Value)(fr:Nat × Nat)(d:TypeDesc)
    (hp:tmps.getD p undef = .pointer (some ⟨g,0,none⟩)) (hg:w.heap[g]? = some (.cells cs t fr))
    (hu:P.underlying ty=some d) (hd:(match d with | .struct _ | .array _ _=>true | _=>false)=true) (hi:(P.info? ty).map (·.size)=some cs.size) :
    (results fn tmps).run P w = .ok (.tuple #[.agg cs,tmps.getD q undef]) w:=by
  have hp':tmps[p]?.getD undef = .pointer (some ⟨g,0,none⟩):=by simpa using hp
  simp[results,h,hp',asAddr,run_loadVar_row w g t ty cs fr d hg hu hd hi]
open Go.RowKit
structure dY where
  file:Int
  record:Int
  count:Int
  words:List Int
deriving DecidableEq
structure Obj where
  id:Int
  value:List Int
deriving DecidableEq
structure b6 where
  code:Int
  fail:Int
  addr:Int
  count:Int
  value:Int
  and_:Int
  or_:Int
  addr2:Int
  sub:Int
  status:Int
  events:Int
  messages:Int
  words:List Int
  bits:List Bool
  data:List Int
  recs:List dY
  mei:Int
  kind:Int
  level:Int
  more:Int
  next:Int
  objects:List Obj
deriving DecidableEq
def b6.zero:b6:=⟨0,0,0,0,0,0,0,0,0,0,0,0,[],[],[],[],0,0,0,0,0,[]⟩
def B8 (x:Int) : Prop:=0≤x∧x<256
def eo (x:Int) : Prop:=0≤x∧x<65536
def bE (m:Md)(w:World)(r:dY)(cs:List Value) : Prop:=∃ v,cs=[.int .u16 r.file,.int .u16 r.record,.int .u16 r.count,v]∧eO m w v r.words∧eo r.file∧eo r.record∧eo r.count
def cz (m:Md)(w:World)(o:Obj)(cs:List Value) : Prop:=∃ v,cs=[.int .u8 o.id,v]∧aR m w v o.value∧B8 o.id
abbrev qx (m:Md) (w:World) (v:Value) (l:List dY) : Prop:=aP m 98 4 (bE m) w v l
abbrev qz (m:Md) (w:World) (v:Value) (l:List Obj) : Prop:=aP m 100 2 (cz m) w v l
def gv:List TypeId:=[5,37,4,98,100]
theorem bE.upd{m:Md}{w w':World}{S:List Nat}(hu:ap S w w')(hs:bM m gv S w)(r:dY)(cs:List Value)(h:bE m w r cs) : bE m w' r cs:=by
  obtain⟨v,h1,h2,h3⟩:=h
  exact⟨v,h1,eO.upd' h2 hu (hs.sub (by decide)),h3⟩
theorem cz.upd{m:Md}{w w':World}{S:List Nat}(hu:ap S w w')(hs:bM m gv S w)(r:Obj)(cs:List Value)(h:cz m w r cs) : cz m w' r cs:=by
  obtain⟨v,h1,h2,h3⟩:=h
  exact⟨v,h1,aR.upd' h2 hu (hs.sub (by decide)),h3⟩
theorem qx.upd'{m:Md}{w w':World}{v:Value}{l:List dY}{S:List Nat}(h:qx m w v l)(hu:ap S w w')(hs:bM m gv S w) : qx m w' v l:=aP.upd h hu (hs.sub (by decide)) (bE.upd hu hs)
theorem qz.upd'{m:Md}{w w':World}{v:Value}{l:List Obj}{S:List Nat}(h:qz m w v l)(hu:ap S w w')(hs:bM m gv S w) : qz m w' v l:=aP.upd h hu (hs.sub (by decide)) (cz.upd hu hs)
def ei (M:b6)(vw vb vd vr vo:Value) : List Value :=
  [.int .u8 M.code,.int .u8 M.fail,.int .u16 M.addr,.int .u16 M.count,.int .u16 M.value,.int .u16 M.and_,.int .u16 M.or_,.int .u16 M.addr2,.int .u16 M.sub,.int .u16 M.status,.int .u16 M.events,.int .u16 M.messages,
    vw,vb,vd,vr,.int .u8 M.mei,.int .u8 M.kind,.int .u8 M.level,.int .u8 M.more,.int .u8 M.next,vo]
structure fh (M:b6) : Prop where
  code:B8 M.code
  fail:B8 M.fail
  addr:eo M.addr
  count:eo M.count
  value:eo M.value
  and_:eo M.and_
  or_:eo M.or_
  addr2:eo M.addr2
  sub:eo M.sub
  status:eo M.status
  events:eo M.events
  messages:eo M.messages
  mei:B8 M.mei
  kind:B8 M.kind
  level:B8 M.level
  more:B8 M.more
  next:B8 M.next
def aE (m:Md)(w:World)(cs:List Value)(M:b6) : Prop :=
  ∃ vw vb vd vr vo,cs=ei M vw vb vd vr vo∧eO m w vw M.words∧mF m w vb M.bits∧aR m w vd M.data∧qx m w vr M.recs∧qz m w vo M.objects∧fh M
theorem aE.upd{m:Md}{w w':World}{cs:List Value}{M:b6}{S:List Nat}(h:aE m w cs M)(hu:ap S w w')(hs:bM m gv S w) : aE m w' cs M:=by
  obtain⟨vw,vb,vd,vr,vo,h0,h1,h2,h3,h4,h5,h6⟩:=h
  exact⟨vw,vb,vd,vr,vo,h0,eO.upd' h1 hu (hs.sub (by decide)),mF.upd' h2 hu (hs.sub (by decide)),aR.upd' h3 hu (hs.sub (by decide)),qx.upd' h4 hu hs,qz.upd' h5 hu hs,h6⟩
theorem bE.lo{k n:Nat}{w:World}(hn:n≤k)(r:dY)(cs:List Value)(h:bE (.hi k) w r cs) : bE (.hi n) w r cs:=by
  obtain⟨v,h1,h2,h3⟩:=h
  exact⟨v,h1,aP.hi_le h2 hn fun _ _ q=>q,h3⟩
theorem cz.lo{k n:Nat}{w:World}(hn:n≤k)(r:Obj)(cs:List Value)(h:cz (.hi k) w r cs) : cz (.hi n) w r cs:=by
  obtain⟨v,h1,h2,h3⟩:=h
  exact⟨v,h1,aP.hi_le h2 hn fun _ _ q=>q,h3⟩
theorem aE.lo{k n:Nat}{w:World}{cs:List Value}{M:b6}(h:aE (.hi k) w cs M)(hn:n≤k) : aE (.hi n) w cs M:=by
  obtain⟨vw,vb,vd,vr,vo,h0,h1,h2,h3,h4,h5,h6⟩:=h
  exact⟨vw,vb,vd,vr,vo,h0,aP.hi_le h1 hn fun _ _ q=>q,aP.hi_le h2 hn fun _ _ q=>q,aP.hi_le h3 hn fun _ _ q=>q,aP.hi_le h4 hn (bE.lo hn),aP.hi_le h5 hn (cz.lo hn),h6⟩
theorem aE.tt{k:Nat}{w:World}{cs:List Value}{M:b6}(h:aE (.hi k) w cs M) : aE true w cs M:=by
  obtain⟨vw,vb,vd,vr,vo,h0,h1,h2,h3,h4,h5,h6⟩:=h
  exact⟨vw,vb,vd,vr,vo,h0,aP.hi_t h1 fun _ _ q=>q,aP.hi_t h2 fun _ _ q=>q,aP.hi_t h3 fun _ _ q=>q,aP.hi_t h4 fun r cs ⟨v,a,b,c⟩=>⟨v,a,aP.hi_t b fun _ _ q=>q,c⟩,aP.hi_t h5 fun r cs ⟨v,a,b,c⟩=>⟨v,a,aP.hi_t b fun _ _ q=>q,c⟩,h6⟩
theorem aE.old{m:Md}{w w':World}{cs:List Value}{M:b6}(h:aE m w cs M)(hu:ap [] w w') : aE m w' cs M:=h.upd hu (bM.nil _ _ _)
theorem aP.one{α:Type}{m:Md}{e:TypeId}{sz:Nat}{R:World→α→List Value→Prop}{w:World}{v:Value}{xs:List α}(h:aP m e sz R w v xs) : v.oneCell'=true:=by
  obtain⟨A,c,rfl,_⟩:=h
  rfl
theorem aE.one{m:Md}{w:World}{cs:Array Value}{M:b6}(h:aE m w cs.toList M) : cs.all (·.oneCell')=true:=by
  obtain⟨vw,vb,vd,vr,vo,h0,h1,h2,h3,h4,h5,h6⟩:=h
  rw[← Array.all_toList,h0]
  obtain⟨_,_,rfl,_⟩:=h1
  obtain⟨_,_,rfl,_⟩:=h2
  obtain⟨_,_,rfl,_⟩:=h3
  obtain⟨_,_,rfl,_⟩:=h4
  obtain⟨_,_,rfl,_⟩:=h5
  rfl
theorem aE.size{m:Md}{w:World}{cs:Array Value}{M:b6}(h:aE m w cs.toList M) : cs.size=22:=by
  obtain⟨vw,vb,vd,vr,vo,h0,h1,h2,h3,h4,h5,h6⟩:=h
  rw[← Array.length_toList,h0]
  rfl
def gZ:Value:=.slice none 0 0
def zeroCells:List Value:=ei b6.zero gZ gZ gZ gZ gZ
theorem fh.zero:fh b6.zero:=by constructor<;>exact⟨by decide,by decide⟩
theorem aE.zero(m:Md)(w:World) : aE m w zeroCells b6.zero:=⟨gZ,gZ,gZ,gZ,gZ,rfl,aP.nil ..,aP.nil ..,aP.nil ..,aP.nil ..,aP.nil ..,fh.zero⟩
def dL (res:b6 × Int)(w:World)(e:Ending)(w':World) : Prop:=∃ cs,e = .returned (.tuple #[.agg cs,.int .i64 res.2])∧aE (.hi w.heap.size) w' cs.toList res.1∧ap [] w w'
def wU:Array Value:=zeroCells.toArray
theorem bo:(Tryz.prog.info? 45).map (·.size)=some 22:=by kernel_rfl
open Go.RowKit
structure WL (P:Program) (ops:Array Oper) (Q:Exit→Act→World→Prop) (l:List Oper) (a:Act) (w:World) : Prop where
  out:wpList P ops Q l a w
structure OW (P:Program) (o:Oper) (a:Act) (w:World) (K:Act→World→Prop) (Q:Exit→Act→World→Prop) : Prop where
  out:o.wp P a w K Q
def bd (o:Oper)(i:Nat) : Bool:=o.after.toList.any fun e=>Region.binds .any e&&e.on==i
def tl (ops:Array Oper)(i:Nat) : Bool:=!(i+1==ops.size&&(List.range i).all fun k=>bd (ops.getD i default) k || (List.range i).any fun m=>bd (ops.getD i default) m&&bd (ops.getD m default) k)
def wt (ops:Array Oper)(l:Array Bool)(i:Nat) : Bool:=i+1==ops.size || bd (ops.getD (ops.size-1) default) i || ((List.range ops.size).any fun m=>bd (ops.getD (ops.size-1) default) m&&bd (ops.getD m default) i&&!l.getD m true)||tl ops (ops.size-1)
theorem Bd{o:Oper}{i:Nat}(h:bd o i=true) : ∃ e∈o.after,Region.binds .any e=true∧e.on=i:=by
  unfold bd at h
  obtain⟨e,he,hb⟩:=List.any_eq_true.1 h
  simp only[Bool.and_eq_true,beq_iff_eq] at hb
  exact⟨e,by simpa using he,hb.1,hb.2⟩
def y7 (P:Program)(ops:Array Oper)(Q:Exit→Act→World→Prop)(S:World→Prop) : Nat→Array Bool→Act→World→Prop
  | 0,l,a,w=>Region.ready .any ops l=[]∧Q .normal a w
  | n+1,l,a,w=>(Region.ready .any ops l=[]→Q .normal a w)∧∀ i∈Region.ready .any ops l,wpOp P ops Q i (fun a' w'=>(tl ops i=true→S w')∧y7 P ops Q S n (l.setIfInBounds i true) a' w') a w
theorem sC{P:Program}{ops:Array Oper}{Q:Exit→Act→World→Prop}{S:World→Prop}:∀ (n:Nat)(l:Array Bool)(a:Act)(w:World),y7 P ops Q S n l a w→wpAny P .any ops Q n l a w
  | 0,_,_,_,h=>h
  | n+1,_,_,_,h=>⟨h.1,fun i hi=>wpOp_mono (fun a' w' k=>sC n _ a' w' k.2) (h.2 i hi)⟩
theorem l7{ops:Array Oper}{l:Array Bool}{i j:Nat}(hj:j∈Region.ready .any ops l)(hi:l.getD i true=false)(h:bd (ops.getD j default) i=true) : False:=by
  obtain⟨_,oj,hoj,hall⟩:=mem_ready.1 hj
  have ho:ops.getD j default=oj:=by simp[hoj]
  rw[ho] at h
  obtain⟨e,he,hb,h1⟩:=Bd h
  have h2:=hall e he hb
  rw[h1] at h2
  rcases Nat.lt_or_ge i l.size with k|k
  · simp[k] at hi h2;rw[hi] at h2;cases h2
  · simp[Array.getElem?_eq_none k] at h2
theorem wd{ops:Array Oper}{l:Array Bool}{i j:Nat}(hne:j≠i)(hj:j∈Region.ready .any ops l)(hi:l.getD i true=false)(h:wt ops l i=true) : tl ops j=true:=by
  cases ht:tl ops j with
  | true=>rfl
  | false =>
    have hs:j+1=ops.size:=by
      unfold tl at ht
      simp only[Bool.not_eq_false',Bool.and_eq_true,beq_iff_eq] at ht
      exact ht.1
    have hsj:ops.size-1=j:=by omega
    unfold wt at h
    rw[hsj,ht,Bool.or_false,Bool.or_eq_true,Bool.or_eq_true] at h
    rcases h with(h|h) | h
    · exact absurd (by have:=beq_iff_eq.1 h;omega) hne
    · exact(l7 hj hi h).elim
    · obtain⟨m,hm,hb⟩:=List.any_eq_true.1 h
      simp only[Bool.and_eq_true,Bool.not_eq_true'] at hb
      exact(l7 hj hb.2 hb.1.1).elim
theorem ym{ops:Array Oper}{l:Array Bool}{i j:Nat}(hj:j∈Region.ready .any ops l)(hi:l.getD i true=false)(h:wt ops l i=true) : wt ops (l.setIfInBounds j true) i=true:=by
  unfold wt at *
  rw[Bool.or_eq_true,Bool.or_eq_true,Bool.or_eq_true] at *
  rcases h with((h|h) | h) | h
  · exact .inl (.inl (.inl h))
  · exact .inl (.inl (.inr h))
  · refine .inl (.inr ?_)
    obtain⟨m,hm,hb⟩:=List.any_eq_true.1 h
    refine List.any_eq_true.2 ⟨m,hm,?_⟩
    simp only[Bool.and_eq_true,Bool.not_eq_true'] at hb ⊢
    refine⟨hb.1,?_⟩
    by_cases q:j=m
    · subst q;exact(l7 hj hi hb.1.2).elim
    · rw[getD_set_ne true q];exact hb.2
  · exact .inr h
theorem uP{P:Program}{ops:Array Oper}{Q:Exit→Act→World→Prop}{S:World→Prop}{i:Nat}{oi:Oper}{v:Value}(hi:ops[i]? = some oi)(hsel:∀ (j:Nat)(o:Oper) cs b,ops[j]? = some o→o.op≠.select cs b)(hQ:∀ c a w,Q (.panic c) (a.put oi.dst v) w→Q (.panic c) a w) :
    ∀ (n:Nat) (l:Array Bool) (a:Act) (w:World),wt ops l i=true→(∀ j oj,ops[j]? = some oj→j≠i→l.getD j true=false→(∀ e∈oj.after,Region.binds .any e=true→e.on≠i)→oi.apart ops oj=true) →
      i∈Region.ready .any ops l→YieldsIf P ops S oi v a→S w→y7 P ops Q S n (l.setIfInBounds i true) (a.put oi.dst v) w→y7 P ops Q S (n+1) l a w:=by
  intro n
  induction n with
  | zero =>
    intro l a w _ _ hr hy hS H
    refine⟨fun h=>(by rw[h] at hr;cases hr),fun j hj=>?_⟩
    by_cases e:j=i
    · subst e;exact hy.wpOp hi hS ⟨fun _=>hS,H⟩
    · have k:=ready_mono hj e
      rw[H.1] at k
      cases k
  | succ n ih =>
    intro l a w hwt hf hr hy hS H
    refine⟨fun h=>(by rw[h] at hr;cases hr),fun j hj=>?_⟩
    by_cases e:j=i
    · subst e;exact hy.wpOp hi hS ⟨fun _=>hS,H⟩
    · obtain⟨hun,oj,hoj,hall⟩:=mem_ready.1 hj
      have hni:∀ e∈oj.after,Region.binds .any e=true→e.on≠i:=fun e he hb heq=>by
        have h1:=hall e he hb
        have h0:=(mem_ready.1 hr).1
        rw[heq] at h1
        rcases Nat.lt_or_ge i l.size with k|k
        · simp[k] at h0 h1;rw[h0] at h1;cases h1
        · simp[Array.getElem?_eq_none k] at h1
      have hT:tl ops j=true:=wd e hj (mem_ready.1 hr).1 hwt
      have h2:=wpOp_putIf hoj (hf j oj hoj e hun hni) (fun cs b=>hsel i oi cs b hi) (fun cs b=>hsel j oj cs b hoj) hQ hy (H.2 j (ready_mono hj e))
      refine wpOp_mono (fun a' w' k=>⟨k.2.1,ih (l.setIfInBounds j true) a' w' (ym hj (mem_ready.1 hr).1 hwt) (fun m om hm hmi hmu hno=>hf m om hm hmi ?_ hno) (ready_mono hr (Ne.symm e)) k.1 (k.2.1 hT) ?_⟩) h2
      · by_cases q:j=m
        · subst q;exact hun
        · rw[getD_set_ne true q] at hmu;exact hmu
      · rw[Array.setIfInBounds_comm _ _ e]
        exact k.2.2
theorem nz{P:Program}{ops:Array Oper}{Q:Exit→Act→World→Prop}{S:World→Prop}{rs:List Nat}{n:Nat}{l:Array Bool}{a:Act}{w:World}(hr:Region.ready .any ops l=rs)(hne:rs≠[])
    (h:∀ i∈rs,wpOp P ops Q i (fun a' w'=>(tl ops i=true→S w')∧y7 P ops Q S n (l.setIfInBounds i true) a' w') a w) : y7 P ops Q S (n+1) l a w:=⟨fun h0=>absurd (hr▸h0) hne,hr▸h⟩
theorem xm{P:Program}{ops:Array Oper}{Q:Exit→Act→World→Prop}{S:World→Prop}{l:Array Bool}{a:Act}{w:World}(hr:Region.ready .any ops l=[])(h:Q .normal a w) : ∀ n,y7 P ops Q S n l a w
  | 0=>⟨hr,h⟩
  | _+1=>⟨fun _=>h,by rw[hr];simp⟩
structure WA (P:Program) (ops:Array Oper) (Q:Exit→Act→World→Prop) (S:World→Prop) (n:Nat) (l:Array Bool) (a:Act) (w:World) : Prop where
  out:y7 P ops Q S n l a w
theorem ib{P:Program}{o:Oper}{a:Act}{w:World}{K K':Act→World→Prop}{Q:Exit→Act→World→Prop}(h:OW P o a w K Q)(k:∀ a w,K a w→K' a w) : o.wp P a w K' Q:=Oper.wp_mono k h.out
theorem gw(b:Bool) : b=true∨b=false:=by cases b<;>simp
section
variable {P:Program}{Q:Exit→Act→World→Prop}{a:Act}{w:World}{K next:Act→World→Prop}{ops:Array Oper}{rest:List Oper}{o:Oper}
def mG (c f a n v an o a2 su st ev me:Int)(w b d r:Value)(mei k l mo ne:Int)(ob:Value) : Array Value :=
  #[.int .u8 c,.int .u8 f,.int .u16 a,.int .u16 n,.int .u16 v,.int .u16 an,.int .u16 o,.int .u16 a2,.int .u16 su,.int .u16 st,.int .u16 ev,.int .u16 me,w,b,d,r,.int .u8 mei,.int .u8 k,.int .u8 l,.int .u8 mo,.int .u8 ne,ob]
def mC (c:Int) : Array Value:=mG c 0 0 0 0 0 0 0 0 0 0 0 nS nS nS nS 0 0 0 0 0 nS
def mZ:Array Value:=mC 0
theorem aH{S:List Nat}{w0 w1 w2:World}(h:ap S w0 w1)(k:ap [] w1 w2) : ap S w0 w2:=ap.trans' h k (fun x hx=>by simp at hx)
def ds (d:Nat→Value) : Nat→Nat→List Value→List Value
  | _,0,t=>t
  | i,n+1,t=>d i :: ds d (i+1) n t
theorem CW{id:Nat}(h:Q .normal a w) : Exit.inBlock id Q (.exit id) a w:=by
  show(if id=id then _ else _)
  rw[if_pos rfl]
  exact h
theorem CI{id id':Nat}(hne:id'≠id)(h:Q (.exit id') a w) : Exit.inBlock id Q (.exit id') a w:=by
  show(if id'=id then _ else _)
  rw[if_neg hne]
  exact h
theorem CE{c:Operand}{x y:Code}(e:Bool)(hv:a.eval c = .bool e)(he:e=true)(h:x.wp P Q a w) : (Code.cond c x y).wp P Q a w:=wp_cond_true (by rw[hv,he]) h
theorem CJ{c:Operand}{x y:Code}(e:Bool)(hv:a.eval c = .bool e)(he:e=false)(h:y.wp P Q a w) : (Code.cond c x y).wp P Q a w:=wp_cond_false (by rw[hv,he]) h
theorem Aj{fn:Func}{R:Ending→World→Prop}(v:Value)(hr:(results fn a.tmps).run P w = .ok v w)(hd:a.defers=[])(hR:R (.returned v) w) : bodyPost P fn R .ret a w:=bodyPost_ret hr hd hR
theorem As{fn:Func}{R:Ending→World→Prop}(v:Value)(hr:(results fn a.tmps).run P w = .ok v w)(hd:a.defers=[])(hR:R (.returned v) w) : bodyPost P fn R .normal a w:=bodyPost_end hr hd hR
theorem kJ{p:Nat→Prop}(h:∃ n,p n) : ∃ n,p n∧∀ m,p m→n≤m:=by
  obtain⟨n,hn⟩:=h
  induction n using Nat.strongRecOn with
  | _ n ih =>
    by_cases hm:∃ m,m<n∧p m
    · obtain⟨m,hlt,hp⟩:=hm
      exact ih m hlt hp
    · exact⟨n,hn,fun m hp=>by
        rcases Nat.lt_or_ge m n with hl|hl
        · exact(hm ⟨m,hl,hp⟩).elim
        · exact hl⟩
theorem lp{c:Code}{ι:Type}(I:ι→Act→World→Prop)(μ:ι→Nat)(x0:ι)(h0:I x0 a w)(round:∀ x a w,I x a w→c.wp P (Exit.then (fun a' w'=>∃ y,I y a' w'∧μ y<μ x) Q) a w) : (Code.loop c).wp P Q a w:=by
  classical
  refine wp_loop (fun a w=>∃ x,I x a w) (fun a w=>if h:∃ n,∃ x,I x a w∧μ x=n then Classical.choose (kJ h) else 0) ⟨x0,h0⟩ ?_
  intro a w hx
  have hh:∃ n,∃ x,I x a w∧μ x=n:=by obtain⟨x,hx⟩:=hx;exact⟨_,x,hx,rfl⟩
  obtain⟨⟨x,hI,hm⟩,hmin⟩:=Classical.choose_spec (kJ hh)
  refine Code.wp_mono ?_ (round x a w hI)
  intro e a' w' q
  cases e with
  | normal =>
    obtain⟨y,hy,hlt⟩:=q
    refine⟨⟨y,hy⟩,?_⟩
    have h':∃ n,∃ x,I x a' w'∧μ x=n:=⟨_,y,hy,rfl⟩
    simp only[dif_pos hh,dif_pos h']
    have:Classical.choose (kJ h')≤μ y:=(Classical.choose_spec (kJ h')).2 _ ⟨y,hy,rfl⟩
    omega
  | _=>exact q
theorem CV(hw:Region.wanted o (yielded ops a.tmps)=true)(h:OW P o a w (WL P ops Q rest) Q) : WL P ops Q (o :: rest) a w:=by
  refine⟨?_⟩
  unfold wpList
  rw[if_pos hw]
  exact .inl (ib h fun _ _ h=>h.out)
theorem Do(hg:o.guard=none)(h:OW P o a w (WL P ops Q rest) Q) : WL P ops Q (o :: rest) a w:=CV (by simp[Region.wanted,hg]) h
theorem CP{N:Option Tmp}(hw:Region.wanted o (yielded ops a.tmps)=false)(hN:o.dst=N)(h:WL P ops Q rest (a.put N undef) w) : WL P ops Q (o :: rest) a w:=by
  subst hN
  refine⟨?_⟩
  unfold wpList
  rw[if_neg (by simp[hw])]
  exact h.out
theorem uH{tmps:Array Value}{j:Nat}{b e:Bool}(hg:o.guard=some (j,b))(hy:yielded ops tmps j=some e)(he:e=b) : Region.wanted o (yielded ops tmps)=true:=by
  simp[Region.wanted,hg,hy,he]
theorem eq{ops:Array Oper}(rest:List Oper) : ∀ (G:List Oper)(a:Act)(w:World),wpList P ops (Exit.then (wpList P ops Q rest) Q) G a w→wpList P ops Q (G++rest) a w
  | [],a,w,h=>h
  | o :: G,a,w,h=>by
    simp only[List.cons_append]
    unfold wpList at h ⊢
    by_cases hw:Region.wanted o (yielded ops a.tmps)=true
    · rw[if_pos hw] at h ⊢
      rcases h with h|h
      · refine .inl ?_
        unfold Oper.wp at h ⊢
        generalize (execOp a.eval o).run P w=r at h ⊢
        cases r with
        | ok n w' =>
          cases n<;>simp only[Oper.upon] at h ⊢
          case value u=>exact eq rest G _ _ h
          case skip=>exact eq rest G _ _ h
          case defer d=>exact eq rest G _ _ h
          case enter f args =>
            refine Calls.mono h fun e w'' he=>?_
            cases e with
            | returned u=>exact eq rest G _ _ he
            | panicked c=>exact he
            | outgrown=>exact he
          case row row args=>exact Rows.mono h fun u w'' he=>eq rest G _ _ he
        | halt x w' =>
          cases x<;>simp only[Oper.upon] at h ⊢
          case panic u=>exact h
      · exact .inr h
    · rw[if_neg hw] at h ⊢
      exact eq rest G _ _ h
end
section
variable {P:Program}{Q:Exit→Act→World→Prop}{a:Act}{w:World}{K:Act→World→Prop}{o:Oper}{N:Option Tmp}
theorem f9(v:Value)(hN:o.dst=N)(hr:(execOp a.eval o).run P w = .ok (.value v) w)(h:K (a.put N v) w) : OW P o a w K Q:=by
  refine OW.mk ?_
  subst hN
  unfold Oper.wp
  rw[hr]
  exact h
theorem vk{ty:TypeId}{d:TypeDesc}(hu:P.underlying ty=some d)(w:World) : (isAgg ty).run P w = .ok d.isRow w:=by
  unfold isAgg
  rw[Sem.run_bind,run_underlying hu w]
  cases d<;>rfl
def eT (P:Program)(ty:TypeId) : Bool:=match P.underlying ty with | some d=>!d.isRow | none=>false
theorem nO{ty:TypeId}(h:eT P ty=true) : ∃ d,P.underlying ty=some d∧d.isRow=false:=by
  unfold eT at h
  split at h
  · rename_i d hd;exact⟨d,hd,by simpa using h⟩
  · cases h
theorem xw{ty:TypeId}{x:Operand}{p:Addr}{v:Value}{w:World}(ho:o.op = .load ty x)(hx:a.eval x = .pointer (some p))(hu:eT P ty=true)(hc:w.cell? p=some v) : (execOp a.eval o).run P w = .ok (.value v) w:=by
  obtain⟨d,hd,hr⟩:=nO hu
  unfold execOp
  simp only[ho,hx,Instr.loadAt,Instr.sureAddr,Sem.run_bind,Sem.run_pure,Result.andThen_ok,loadVar,vk hd,hr,load]
  simp[Sem.run,hc,Result.andThen]
theorem Cb{ty:TypeId}{x:Operand}{p:Addr}(v:Value)(hN:o.dst=N)(ho:o.op = .load ty x)(hx:a.eval x = .pointer (some p))(hu:eT P ty=true)(hc:w.cell? p=some v)(h:K (a.put N v) w) : OW P o a w K Q :=
  f9 v hN (xw ho hx hu hc) h
theorem ae{g off:Nat}{cs:Array Value}{t:TypeId}{fr:Nat × Nat}{v:Value}(hb:w.heap[g]? = some (.cells cs t fr))(hc:cs[off]? = some v) : w.cell? ⟨g,off,none⟩=some v:=(be hb off).trans hc
theorem sE{ty:TypeId}{x:Operand}{g off:Nat}{cs:Array Value}{t:TypeId}{fr:Nat × Nat}{w:World}(sub:List Value)(ho:o.op = .load ty x)(hx:a.eval x = .pointer (some ⟨g,off,none⟩))(hb:w.heap[g]? = some (.cells cs t fr))
    (hu:(P.underlying ty).map (·.isRow)=some true) (hi:(P.info? ty).map (·.size)=some sub.length) (hs:(cs.toList.drop off).take sub.length=sub) : (execOp a.eval o).run P w = .ok (.value (.agg sub.toArray)) w:=by
  obtain⟨d,hd,hr⟩:=Option.map_eq_some_iff.1 hu
  have hc:w.rangeAt g off sub:=fun j v hj=>by
    rw[be hb]
    have hjl:j<sub.length:=(List.getElem?_eq_some_iff.1 hj).1
    rw[← hs,List.getElem?_take,if_pos hjl,List.getElem?_drop] at hj
    simpa using hj
  unfold execOp
  simp only[ho,hx,Instr.loadAt,Instr.sureAddr,Sem.run_bind,Sem.run_pure,Result.andThen_ok,run_loadVar_mid w g off ty sub d hc hd hr hi]
theorem xY{ty:TypeId}{x:Operand}{g off:Nat}{cs:Array Value}{t:TypeId}{fr:Nat × Nat}(sub:List Value)(hN:o.dst=N)(ho:o.op = .load ty x)(hx:a.eval x = .pointer (some ⟨g,off,none⟩))(hb:w.heap[g]? = some (.cells cs t fr))
    (hu:(P.underlying ty).map (·.isRow)=some true) (hi:(P.info? ty).map (·.size)=some sub.length) (hs:(cs.toList.drop off).take sub.length=sub) (h:K (a.put N (.agg sub.toArray)) w) : OW P o a w K Q :=
  f9 _ hN (sE sub ho hx hb hu hi hs) h
theorem yM{ty:TypeId}{x:Operand}{g:Nat}{cs:Array Value}{t:TypeId}{fr:Nat × Nat}{w:World}(ho:o.op = .load ty x)(hx:a.eval x = .pointer (some ⟨g,0,none⟩))(hb:w.heap[g]? = some (.cells cs t fr))
    (hu:(P.underlying ty).map (·.isRow)=some true) (hi:(P.info? ty).map (·.size)=some cs.size) : (execOp a.eval o).run P w = .ok (.value (.agg cs)) w:=by
  have:=sE (P:=P) (o:=o) (a:=a) (cs:=cs) cs.toList ho hx hb hu (by simpa using hi) (by simpa using List.take_length (l:=cs.toList))
  simpa using this
theorem Bf{ty:TypeId}{x:Operand}{g:Nat}{cs:Array Value}{t:TypeId}{fr:Nat × Nat}(hN:o.dst=N)(ho:o.op = .load ty x)(hx:a.eval x = .pointer (some ⟨g,0,none⟩))(hb:w.heap[g]? = some (.cells cs t fr))
    (hu:(P.underlying ty).map (·.isRow)=some true) (hi:(P.info? ty).map (·.size)=some cs.size) (h:K (a.put N (.agg cs)) w) : OW P o a w K Q :=
  f9 _ hN (yM ho hx hb hu hi) h
theorem Aa{ty:TypeId}{x y:Operand}{g off:Nat}{cs:Array Value}{t:TypeId}(v:Value)(cs':Array Value)(hN:o.dst=N)(ho:o.op = .store ty x y)(hx:a.eval x = .pointer (some ⟨g,off,none⟩))(hy:a.eval y=v)
    (hb:w.heap[g]? = some (.cells cs t (0,0))) (hlt':Nat.blt off cs.size=true) (hi:(P.info? ty).map (·.size)=some 1) (h1:v.oneCell'=true) (hcs:cs.setIfInBounds off v=cs')
    (h:∀ w',w'.heap[g]? = some (.cells cs' t (0,0))→ap [g] w w'→K (a.put N undef) w') : OW P o a w K Q:=by
  refine OW.mk ?_
  subst hN
  subst hcs
  have hlt:off<cs.size:=by simpa using hlt'
  obtain⟨i,hi1,hi2⟩:=Option.map_eq_some_iff.1 hi
  have hcell:w.cell? ⟨g,off,none⟩=some cs[off]:=by rw[be hb];simp[hlt]
  have hfr:w.frozen? ⟨g,off,none⟩=false:=ew hb off
  have hrun:(execOp a.eval o).run P w = .ok .skip (w.setCell ⟨g,off,none⟩ v):=by
    unfold execOp
    simp only[ho,hx,hy,Instr.storeAt,Instr.sureAddr,Sem.run_bind,Sem.run_pure,Result.andThen_ok,storeVar,sizeOf,typeInfo]
    cases v<;>simp_all [Value.oneCell',Value.cells,Sem.run,Result.andThen,storeCells,store,Addr.add,program]
  unfold Oper.wp
  rw[hrun]
  exact h _ (fC hb off v) ((ap.refl [g] w).setCell (p:=⟨g,off,none⟩) (.inl (by simp)) v)
theorem Ay{ty:TypeId}{x y:Operand}{g:Nat}{cs:Array Value}{t:TypeId}(vs:Array Value)(hN:o.dst=N)(ho:o.op = .store ty x y)(hx:a.eval x = .pointer (some ⟨g,0,none⟩))(hy:a.eval y = .agg vs)
    (hb:w.heap[g]? = some (.cells cs t (0,0))) (hi:(P.info? ty).map (·.size)=some vs.size) (hs:vs.size=cs.size) (h1:vs.all (·.oneCell')=true)
    (h:∀ w',w'.heap[g]? = some (.cells vs t (0,0))→ap [g] w w'→K (a.put N undef) w') : OW P o a w K Q:=by
  refine OW.mk ?_
  subst hN
  obtain⟨h2,h3⟩:=gH vs.toList w g 0 cs t (0,0) hb
  rw[kA _ _ (by simpa using hs)] at h2
  refine wp_store_mid ty x y ho g 0 vs hx hy (fun j hj=>?_) hi h1 (h _ (by simpa using h2) h3)
  rw[Nat.zero_add,be hb,ew hb]
  exact⟨by rw[Array.getElem?_eq_getElem (by omega)];rfl,rfl⟩
theorem xC{t:TypeId}(cs:Array Value)(hN:o.dst=N)(ho:o.op = .alloc t)(hz:(P.info? t).bind (fun i=>i.zero.map (·.cells))=some cs)
    (h:∀ g w',w.heap.size≤g→w'.heap[g]? = some (.cells cs t (0,0))→ap [] w w'→K (a.put N (.pointer (some ⟨g,0,none⟩))) w') : OW P o a w K Q:=by
  refine OW.mk ?_
  subst hN
  obtain⟨i0,hi,hz0⟩:=Option.bind_eq_some_iff.1 hz
  obtain⟨z,hz1,rfl⟩:=Option.map_eq_some_iff.1 hz0
  have hrun:(execOp a.eval o).run P w = .ok (.value (.pointer (some ⟨w.heap.size,0,none⟩))) (w.alloc (.cells z.cells t)):=by
    unfold execOp
    simp[go_sem,ho,Instr.alloc,zeroValue,typeInfo,hi,hz1,newVar,newRow]
  unfold Oper.wp
  rw[hrun]
  exact h _ _ (Nat.le_refl _) (dr ..) ((ap.refl [] w).alloc _)
theorem AM{t:TypeId}{x:Operand}(cs:Array Value)(hN:o.dst=N)(ho:o.op = .box t x)(hx:(a.eval x).cells=cs)
    (h:∀ g w',w.heap.size≤g→w'.heap[g]? = some (.cells cs t (0,0))→ap [] w w'→K (a.put N (.pointer (some ⟨g,0,none⟩))) w') : OW P o a w K Q:=by
  refine OW.mk ?_
  subst hx
  subst hN
  have hrun:(execOp a.eval o).run P w = .ok (.value (.pointer (some ⟨w.heap.size,0,none⟩))) (w.alloc (.cells (a.eval x).cells t)):=by
    unfold execOp
    simp[go_sem,ho,newVar,newRow]
  unfold Oper.wp
  rw[hrun]
  exact h _ _ (Nat.le_refl _) (dr ..) ((ap.refl [] w).alloc _)
theorem AN{e:TypeId}{n:Nat}(cs:Array Value)(hN:o.dst=N)(hr:(execOp a.eval o).run P w = .ok (.value (.slice (some ⟨w.heap.size,0,none⟩) n n)) (w.alloc (.cells cs e)))
    (h:∀ g w',w.heap.size≤g→w'.heap[g]? = some (.cells cs e (0,0))→ap [] w w'→K (a.put N (.slice (some ⟨g,0,none⟩) n n)) w') : OW P o a w K Q:=by
  refine OW.mk ?_
  subst hN
  unfold Oper.wp
  rw[hr]
  exact h _ _ (Nat.le_refl _) (dr ..) ((ap.refl [] w).alloc _)
theorem Ai{t:TypeId}(hN:o.dst=N)(ho:o.op = .makeMap t none)
    (h:∀ g w',w.heap.size≤g→w'.heap[g]? = some (.map #[] 0)→ap [] w w'→K (a.put N (.map (some g))) w') : OW P o a w K Q:=by
  refine OW.mk ?_
  subst hN
  have hrun:(execOp a.eval o).run P w = .ok (.value (.map (some w.heap.size))) (w.alloc (.map #[] 0)):=by
    unfold execOp
    simp[ho,run_makeMap]
  unfold Oper.wp
  rw[hrun]
  exact h _ _ (Nat.le_refl _) (dr ..) ((ap.refl [] w).alloc _)
theorem AT{t kt e:TypeId}{q:IntKind}{m k x:Operand}{r:Nat}{es:Array MapEntry}{clk:Nat}(n:Int)(v:Value)(es':Array MapEntry)(clk':Nat)(hN:o.dst=N)(hop:o.op = .insert t m k x)
    (ht:P.underlying t=some (.map kt e)) (hk:P.underlying kt=some (.int q)) (hm:a.eval m = .map (some r)) (hb:w.heap[r]? = some (.map es clk))
    (hkv:a.eval k = .int q n) (hx:a.eval x=v) (hno:Instr.findNow (.int q) (.int q n) es.toList 0=some none) (he:es.push ⟨.int q n,v,clk⟩=es') (hc:clk+1=clk')
    (h:∀ w',w'.heap[r]? = some (.map es' clk')→ap [r] w w'→K (a.put N undef) w') : OW P o a w K Q:=by
  refine OW.mk ?_
  subst hN
  subst he
  subst hc
  obtain⟨w',hrr,h1,h2⟩:=lf ht hk hb n v hno
  have hrun:(execOp a.eval o).run P w = .ok .skip w':=by
    unfold execOp
    simp[hop,hm,hkv,hx,hrr,Result.andThen]
  unfold Oper.wp
  rw[hrun]
  exact h w' h1 h2
theorem sX{t kt e:TypeId}{q:IntKind}{m k:Operand}{cok:Bool}{r:Nat}{es:Array MapEntry}{clk:Nat}(n:Int)(z:Value)(res:Option (Nat × Value))(u:Value)(hN:o.dst=N)(hop:o.op = .lookup t m k cok)
    (ht:P.underlying t=some (.map kt e)) (hk:P.underlying kt=some (.int q)) (hm:a.eval m = .map (some r)) (hb:w.heap[r]? = some (.map es clk)) (hkv:a.eval k = .int q n)
    (hz:(zeroValue e).run P w = .ok z w) (hf:Instr.findNow (.int q) (.int q n) es.toList 0=some res) (hu:(if cok then .tuple #[(res.map (·.2)).getD z,.bool res.isSome] else (res.map (·.2)).getD z)=u)
    (h:K (a.put N u) w) : OW P o a w K Q:=by
  subst hu
  refine f9 _ hN ?_ h
  unfold execOp
  simp only[hop,hm,hkv]
  simp only[Sem.run_bind,Sem.run_map,ju ht hk hb n z hz hf cok,Result.andThen,Sem.run_pure]
theorem e7{o:Oper}{ev:Operand→Value}{P:Program}{w:World}{t:TypeId}{x y:Operand}{A:Option Addr}{n c:Nat}{kl:IntKind}{k:Int}{v:Value}{e:TypeId}(ho:o.op = .slice t x (some y) none none)(ht:P.underlying t=some (.slice e))(hx:ev x = .slice A n c)(hy:ev y = .int kl k)
    (hr:(Instr.slice t (.slice A n c) (some (.int kl k)) none none).run P w = .ok v w) : (execOp ev o).run P w = .ok (.value v) w:=by
  have hu:(underlying t).run P w = .ok (.slice e) w:=run_underlying ht w
  unfold execOp
  simp only[ho,Option.map_some,Option.map_none,hx,hy,Instr.sliceAt,Sem.run_bind,hu,hr,Result.andThen,Sem.run_pure]
theorem zN{f:FuncId}{fn:Func}{opds:Array Operand}{ts:Array TypeId}(args:Array Value)(hN:o.dst=N)(hop:o.op = .call { callee:=.value (.func f),args:=opds,argTypes:=ts })
    (hf : P.funcs[f]? = some fn) (hname : (fn.name == "runtime.NumGoroutine") = false) (hb : fn.body.isSome = true) (hargs : opds.map a.eval = args)
    (h:Calls P f args w fun e w'=>∃ v,e = .returned v∧K (a.put N v) w') : OW P o a w K Q:=by
  refine OW.mk ?_
  subst hN
  have h1 : fn.name ≠ "runtime.NumGoroutine" := by simpa using hname
  obtain⟨cd,hcd⟩:=Option.isSome_iff_exists.1 hb
  have hrun:(execOp a.eval o).run P w = .ok (.enter f args) w:=by
    unfold execOp
    simp[hop,resolve,Deferred.ofValue,invoke,Act.eval,hargs,callFunc,hf,h1,hcd]
  unfold Oper.wp
  rw[hrun,Oper.upon_enter]
  refine h.mono fun e w'' hh=>?_
  obtain⟨v,rfl,h2⟩:=hh
  exact h2
theorem vQ{f:FuncId}{fn:Func}{x:Operand}{opds:Array Operand}{ts:Array TypeId}(first cap args:Array Value)(hN:o.dst=N)(hop:o.op = .call { callee:=.value x,args:=opds,argTypes:=ts })
    (hx : a.eval x = .func (.func f) first cap) (hf : P.funcs[f]? = some fn) (hname : (fn.name == "runtime.NumGoroutine") = false) (hb : fn.body.isSome = true) (hargs : (first ++ opds.map a.eval) ++ cap = args)
    (h:Calls P f args w fun e w'=>∃ v,e = .returned v∧K (a.put N v) w') : OW P o a w K Q:=by
  refine OW.mk ?_
  subst hN
  have h1 : fn.name ≠ "runtime.NumGoroutine" := by simpa using hname
  obtain⟨cd,hcd⟩:=Option.isSome_iff_exists.1 hb
  have hrun:(execOp a.eval o).run P w = .ok (.enter f args) w:=by
    unfold execOp
    simp only[hop,resolve,hx,Deferred.ofValue,Sem.run_bind,Sem.run_pure,Result.andThen_ok,invoke,hargs,callFunc,program]
    simp[Sem.run,hf,h1,hcd]
  unfold Oper.wp
  rw[hrun,Oper.upon_enter]
  refine h.mono fun e w'' hh=>?_
  obtain⟨v,rfl,h2⟩:=hh
  exact h2
end
section
variable {P:Program}{ops:Array Oper}{Q:Exit→Act→World→Prop}{S:World→Prop}
structure sA (P:Program) (ops:Array Oper) (Q:Exit→Act→World→Prop) (S:World→Prop) (fuel:Nat) (l:Array Bool) (a:Act) (w:World) : Prop where
  s:S w
  out:WA P ops Q S fuel l a w
theorem DN{id n:Nat}{a:Act}{w:World}(S:World→Prop)(l:Array Bool)(hm:P.follows .mixedOrders=true)(hn:ops.size=n)(hl:Array.replicate n false=l)
    (h:∀ w',ap [] w w'→sA P ops Q S n l a w') : (Code.region id ops true).wp P Q a w:=by
  subst hn
  subst hl
  exact wp_region_any hm (sC _ _ _ _ (h w.drew (ap.refl [] w).drew).out.out)
theorem DI{i:Nat}{oi:Oper}{fuel:Nat}{l:Array Bool}{a:Act}{w:World}(l':Array Bool)(hi:ops[i]? = some oi)(hc:Bs ops l l' i=true)
    (hw:Region.wanted oi (yielded ops a.tmps)=true) (h:OW P oi a w (sA P ops Q S fuel l') Q) : WA P ops Q S (fuel+1) l a w:=by
  refine⟨?_⟩
  simp only[Bs,Bool.and_eq_true,beq_iff_eq] at hc
  obtain⟨h1,h2⟩:=hc
  subst h2
  refine nz h1 (by simp) fun j hj=>?_
  obtain rfl:j=i:=by simpa using hj
  unfold wpOp
  simp only[hi]
  rw[if_pos hw]
  exact .inl (ib h fun _ _ h=>⟨fun _=>h.s,h.out.out⟩)
theorem DR{i:Nat}{oi:Oper}{fuel:Nat}{l:Array Bool}{a:Act}{w:World}(l':Array Bool)(hi:ops[i]? = some oi)(hc:Bs ops l l' i=true)(hz:tl ops i=false)
    (hw:Region.wanted oi (yielded ops a.tmps)=true) (h:OW P oi a w (WA P ops Q S fuel l') Q) : WA P ops Q S (fuel+1) l a w:=by
  refine⟨?_⟩
  simp only[Bs,Bool.and_eq_true,beq_iff_eq] at hc
  obtain⟨h1,h2⟩:=hc
  subst h2
  refine nz h1 (by simp) fun j hj=>?_
  obtain rfl:j=i:=by simpa using hj
  unfold wpOp
  simp only[hi]
  rw[if_pos hw]
  exact .inl (ib h fun _ _ h=>⟨fun hT=>(by rw[hz] at hT;cases hT),h.out⟩)
theorem CQ{i j:Nat}{oi oj:Oper}{fuel:Nat}{l:Array Bool}{a:Act}{w:World}(li lj:Array Bool)(hi:ops[i]? = some oi)(hj:ops[j]? = some oj)(hr:(Region.ready .any ops l==[i,j])=true)
    (hli:l.setIfInBounds i true=li) (hlj:l.setIfInBounds j true=lj) (hwi:Region.wanted oi (yielded ops a.tmps)=true) (hwj:Region.wanted oj (yielded ops a.tmps)=true)
    (h1:OW P oi a w (sA P ops Q S fuel li) Q) (h2:OW P oj a w (sA P ops Q S fuel lj) Q) : WA P ops Q S (fuel+1) l a w:=by
  subst hli
  subst hlj
  simp only[beq_iff_eq] at hr
  refine⟨nz hr (by simp) fun k hk=>?_⟩
  unfold wpOp
  simp at hk
  rcases hk with rfl|rfl
  · simp only[hi]
    rw[if_pos hwi]
    exact .inl (ib h1 fun _ _ h=>⟨fun _=>h.s,h.out.out⟩)
  · simp only[hj]
    rw[if_pos hwj]
    exact .inl (ib h2 fun _ _ h=>⟨fun _=>h.s,h.out.out⟩)
def By (ops:Array Oper)(l l':Array Bool)(i:Nat) : Bool:=wt ops l i&&Cc ops l l' i
theorem Dv{i:Nat}{N:Option Tmp}{oi:Oper}{v:Value}{fuel:Nat}{l:Array Bool}{a:Act}{w:World}(l':Array Bool)(hi:ops[i]? = some oi)(hN:oi.dst=N)(hc:By ops l l' i=true)
    (hQ:∀ c a w,Q (.panic c) (a.put oi.dst v) w→Q (.panic c) a w) (hy:YieldsIf P ops S oi v a) (hS:S w) (h:y7 P ops Q S fuel l' (a.put N v) w) : y7 P ops Q S (fuel+1) l a w:=by
  subst hN
  simp only[By,Cc,Bool.and_eq_true,beq_iff_eq] at hc
  obtain⟨h0,⟨⟨h1,h2⟩,h3⟩,h4⟩:=hc
  subst h4
  exact uP hi (Region.noSelect_spec h1) hQ fuel l a w h0 (Region.free_spec hi h2) (by simpa using h3) hy hS h
theorem Cv{i:Nat}{N:Option Tmp}{oi:Oper}{fuel:Nat}{l:Array Bool}{a:Act}{w:World}(v:Value)(l':Array Bool)(hi:ops[i]? = some oi)(hN:oi.dst=N)(hc:By ops l l' i=true)
    (hQ:∀ c a w,Q (.panic c) (a.put oi.dst v) w→Q (.panic c) a w) (hw:Region.wanted oi (yielded ops a.tmps)=true) (hy:∀ w,S w→(execOp a.eval oi).run P w = .ok (.value v) w) (hS:S w)
    (h:WA P ops Q S fuel l' (a.put N v) w) : WA P ops Q S (fuel+1) l a w :=
  ⟨Dv (v:=v) l' hi hN hc hQ (.inl ⟨hw,hy⟩) hS h.out⟩
theorem CR{i:Nat}{N:Option Tmp}{oi:Oper}{fuel:Nat}{l:Array Bool}{a:Act}{w:World}(l':Array Bool)(hi:ops[i]? = some oi)(hN:oi.dst=N)(hc:By ops l l' i=true)
    (hQ:∀ c a w,Q (.panic c) (a.put oi.dst undef) w→Q (.panic c) a w) (hw:Region.wanted oi (yielded ops a.tmps)=false) (hS:S w)
    (h:WA P ops Q S fuel l' (a.put N undef) w) : WA P ops Q S (fuel+1) l a w :=
  ⟨Dv (v:=undef) l' hi hN hc hQ (.inr ⟨hw,rfl⟩) hS h.out⟩
theorem CL{l:Array Bool}{a:Act}{w:World}{n:Nat}(hr:(Region.ready .any ops l==[])=true)(h:Q .normal a w) : WA P ops Q S n l a w:=⟨xm (by simpa using hr) h n⟩
end
theorem aY{B:Int}:∀ x,x∈([] : List Int)→0≤x∧x<B:=fun x h=>by simp at h
theorem am{B a:Int}{l:List Int}(h:0≤a∧a<B)(k:∀ x,x∈l→0≤x∧x<B) : ∀ x,x∈a :: l→0≤x∧x<B:=fun x hx=>by
  rcases List.mem_cons.1 hx with rfl|hx
  · exact h
  · exact k x hx
theorem C9{α:Type}{R:World→α→List Value→Prop}{enc:α→Value}{w0 w:World}{e:TypeId}{g:Nat}{cs:Array Value}{xs:List α}(hg:w0.heap.size≤g)(hcs:cs=(xs.map enc).toArray)(hR:∀ x,x∈xs→R w x [enc x])(hl:xs.length≤4194304)(hb:w.heap[g]? = some (.cells cs e (0,0))) :
    aJ w0.heap.size e 1 R w (.slice (some ⟨g,0,none⟩) xs.length xs.length) xs:=by
  subst hcs
  refine dX (enc:=enc) hR ⟨by simp,.inr ⟨g,xs.length,_,rfl,hg,hb,Nat.le_refl _,by unfold maxLen;omega,by simp,by simp[List.take_of_length_le]⟩⟩
theorem dF{w0 w:World}{g:Nat}{cs:Array Value}{xs:List Int}(hg:w0.heap.size≤g)(hcs:cs=(xs.map (Value.int .u8)).toArray)(hx:∀ x,x∈xs→0≤x∧x<256)(hl:xs.length≤4194304)(hb:w.heap[g]? = some (.cells cs 5 (0,0))) :
    cn w0.heap.size w (.slice (some ⟨g,0,none⟩) xs.length xs.length) xs:=C9 (enc:=Value.int .u8) hg hcs (fun x h=>⟨rfl,(hx x h).1,(hx x h).2⟩) hl hb
theorem gN{w0 w:World}{g:Nat}{cs:Array Value}{xs:List Int}(hg:w0.heap.size≤g)(hcs:cs=(xs.map (Value.int .u16)).toArray)(hx:∀ x,x∈xs→0≤x∧x<65536)(hl:xs.length≤4194304)(hb:w.heap[g]? = some (.cells cs 37 (0,0))) :
    nM w0.heap.size w (.slice (some ⟨g,0,none⟩) xs.length xs.length) xs:=C9 (enc:=Value.int .u16) hg hcs (fun x h=>⟨rfl,(hx x h).1,(hx x h).2⟩) hl hb
theorem aC{x y:Int}(h:(x==y)=true) : x=y:=by simpa using h
theorem aO{x y:Int}(h:(x==y)=false) : ¬ x=y:=by simpa using h
theorem aN{x y:Int}(h:(x != y)=true) : ¬ x=y:=by simpa using h
theorem aV{x y:Int}(h:(x != y)=false) : x=y:=by simpa using h
theorem bK{x y:Bool}(h:(x&&y)=true) : x=true∧y=true:=by simpa using h
theorem uC{x y:Bool}(h:(x || y)=false) : x=false∧y=false:=by simpa using h
theorem fQ:((0:Int)==0)=true:=rfl
theorem fP:((0:Int)==1)=false:=rfl
theorem fR:((1:Int)==0)=false:=rfl
theorem fS:((1:Int)==1)=true:=rfl
theorem b8{x:Int}(h:0≤x∧x<256) : B8 x:=h
theorem co{x:Int}(h:0≤x∧x<65536) : eo x:=h
theorem iK{G:Prop}{m:Md}{w:World}{cs:Array Value}{M:b6}(h:aE m w cs.toList M)(K:∀ Aw kw Ab kb Ad kd Ar kr Ao ko,cs=(ei M (.slice Aw M.words.length kw) (.slice Ab M.bits.length kb) (.slice Ad M.data.length kd) (.slice Ar M.recs.length kr) (.slice Ao M.objects.length ko)).toArray→eO m w (.slice Aw M.words.length kw) M.words→mF m w (.slice Ab M.bits.length kb) M.bits→aR m w (.slice Ad M.data.length kd) M.data→qx m w (.slice Ar M.recs.length kr) M.recs→qz m w (.slice Ao M.objects.length ko) M.objects→M.words.length≤kw→kw≤maxLen→M.bits.length≤kb→kb≤maxLen→M.data.length≤kd→kd≤maxLen→M.recs.length≤kr→kr≤maxLen→M.objects.length≤ko→ko≤maxLen→(0≤M.code∧M.code<256)→(0≤M.fail∧M.fail<256)→(0≤M.addr∧M.addr<65536)→(0≤M.count∧M.count<65536)→(0≤M.value∧M.value<65536)→(0≤M.and_∧M.and_<65536)→(0≤M.or_∧M.or_<65536)→(0≤M.addr2∧M.addr2<65536)→(0≤M.sub∧M.sub<65536)→(0≤M.status∧M.status<65536)→(0≤M.events∧M.events<65536)→(0≤M.messages∧M.messages<65536)→(0≤M.mei∧M.mei<256)→(0≤M.kind∧M.kind<256)→(0≤M.level∧M.level<256)→(0≤M.more∧M.more<256)→(0≤M.next∧M.next<256)→G) : G:=by
  obtain⟨vw,vb,vd,vr,vo,h0,hw,hbt,hd,hr,ho,hR⟩:=h
  obtain rfl:cs=(ei M vw vb vd vr vo).toArray:=by apply Array.toList_inj.1;simpa using h0
  clear h0
  obtain⟨Aw,kw,rfl,a1,b1⟩:=hw.shape
  obtain⟨Ab,kb,rfl,a2,b2⟩:=hbt.shape
  obtain⟨Ad,kd,rfl,a3,b3⟩:=hd.shape
  obtain⟨Ar,kr,rfl,a4,b4⟩:=hr.shape
  obtain⟨Ao,ko,rfl,a5,b5⟩:=ho.shape
  exact K Aw kw Ab kb Ad kd Ar kr Ao ko rfl hw hbt hd hr ho a1 b1 a2 b2 a3 b3 a4 b4 a5 b5 hR.code hR.fail hR.addr hR.count hR.value hR.and_ hR.or_ hR.addr2 hR.sub hR.status hR.events hR.messages hR.mei hR.kind hR.level hR.more hR.next
theorem ek{c f a n v x o y s t e g k d l m p:Int}{W:List Int}{B:List Bool}{D:List Int}{R:List dY}{O:List Obj}(h:(0≤c∧c<256)∧(0≤f∧f<256)∧(0≤a∧a<65536)∧(0≤n∧n<65536)∧(0≤v∧v<65536)∧(0≤x∧x<65536)∧(0≤o∧o<65536)∧(0≤y∧y<65536)∧(0≤s∧s<65536)∧(0≤t∧t<65536)∧(0≤e∧e<65536)∧(0≤g∧g<65536)∧(0≤k∧k<256)∧(0≤d∧d<256)∧(0≤l∧l<256)∧(0≤m∧m<256)∧(0≤p∧p<256)) :
    fh ⟨c,f,a,n,v,x,o,y,s,t,e,g,W,B,D,R,k,d,l,m,p,O⟩:=by
  obtain⟨h1,h2,h3,h4,h5,h6,h7,h8,h9,b,i,j,q,r,u,w,z⟩:=h
  exact⟨h1,h2,h3,h4,h5,h6,h7,h8,h9,b,i,j,q,r,u,w,z⟩
def ob (A:Option Addr) : List Nat:=(A.map (·.block)).toList
theorem dg{α:Type}{base sz:Nat}{e:TypeId}{R:World→α→List Value→Prop}{w:World}{A:Option Addr}{n c:Nat}{xs:List α}(h:aJ base e sz R w (.slice A n c) xs) :
    A=none∨∃ g cells,A=some ⟨g,0,none⟩∧base≤g∧w.heap[g]? = some (.cells cells e (0,0)):=by
  obtain⟨cells,⟨_,ho⟩,_⟩:=h
  rcases ho with⟨hv,_⟩|⟨g,cap,cur,hv,hb,hh,_⟩
  · injection hv with h1
    exact .inl h1
  · injection hv with h1
    exact .inr ⟨g,cur,h1,hb,hh⟩
theorem fD{α:Type}{base sz:Nat}{e:TypeId}{R:World→α→List Value→Prop}{w:World}{A:Option Addr}{n c:Nat}{xs:List α}(h:aJ base e sz R w (.slice A n c) xs) : ∀ x,x∈ob A→base≤x:=by
  intro x hx
  rcases dg h with rfl|⟨g,cells,rfl,h1,h2⟩
  · simp[ob] at hx
  · simp[ob] at hx
    omega
theorem pX{α:Type}{base sz:Nat}{e:TypeId}{R:World→α→List Value→Prop}{w:World}{A:Option Addr}{n c:Nat}{xs:List α}(h:aJ base e sz R w (.slice A n c) xs) : ∀ x,x∈ob A→x<w.heap.size:=by
  intro x hx
  rcases dg h with rfl|⟨g,cells,rfl,h1,h2⟩
  · simp[ob] at hx
  · simp[ob] at hx
    have:=ai h2
    omega
theorem du{α:Type}{base sz:Nat}{e:TypeId}{R:World→α→List Value→Prop}{w:World}{A:Option Addr}{n c:Nat}{xs:List α}(D:List TypeId)(h:aJ base e sz R w (.slice A n c) xs)(hD:D.contains e=false){m:Md}(hm:m.own=true:=by rfl) : bM m D (ob A) w:=by
  intro x hx
  rcases dg h with rfl|⟨g,cells,rfl,h1,h2⟩
  · simp[ob] at hx
  · simp[ob] at hx
    subst hx
    exact .inr ⟨hm,_,_,_,h2,.inl (by simpa using hD)⟩
theorem aD{α:Type}{base sz:Nat}{e:TypeId}{R:World→α→List Value→Prop}{w W:World}{A:Option Addr}{n c g:Nat}{xs:List α}(hg:g<W.heap.size)(hs:W.heap.size≤base)(h:aJ base e sz R w (.slice A n c) xs) : g∉ob A:=fun hx=>by
  have:=fD h g hx
  omega
theorem dQ{α:Type}{base sz:Nat}{e:TypeId}{R:World→α→List Value→Prop}{w W:World}{A:Option Addr}{n c g:Nat}{xs:List α}(h:aJ base e sz R w (.slice A n c) xs)(hs:w.heap.size≤W.heap.size)(hg:W.heap.size≤g) : g∉ob A:=fun hx=>by
  have:=pX h g hx
  omega
theorem aX{α:Type}{base sz:Nat}{e t:TypeId}{R:World→α→List Value→Prop}{w:World}{A:Option Addr}{n c g:Nat}{xs:List α}{cs:Array Value}{fr:Nat × Nat}(hb:w.heap[g]? = some (.cells cs t fr))(h:aJ base e sz R w (.slice A n c) xs)(ht:(t==e)=false) : g∉ob A:=fun hx=>by
  rcases dg h with rfl|⟨g',cells,rfl,h1,h2⟩
  · simp[ob] at hx
  · simp[ob] at hx
    subst hx
    rw[hb] at h2
    injection h2 with h2
    injection h2 with _ h3
    simp[h3] at ht
theorem aM{g:Nat}{s S:List Nat}(h:g∉s)(k:g∉S) : g∉s++S:=by simp[h,k]
theorem aa{g a:Nat}{S:List Nat}(h:g≠a)(k:g∉S) : g∉a :: S:=by simp[h,k]
theorem ah{p:Nat→Prop}{s S:List Nat}(h:∀ x,x∈s→p x)(k:∀ x,x∈S→p x) : ∀ x,x∈s++S→p x:=fun x hx=>by
  rcases List.mem_append.1 hx with hx|hx
  · exact h x hx
  · exact k x hx
theorem all_cons{p:Nat→Prop}{a:Nat}{S:List Nat}(h:p a)(k:∀ x,x∈S→p x) : ∀ x,x∈a :: S→p x:=fun x hx=>by
  rcases List.mem_cons.1 hx with rfl|hx
  · exact h
  · exact k x hx
theorem aT{α:Type}{base sz:Nat}{e:TypeId}{R:World→α→List Value→Prop}{w W:World}{A:Option Addr}{n c:Nat}{xs:List α}{S:List Nat}(h:aJ base e sz R w (.slice A n c) xs)(hs:W.heap.size≤base) : ∀ x,x∈ob A→x∈S∨W.heap.size≤x:=fun x hx=>.inr (Nat.le_trans hs (fD h x hx))
theorem cR{m:Md}{D:List TypeId}{w:World}{s S:List Nat}(h:bM m D s w)(k:bM m D S w) : bM m D (s++S) w:=fun x hx=>by
  rcases List.mem_append.1 hx with hx|hx
  · exact h x hx
  · exact k x hx
theorem aj{α:Type}{base sz:Nat}{e:TypeId}{R:World→α→List Value→Prop}{w w':World}{A:Option Addr}{n c:Nat}{xs:List α}{S:List Nat}
    (h:aJ base e sz R w (.slice A n c) xs) (hu:ap S w w') (hn:∀ x,x∈ob A→x∉S) (hR:∀ x cs,R w x cs→R w' x cs) : aJ base e sz R w' (.slice A n c) xs:=by
  obtain⟨cells,ho,hx⟩:=h
  refine⟨cells,kf ho fun g hg=>?_,fun j x hj=>?_⟩
  · rcases ho.2 with⟨hv,_⟩ | ⟨g',cap,cur,hv,hb,hh,_⟩
    · rw[hv] at hg;simp[Value.ownBlock] at hg
    · rw[hv] at hg
      have:g'=g:=by simpa [Value.ownBlock] using hg
      subst this
      injection hv with h1
      exact hu.block _ (ai hh) (hn _ (by simp[ob,h1]))
  · obtain⟨cs,hl,hr,hc⟩:=hx j x hj
    exact⟨cs,hl,hR _ _ hr,hc⟩
theorem ly{α β:Type}{base base' sz sz':Nat}{e e':TypeId}{R:World→α→List Value→Prop}{R':World→β→List Value→Prop}{w w':World}{A A':Option Addr}{n c n' c':Nat}{xs:List α}{ys:List β}
    (h:aJ base e sz R w (.slice A n c) xs) (h':aJ base' e' sz' R' w' (.slice A' n' c') ys) (hs:w'.heap.size≤base) : ∀ x,x∈ob A→x∉ob A':=fun x hx hx'=>by
  have h1:=fD h x hx
  have h2:=pX h' x hx'
  omega
theorem qm{P:Program}{Q:Exit→Act→World→Prop}{a:Act}{w:World}{K:Act→World→Prop}{o:Oper}{N:Option Tmp}{α:Type}{R:World→α→List Value→Prop}
    {s x:Operand} {t e:TypeId} {base n c:Nat} {A:Option Addr} (z:Value) (sz bytes:Nat) (hN:o.dst=N) (ho:o.op = .call { callee:=.builtin .append,args:=#[s,x],argTypes:=#[t,t] })
    (ht:P.underlying t=some (.slice e)) (hinfo:(P.info? e).map (fun i=>(i.zero,i.size,i.bytes))=some (some z,sz,bytes)) (hz:z.cells.size=sz) (hsz:0<sz)
    (xs:List α) (hs:a.eval s = .slice A n c) (HO:aJ base e sz R w (.slice A n c) xs) {m:Md} {e':TypeId} (u:Value) (ys:List α) (hx:a.eval x=u) (HY:aP m e' sz R w u ys) (hne:0<ys.length)
    (hone:∀ x cs,R w x cs→∀ v,v∈cs→v.oneCell'=true) (hRU:∀ w',ap (ob A++[]) w w'→∀ x cs,R w x cs→R w' x cs)
    (hl:xs.length+ys.length≤4611686018427387904) (hmul:(xs.length+ys.length)*bytes≤140737488355328) (hbase:base≤w.heap.size)
    (h:∀ A' c' w',aJ base e sz R w' (.slice A' (xs++ys).length c') (xs++ys)→ap (ob A++[]) w w'→(∀ g,g∈ob A'→g∈ob A∨w.heap.size≤g)→K (a.put N (.slice A' (xs++ys).length c')) w') : OW P o a w K Q:=by
  subst hN
  refine⟨?_⟩
  obtain⟨i0,hi,hz0,hz1,hz2⟩:=info_parts hinfo
  obtain⟨v',w',hr,h1,hU,hwh⟩ : ∃ v' w',(Builtin.append_ #[t,t] o.type #[.slice A n c,u]).run P w = .ok v' w'∧aJ base e sz R w' v' (xs++ys)∧ap (ob A++[]) w w'∧(v'.ownBlock=(Value.slice A n c).ownBlock∨v'.ownBlock=some w.heap.size):=by
    obtain⟨A2,c2,rfl,_,_,_,h3⟩:=HY
    obtain⟨b,off,cells,t',fr,rfl,hb,_,hc⟩:=h3 hne
    have hA:=dg HO
    have HO1:=HO
    obtain⟨cs0,ho0,hx0⟩:=HO1
    have hn:n=xs.length:=by
      rcases ho0.2 with⟨hv,h0⟩|⟨_,_,_,hv,_⟩
      · injection hv with _ h2 _;omega
      · injection hv
    -- the cells that come
    let news:=(cells.toList.drop off).take (ys.length*sz)
    have hget:∀ (j:Nat) (y:α),ys[j]? = some y→∃ cs:List Value,cs.length=sz∧R w y cs∧∀ i u,cs[i]? = some u→news[j*sz+i]? = some u:=by
      intro j y hj
      obtain⟨cs,h4,h5,h6⟩:=hc j y hj
      refine⟨cs,h4,h5,fun i u hu=>?_⟩
      have hi':i<sz:=by have:=(List.getElem?_eq_some_iff.1 hu).1;omega
      have hj':j<ys.length:=(List.getElem?_eq_some_iff.1 hj).1
      have hlt:j*sz+i<ys.length*sz:=by
        have:(j+1)*sz≤ys.length*sz:=Nat.mul_le_mul_right sz hj'
        rw[Nat.add_mul] at this
        omega
      show((cells.toList.drop off).take (ys.length*sz))[j*sz+i]? = some u
      rw[List.getElem?_take,if_pos hlt,List.getElem?_drop]
      have:=h6 i u hu
      rw[← this]
      simp[Nat.add_assoc]
    have hnl:news.length=ys.length*sz:=by
      have hlast:=hc (ys.length-1) (ys[ys.length-1]'(by omega)) (by simp)
      obtain⟨cs,h4,h5,h6⟩:=hlast
      obtain⟨u,hu⟩ : ∃ u,cs[sz-1]? = some u:=⟨cs[sz-1]'(by omega),by simp⟩
      have h7:=(Array.getElem?_eq_some_iff.1 (h6 (sz-1) u hu)).1
      show((cells.toList.drop off).take (ys.length*sz)).length=_
      rw[List.length_take,List.length_drop]
      have hcl:cells.toList.length=cells.size:=Array.length_toList
      have:(ys.length-1)*sz+sz=ys.length*sz:=by
        rw[← Nat.succ_mul]
        congr 1
        omega
      omega
    have hnews:∀ j u,news[j]? = some u→w.cell? ((⟨b,off,none⟩ : Addr).add j)=some u:=by
      intro j u hj
      have hj':j<ys.length*sz:=by have:=(List.getElem?_eq_some_iff.1 hj).1;omega
      change ((cells.toList.drop off).take (ys.length*sz))[j]? = some u at hj
      rw[List.getElem?_take,if_pos hj',List.getElem?_drop] at hj
      rw[iU _ _ _ _ rfl,be hb]
      simpa using hj
    have hnone:∀ u,u∈news→u.oneCell'=true:=by
      intro u hu
      obtain⟨k,hk⟩:=List.getElem?_of_mem hu
      have hk':k<ys.length*sz:=by have:=(List.getElem?_eq_some_iff.1 hk).1;omega
      have hd:k/sz<ys.length:=Nat.div_lt_of_lt_mul (by rw[Nat.mul_comm];exact hk')
      obtain⟨cs,h4,h5,h6⟩:=hget (k/sz) (ys[k/sz]'hd) (by simp)
      have hm:k%sz<cs.length:=by rw[h4];exact Nat.mod_lt _ hsz
      have h7:=h6 (k%sz) (cs[k%sz]'hm) (by simp)
      rw[Nat.div_add_mod' k sz,hk] at h7
      injection h7 with h7
      exact hone _ _ h5 u (by rw[h7];simp)
    subst hn
    obtain⟨v',w',hr,hown,hg,_,hwh⟩:=run_append_own_at (P:=P) (w:=w) base t o.type e i0 z sz bytes ht hi hz0 hz1 hz2 hz hsz _ xs.length cs0 ho0 ⟨b,off,none⟩ ys.length c2 news hnl hnews hnone (by unfold maxLen;omega) hmul hbase
    have hU:ap (ob A++[]) w w':=ap.of_grown hg _ fun k hk=>.inl (by
      rcases hA with rfl|⟨g,cells,rfl,_,_⟩
      · simp[Value.ownBlock] at hk
      · simp[Value.ownBlock] at hk
        simp[ob,hk])
    refine⟨v',w',hr,⟨cs0++news,by simpa using hown,fun j y hj=>?_⟩,hU,hwh⟩
    rcases Nat.lt_or_ge j xs.length with hjx|hjx
    · rw[List.getElem?_append_left hjx] at hj
      obtain⟨cs,h4,h5,h6⟩:=hx0 j y hj
      refine⟨cs,h4,hRU w' hU _ _ h5,fun i u hu=>?_⟩
      have:=h6 i u hu
      rw[List.getElem?_append_left (List.getElem?_eq_some_iff.1 this).1]
      exact this
    · rw[List.getElem?_append_right hjx] at hj
      obtain⟨cs,h4,h5,h6⟩:=hget _ y hj
      refine⟨cs,h4,hRU w' hU _ _ h5,fun i u hu=>?_⟩
      have:=h6 i u hu
      have hle:cs0.length≤j*sz+i:=by
        rw[ho0.1]
        have:=Nat.mul_le_mul_right sz hjx
        omega
      rw[List.getElem?_append_right hle,ho0.1,← this]
      congr 1
      rw[Nat.sub_mul]
      have:=Nat.mul_le_mul_right sz hjx
      omega
  have hrun:(execOp a.eval o).run P w = .ok (.value v') w':=by
    unfold execOp
    simp only[ho,resolve,invoke,builtin,Sem.run_bind,Sem.run_pure,Result.andThen_ok,List.map_toArray,List.map_cons,List.map_nil,hs,hx,hr]
  unfold Oper.wp
  rw[hrun]
  obtain⟨A',c',rfl,_,_⟩:=h1.rd.shape
  refine h _ _ _ h1 hU fun g hg=>?_
  rcases dg h1 with rfl|⟨g',cells',rfl,_,_⟩
  · simp[ob] at hg
  · simp[ob] at hg
    subst hg
    rcases hwh with h|h
    · rcases dg HO with rfl | ⟨g2,_,rfl,_,_⟩
      · simp[Value.ownBlock] at h
      · simp[Value.ownBlock] at h;simp[ob,h]
    · simp[Value.ownBlock] at h;exact .inr (by omega)
theorem wq{P:Program}{Q:Exit→Act→World→Prop}{a:Act}{w:World}{K:Act→World→Prop}{o:Oper}{N:Option Tmp}{α:Type}{R:World→α→List Value→Prop}
    {s x:Operand} {t e:TypeId} {base n c:Nat} {A:Option Addr} (z:Value) (sz bytes:Nat) (hN:o.dst=N) (ho:o.op = .call { callee:=.builtin .append,args:=#[s,x],argTypes:=#[t,t] })
    (ht:P.underlying t=some (.slice e)) (hinfo:(P.info? e).map (fun i=>(i.zero,i.size,i.bytes))=some (some z,sz,bytes)) (hz:z.cells.size=sz) (hsz:0<sz)
    (xs:List α) (hs:a.eval s = .slice A n c) (HO:aJ base e sz R w (.slice A n c) xs) {m:Md} {e':TypeId} (u:Value) (ys:List α) (hx:a.eval x=u) (HY:aP m e' sz R w u ys) (hne:0<ys.length)
    (hone:∀ x cs,R w x cs→∀ v,v∈cs→v.oneCell'=true) (hRU:∀ w',ap (ob A++[]) w w'→∀ x cs,R w x cs→R w' x cs)
    (hl:xs.length+ys.length≤4194304) (hby:bytes≤65536) (hbase:base≤w.heap.size)
    (h:∀ A' c' w',aJ base e sz R w' (.slice A' (xs++ys).length c') (xs++ys)→ap (ob A++[]) w w'→(∀ g,g∈ob A'→g∈ob A∨w.heap.size≤g)→K (a.put N (.slice A' (xs++ys).length c')) w') : OW P o a w K Q :=
  qm z sz bytes hN ho ht hinfo hz hsz xs hs HO u ys hx HY hne hone hRU (by omega) (Nat.le_trans (Nat.mul_le_mul hl hby) (by decide)) hbase h
theorem yL{P:Program}{Q:Exit→Act→World→Prop}{a:Act}{w:World}{K:Act→World→Prop}{o:Oper}{N:Option Tmp}{α:Type}{R:World→α→List Value→Prop}
    {s x:Operand} {t e:TypeId} {base n c:Nat} {A:Option Addr} (z:Value) (sz bytes:Nat) (hN:o.dst=N) (ho:o.op = .call { callee:=.builtin .append,args:=#[s,x],argTypes:=#[t,t] })
    (ht:P.underlying t=some (.slice e)) (hinfo:(P.info? e).map (fun i=>(i.zero,i.size,i.bytes))=some (some z,sz,bytes)) (hz:z.cells.size=sz) (hsz:0<sz)
    (xs:List α) (hs:a.eval s = .slice A n c) (HO:aJ base e sz R w (.slice A n c) xs) {m:Md} {e':TypeId} (u:Value) (ys:List α) (hx:a.eval x=u) (HY:aP m e' sz R w u ys) (hne:0<ys.length)
    (hone:∀ x cs,R w x cs→∀ v,v∈cs→v.oneCell'=true) (hRU:∀ w',ap (ob A++[]) w w'→∀ x cs,R w x cs→R w' x cs)
    (hl:xs.length+ys.length≤4194304) (hby:bytes≤65536) (hbase:base≤w.heap.size)
    (h:∀ A' c' w',aJ base e sz R w' (.slice A' (xs++ys).length c') (xs++ys)→ap (ob A++[]) w w'→K (a.put N (.slice A' (xs++ys).length c')) w') : OW P o a w K Q :=
  wq z sz bytes hN ho ht hinfo hz hsz xs hs HO u ys hx HY hne hone hRU hl hby hbase fun A' c' w' h1 h2 _=>h A' c' w' h1 h2
theorem sw{α:Type}{R:World→α→List Value→Prop}{w:World}{e:TypeId}{g sz:Nat}{cs:Array Value}{x:α}(hb:w.heap[g]? = some (.cells cs e (0,0)))(hs:cs.toList.length=sz)(hR:R w x cs.toList) : aP true e sz R w (.slice (some ⟨g,0,none⟩) 1 1) [x]:=by
  refine⟨_,1,rfl,Nat.le_refl _,by unfold maxLen;omega,(fun h=>by cases h),fun _=>⟨g,0,cs,e,(0,0),rfl,hb,(fun _=>⟨rfl,Nat.zero_le _⟩),fun j y hj=>?_⟩⟩
  have:j=0:=by have:=(List.getElem?_eq_some_iff.1 hj).1;simp at this;exact this
  subst this
  simp at hj
  subst hj
  exact⟨cs.toList,hs,hR,fun i u hu=>by simpa using hu⟩
theorem cz.upd8{m:Md}{w w':World}{S:List Nat}(hu:ap S w w')(hs:bM m [5] S w)(r:Obj)(cs:List Value)(h:cz m w r cs) : cz m w' r cs:=by
  obtain⟨v,h1,h2,h3⟩:=h
  exact⟨v,h1,aR.upd' h2 hu hs,h3⟩
theorem bE.upd16{m:Md}{w w':World}{S:List Nat}(hu:ap S w w')(hs:bM m [37] S w)(r:dY)(cs:List Value)(h:bE m w r cs) : bE m w' r cs:=by
  obtain⟨v,h1,h2,h3⟩:=h
  exact⟨v,h1,eO.upd' h2 hu hs,h3⟩
theorem cz.ones{m:Md}{w:World}(x:Obj)(cs:List Value)(h:cz m w x cs) : ∀ v,v∈cs→v.oneCell'=true:=by
  obtain⟨v,rfl,h2,_⟩:=h
  intro u hu
  simp at hu
  rcases hu with rfl|rfl
  · rfl
  · exact aP.one h2
theorem bE.ones{m:Md}{w:World}(x:dY)(cs:List Value)(h:bE m w x cs) : ∀ v,v∈cs→v.oneCell'=true:=by
  obtain⟨v,rfl,h2,_⟩:=h
  intro u hu
  simp at hu
  rcases hu with rfl|rfl|rfl|rfl
  · rfl
  · rfl
  · rfl
  · exact aP.one h2
theorem Bk{P:Program}{Q:Exit→Act→World→Prop}{a:Act}{w:World}{K:Act→World→Prop}{o:Oper}{N:Option Tmp}{α:Type}{R:World→α→List Value→Prop}{enc:α→Value}(hR:zn R enc)
    {s x:Operand} {t e:TypeId} {base n c:Nat} {A:Option Addr} (z:Value) (bytes:Nat) (hN:o.dst=N) (ho:o.op = .call { callee:=.builtin .append,args:=#[s,x],argTypes:=#[t,t] })
    (ht:P.underlying t=some (.slice e)) (hinfo:(P.info? e).map (fun i=>(i.zero,i.size,i.bytes))=some (some z,1,bytes)) (hz:z.cells.size=1)
    (xs:List α) (hs:a.eval s = .slice A n c) (HO:aJ base e 1 R w (.slice A n c) xs) {m:Md} {e':TypeId} (u:Value) (ys:List α) (hx:a.eval x=u) (HY:aP m e' 1 R w u ys)
    (hl:xs.length+ys.length≤4194304) (hby:bytes≤65536) (hbase:base≤w.heap.size)
    (h:∀ A' c' w',aJ base e 1 R w' (.slice A' (xs++ys).length c') (xs++ys)→ap (ob A++[]) w w'→K (a.put N (.slice A' (xs++ys).length c')) w') : OW P o a w K Q:=by
  subst hN
  refine⟨?_⟩
  obtain⟨i0,hi,hz0,hz1,hz2⟩:=info_parts hinfo
  obtain⟨v',w',hr,h1,hU⟩ : ∃ v' w',(Builtin.append_ #[t,t] o.type #[.slice A n c,u]).run P w = .ok v' w'∧aJ base e 1 R w' v' (xs++ys)∧ap (ob A) w w':=by
    obtain⟨A2,c2,hu,hc1,hc2⟩:=HY.shape
    subst hu
    cases A2 with
    | none =>
      obtain⟨A2,c',hv,_,_,h0,h3⟩:=HY
      injection hv with e1 e2 e3
      subst e1 e3
      obtain rfl:ys=[]:=by
        rcases Nat.eq_zero_or_pos ys.length with h0|h0
        · exact List.eq_nil_of_length_eq_zero h0
        · obtain⟨b,off,cells,t,fr,hh,_⟩:=h3 h0
          cases hh
      obtain rfl:=h0 rfl
      have hn:n=xs.length:=by
        obtain⟨_,_,hv,_⟩:=HO.rd.shape
        injection hv
      exact⟨_,w,by subst hn;exact run_append_owned_none (P:=P) (w:=w) base t o.type e i0 1 ht hi _ xs.length (xs.map enc) (dW hR.cell HO),by subst hn;simpa using HO,ap.refl _ _⟩
    | some ad =>
      obtain⟨_,hnews⟩:=ie hR.cell HY
      have hmul:(xs.length+ys.length)*bytes≤140737488355328:=Nat.le_trans (Nat.mul_le_mul hl hby) (by decide)
      obtain⟨v',w',hr,hown,hg,_,_⟩:=run_append_own_at (P:=P) (w:=w) base t o.type e i0 z 1 bytes ht hi hz0 hz1 hz2 hz (by decide) _ xs.length (xs.map enc) (dW hR.cell HO) ad ys.length c2 (ys.map enc) (by simp) hnews
        (fun u hu=>by obtain⟨y,_,rfl⟩:=List.mem_map.1 hu;exact hR.one y) (by unfold maxLen;omega) hmul hbase
      refine⟨v',w',hr,dX (enc:=enc) (fun y hy=>?_) (by simpa using hown),ap.of_grown hg _ fun k hk=>.inl ?_⟩
      · rcases List.mem_append.1 hy with hy | hy
        · obtain⟨cs,h1⟩:=HO.mem y hy;exact hR.any _ _ _ _ h1
        · obtain⟨cs,h1⟩:=HY.mem y hy;exact hR.any _ _ _ _ h1
      · rcases dg HO with rfl | ⟨g,cells,rfl,_,_⟩
        · simp[Value.ownBlock] at hk
        · simp[Value.ownBlock] at hk
          simp[ob,hk]
  have hrun:(execOp a.eval o).run P w = .ok (.value v') w':=by
    unfold execOp
    simp only[ho,resolve,invoke,builtin,Sem.run_bind,Sem.run_pure,Result.andThen_ok,List.map_toArray,List.map_cons,List.map_nil,hs,hx,hr]
  unfold Oper.wp
  rw[hrun]
  obtain⟨A',c',rfl,_,_⟩:=h1.rd.shape
  exact h _ _ _ h1 (by simpa using hU)
theorem qx.old{m:Md}{w w':World}{v:Value}{l:List dY}(h:qx m w v l)(hu:ap [] w w') : qx m w' v l:=h.upd' hu (bM.nil _ _ _)
theorem qz.old{m:Md}{w w':World}{v:Value}{l:List Obj}(h:qz m w v l)(hu:ap [] w w') : qz m w' v l:=h.upd' hu (bM.nil _ _ _)
theorem aP.elt{α:Type}{m:Md}{e:TypeId}{sz:Nat}{R:World→α→List Value→Prop}{w:World}{A:Option Addr}{n c:Nat}{xs:List α}(h:aP m e sz R w (.slice A n c) xs)(d:α)(j:Nat)(hj:j<xs.length) :
    ∃ b off cells t fr cs,A=some ⟨b,off,none⟩∧w.heap[b]? = some (.cells cells t fr)∧cs.length=sz∧R w (xs.getD j d) cs∧(cells.toList.drop (off+j*sz)).take sz=cs:=by
  obtain⟨A',c',hv,h1,h2,h0,h3⟩:=h
  injection hv with e1 e2 e3
  subst e1 e3
  obtain⟨b,off,cells,t,fr,rfl,hb,ht,hx⟩:=h3 (by omega)
  have hg:xs[j]? = some (xs.getD j d):=by simp[List.getD_eq_getElem?_getD,List.getElem?_eq_getElem hj]
  obtain⟨cs,h4,h5,h6⟩:=hx j _ hg
  refine⟨b,off,cells,t,fr,cs,rfl,hb,h4,h5,?_⟩
  apply List.ext_getElem?
  intro i
  rw[List.getElem?_take,List.getElem?_drop]
  by_cases hi:i<sz
  · rw[if_pos hi]
    have hi':i<cs.length:=by omega
    have:=h6 i cs[i] (by simp)
    rw[List.getElem?_eq_getElem hi',← this]
    simp
  · rw[if_neg hi,List.getElem?_eq_none (by omega)]
theorem qz.elt{m:Md}{w:World}{A:Option Addr}{n c:Nat}{xs:List Obj}(h:qz m w (.slice A n c) xs)(j:Nat)(hj:j<xs.length) :
    ∃ b off cells t fr A' c',A=some ⟨b,off,none⟩∧w.heap[b]? = some (.cells cells t fr)∧aR m w (.slice A' (xs.getD j ⟨0,[]⟩).value.length c') (xs.getD j ⟨0,[]⟩).value∧(0≤(xs.getD j ⟨0,[]⟩).id∧(xs.getD j ⟨0,[]⟩).id<256) ∧
      (cells.toList.drop (off+j*2)).take 2=[.int .u8 (xs.getD j ⟨0,[]⟩).id,.slice A' (xs.getD j ⟨0,[]⟩).value.length c']:=by
  obtain⟨b,off,cells,t,fr,cs,h1,h2,h3,⟨v,h4,h5,h6⟩,h7⟩:=aP.elt h ⟨0,[]⟩ j hj
  obtain⟨A',c',rfl,_,_⟩:=h5.shape
  exact⟨b,off,cells,t,fr,A',c',h1,h2,h5,h6,by rw[h7,h4]⟩
theorem qx.elt{m:Md}{w:World}{A:Option Addr}{n c:Nat}{xs:List dY}(h:qx m w (.slice A n c) xs)(j:Nat)(hj:j<xs.length) :
    ∃ b off cells t fr A' c',A=some ⟨b,off,none⟩∧w.heap[b]? = some (.cells cells t fr)∧eO m w (.slice A' (xs.getD j ⟨0,0,0,[]⟩).words.length c') (xs.getD j ⟨0,0,0,[]⟩).words ∧
      ((0≤(xs.getD j ⟨0,0,0,[]⟩).file∧(xs.getD j ⟨0,0,0,[]⟩).file<65536)∧(0≤(xs.getD j ⟨0,0,0,[]⟩).record∧(xs.getD j ⟨0,0,0,[]⟩).record<65536)∧(0≤(xs.getD j ⟨0,0,0,[]⟩).count∧(xs.getD j ⟨0,0,0,[]⟩).count<65536)) ∧
      (cells.toList.drop (off+j*4)).take 4=[.int .u16 (xs.getD j ⟨0,0,0,[]⟩).file,.int .u16 (xs.getD j ⟨0,0,0,[]⟩).record,.int .u16 (xs.getD j ⟨0,0,0,[]⟩).count,.slice A' (xs.getD j ⟨0,0,0,[]⟩).words.length c']:=by
  obtain⟨b,off,cells,t,fr,cs,h1,h2,h3,⟨v,h4,h5,h6⟩,h7⟩:=aP.elt h ⟨0,0,0,[]⟩ j hj
  obtain⟨A',c',rfl,_,_⟩:=h5.shape
  exact⟨b,off,cells,t,fr,A',c',h1,h2,h5,h6,by rw[h7,h4]⟩
theorem Av{P:Program}{Q:Exit→Act→World→Prop}{a:Act}{w:World}{K:Act→World→Prop}{o:Oper}{N:Option Tmp}{t e:TypeId}{x ix:Operand}{A:Option Addr}{n c b off j:Nat}{k:IntKind}{i:Int}(sz:Nat)(hN:o.dst=N)(ho:o.op = .indexAddr t x ix)(ht:P.underlying t=some (.slice e))(hi:(P.info? e).map (·.size)=some sz)
    (hx:a.eval x = .slice A n c) (hix:a.eval ix = .int k i) (hj:i=j) (hlt:j<n) (hA:A=some ⟨b,off,none⟩) (h:K (a.put N (.pointer (some ⟨b,off+j*sz,none⟩))) w) : OW P o a w K Q:=by
  subst hj
  subst hA
  obtain⟨i0,hi0,hs⟩:=Option.map_eq_some_iff.1 hi
  refine f9 _ hN ?_ h
  unfold execOp
  have h2:(0:Int)≤(j:Int)∧(j:Int)<(n:Int):=by omega
  simp[ho,hx,hix,Instr.indexAt,asIntOf,run_underlying ht,Result.andThen,h2,sizeOf,typeInfo,hi0,hs,iU,hlt]
theorem Ak{P:Program}{Q:Exit→Act→World→Prop}{a:Act}{w:World}{K:Act→World→Prop}{o:Oper}{N:Option Tmp}{α:Type}{R:World→α→List Value→Prop}{enc:α→Value}(hR:zn R enc){ty e:TypeId}{x y:Operand}{base n c b off j:Nat}{A:Option Addr}{xs:List α}(v:α)
    (hN:o.dst=N) (ho:o.op = .store ty x y) (hx:a.eval x = .pointer (some ⟨b,off+j,none⟩)) (hy:a.eval y=enc v) (hv:∀ w,R w v [enc v]) (HO:aJ base e 1 R w (.slice A n c) xs) (hA:A=some ⟨b,off,none⟩) (hj:j<xs.length) (hi:(P.info? ty).map (·.size)=some 1)
    (h:∀ w',aJ base e 1 R w' (.slice A n c) (xs.set j v)→ap (ob A++[]) w w'→K (a.put N undef) w') : OW P o a w K Q:=by
  subst hA
  have hrow:=dW hR.cell HO
  obtain⟨hl,hh⟩:=hrow
  rcases hh with⟨hv',h0⟩|⟨g,cap,cur,hv',hb,hheap,h1,h2,h3,h4⟩
  · omega
  injection hv' with e1 e2 e3
  injection e1 with e1
  injection e1 with e4 e5
  subst e4 e5 e2
  have hjc:j<cur.size:=by rw[h3];omega
  refine Aa (g:=b) (off:=0+j) (enc v) _ hN ho hx hy hheap (by simp;omega) hi (hR.one v) rfl fun w' hb' hu=>h w' ?_ (by simpa [ob] using hu)
  have:(xs.set j v).length=xs.length:=by simp
  rw[← this]
  refine dX (enc:=enc) (fun y hy=>?_) ⟨by simp,.inr ⟨b,cap,_,by rw[this,e3],hb,hb',by rw[this];exact h1,h2,by simp[h3],?_⟩⟩
  · rcases List.mem_or_eq_of_mem_set hy with hy | rfl
    · obtain⟨cs,h5⟩:=HO.mem y hy
      exact hR.any _ _ _ _ h5
    · exact hv w'
  · rw[this,List.map_set,← h4]
    simp[List.take_set]
theorem i64_in{x:Int}(h : -9223372036854775808≤x∧x≤9223372036854775807) : IntKind.i64.wrap x=x:=IntWalk.i64_in _ (by omega)
theorem rI{x:Int}(h:0≤x∧x<65536) : IntKind.u16.wrap x=x:=by show x%65536=x;omega
theorem u8_in{x:Int}(h:0≤x∧x<256) : IntKind.u8.wrap x=x:=by show x%256=x;omega
theorem ta{x y:Int}(hx:0≤x∧x≤9223372036854775807)(hy:0<y) : IntKind.i64.wrap (Int.tdiv x y)=x/y:=by
  rw[Int.tdiv_eq_ediv_of_nonneg hx.1]
  refine i64_in ⟨?_,?_⟩
  · have:=Int.ediv_nonneg hx.1 (Int.le_of_lt hy)
    omega
  · have:=Int.ediv_le_self y hx.1
    omega
theorem xS{x y:Int}(hx : -1000000≤x∧x≤1000000)(hy:0<y) : IntKind.i64.wrap (Int.tdiv x y)=Int.tdiv x y:=by
  have h : -1000000≤Int.tdiv x y∧Int.tdiv x y≤1000000:=by
    rcases Int.lt_or_le x 0 with h|h
    · obtain⟨n,rfl⟩ : ∃ n:Nat,x = -(n:Int):=⟨(-x).toNat,by omega⟩
      rw[Int.neg_tdiv,Int.tdiv_eq_ediv_of_nonneg (by omega)]
      have h1:=Int.ediv_nonneg (show(0:Int)≤n by omega) (Int.le_of_lt hy)
      have h2:=Int.ediv_le_self y (show(0:Int)≤n by omega)
      omega
    · rw[Int.tdiv_eq_ediv_of_nonneg h]
      have h1:=Int.ediv_nonneg h (Int.le_of_lt hy)
      have h2:=Int.ediv_le_self y h
      omega
  exact i64_in ⟨by omega,by omega⟩
theorem kH(x y z:Int)(h:decide (0≤y)&&(y==z)=true) : Int.fdiv x y=x/z:=by
  simp only[Bool.and_eq_true,decide_eq_true_eq,beq_iff_eq] at h
  rw[← h.2]
  exact Int.fdiv_eq_ediv_of_nonneg x h.1
theorem aB{p:Nat→Prop}:∀ x,x∈([] : List Nat)→p x:=fun x h=>by simp at h
theorem AE{p:Nat→Prop}{a b:Nat}(ha:p a)(hb:p b) : ∀ x,x∈[a,b]→p x:=fun x h=>by
  simp at h
  rcases h with rfl|rfl
  · exact ha
  · exact hb
theorem az{g:Nat}:g∉([] : List Nat):=by simp
theorem aK{m:Md}{D:List TypeId}{w:World}:bM m D [] w:=bM.nil _ _ _
theorem aW{D:List TypeId}{w:World}{g:Nat}{cs:Array Value}{t:TypeId}{fr:Nat × Nat}(h:w.heap[g]? = some (.cells cs t fr))(ht:D.contains t=false){m:Md}(hm:m.own=true:=by rfl) : bM m D [g] w:=bM.one h (by simpa using ht) hm
theorem ak{m:Md}{D:List TypeId}{w:World}{g:Nat}{S:List Nat}(h:bM m D [g] w)(k:bM m D S w) : bM m D (g :: S) w:=fun s hs=>by
  simp at hs
  rcases hs with rfl|hs
  · exact h _ (by simp)
  · exact k _ hs
open Go.RowKit
theorem ck{P:Program}{m:Md}{w:World}{ev:Operand→Value}{o:Oper}{x:Operand}{src dst e:TypeId}{A:Option Addr}{n c:Nat}{xs:List Int}(ho:o.op = .convert src dst x)(hx:ev x = .slice A n c)
    (hs:P.underlying src=some (.slice e)) (he:P.underlying e=some (.int .u8)) (hd:P.underlying dst=some .string) (h:aR m w (.slice A n c) xs) : (execOp ev o).run P w = .ok (.value (.string (strOfNums xs))) w:=by
  have hr:(convert src dst (.slice A n c)).run P w = .ok (.string (strOfNums xs)) w:=by
    obtain⟨A',c',hv,h1,h2,h0,h3⟩:=h
    injection hv with e1 e2 e3
    subst e1 e2 e3
    by_cases hp:0<xs.length
    · obtain⟨b,off,cells,t,fr,rfl,hb,ht,hx⟩:=h3 hp
      refine run_convert_bytes_arg w src e hs he b off _ c xs rfl (fun i hi=>?_) dst hd
      obtain⟨cs,hl,⟨hr,_,_⟩,hc⟩:=hx i xs[i] (List.getElem?_eq_getElem hi)
      rw[be hb,← Nat.mul_one i]
      have:=hc 0 (.int .u8 xs[i]) (by rw[hr];rfl)
      simp only[Nat.add_zero] at this
      rw[this]
      simp[List.getD_eq_getElem?_getD,List.getElem?_eq_getElem hi]
    · have hz:xs=[]:=List.eq_nil_of_length_eq_zero (by omega)
      subst hz
      cases A with
      | none=>rw[run_convert_bytes_nil w src e hs he _ _ dst hd];rfl
      | some a =>
        have hl:(loadCells a 0).run P w = .ok #[] w:=by
          have:=run_loadCells_list (P:=P) w a [] (fun j v hj=>by simp at hj)
          simpa using this
        rw[run_convert_bytes_string w src dst e _ _ c hs he hd,show([] : List Int).length=0 from rfl,run_bytesToString w _ 0 c [] (by simpa using hl)]
        rfl
  unfold execOp
  simp only[ho,hx,Sem.run_bind,hr,Result.andThen,Sem.run_pure]
theorem jC:∀ (xs ys:List Int),(∀ x,x∈xs→0≤x∧x<256)→(∀ x,x∈ys→0≤x∧x<256)→(xs.map fun n=>UInt8.ofNat n.toNat)=(ys.map fun n=>UInt8.ofNat n.toNat)→xs=ys
  | [],[],_,_,_=>rfl
  | [],_ :: _,_,_,h=>by simp at h
  | _ :: _,[],_,_,h=>by simp at h
  | x :: xs,y :: ys,hx,hy,h=>by
    simp only[List.map_cons,List.cons.injEq] at h
    obtain⟨h1,h2⟩:=h
    have h3:=jC xs ys (fun z hz=>hx z (by simp[hz])) (fun z hz=>hy z (by simp[hz])) h2
    have a:=hx x (by simp)
    have b:=hy y (by simp)
    have h4:x.toNat%256=y.toNat%256:=by
      have:=congrArg UInt8.toNat h1
      simpa [UInt8.toNat_ofNat'] using this
    have h5:x=y:=by omega
    rw[h5,h3]
theorem aR.range{m:Md}{w:World}{v:Value}{xs:List Int}(h:aR m w v xs) : ∀ x,x∈xs→0≤x∧x<256:=by
  intro x hx
  obtain⟨A,c,rfl,_,_,_,h3⟩:=h
  obtain⟨j,hj,rfl⟩:=List.getElem_of_mem hx
  obtain⟨b,off,cells,t,fr,_,_,_,h4⟩:=h3 (by omega)
  obtain⟨cs,_,⟨_,h5,h6⟩,_⟩:=h4 j xs[j] (List.getElem?_eq_getElem hj)
  exact⟨h5,h6⟩
theorem iF{m m':Md}{w w':World}{v v':Value}{xs ys:List Int}(hx:aR m w v xs)(hy:aR m' w' v' ys) : ((strOfNums xs).toList==(strOfNums ys).toList)=decide (xs=ys):=by
  rw[ByteArray.toList_eq,ByteArray.toList_eq,strOfNums_data,strOfNums_data]
  by_cases h:xs=ys
  · subst h;simp
  · rw[decide_eq_false h]
    simp only[beq_eq_false_iff_ne,ne_eq]
    intro he
    exact h (jC xs ys hx.range hy.range he)
theorem zi{xs:List Int}{l:List UInt8}{b:ByteArray}(hb:b.data.toList=l)(h:(xs.map fun n=>UInt8.ofNat n.toNat)=l) : ((strOfNums xs).toList==b.toList)=true:=by
  rw[ByteArray.toList_eq,ByteArray.toList_eq,strOfNums_data,hb,h]
  simp
theorem e8{P:Program}{w:World}{ev:Operand→Value}{o:Oper}{x y:Operand}{t t':TypeId}{a b:ByteArray}{v:Bool}(ho:o.op = .binOp .eql t x y t')(hx:ev x = .string a)(hy:ev y = .string b)(hv:(a.toList==b.toList)=v) : (execOp ev o).run P w = .ok (.value (.bool v)) w:=by
  have hg:eqGuard .eql t x y (.string a) (.string b)=pure ():=rfl
  unfold execOp
  simp only[ho,hx,hy,hg,binOp_string_eql,Sem.run_bind,Sem.run_pure,Result.andThen,hv]
open Go.RowKit
abbrev Fr:=List (Nat × Value)
def lk:Fr→Nat→Option Value
  | [],_=>none
  | p :: F,i=>bif Nat.beq p.1 i then some p.2 else lk F i
def dM (F:Fr) : Operand→Option Value
  | .tmp i=>lk F i
  | .const v=>some v
  | .global g=>some (.pointer (some ⟨g,0,none⟩))
  | .func f=>some (.func (.func f) #[] #[])
def nX (F:Fr)(x:Operand) : Value:=(dM F x).getD undef
structure Ag (n:Nat) (D:List Deferred) (F:Fr) (a:Act) : Prop where
  sz:a.tmps.size=n
  df:a.defers=D
  at_:∀ i v,lk F i=some v→a.tmps[i]? = some v
def pt (d:Option Nat)(v:Value)(F:Fr) : Fr:=match d with | none=>F | some i=>(i,v) :: F
def ey (n:Nat)(d:Option Nat) : Bool:=match d with | none=>true | some i=>Nat.blt i n
theorem DH{i j:Nat}(h:i≠j) : Nat.beq i j=false:=by
  cases hb:Nat.beq i j
  · rfl
  · exact absurd (Nat.eq_of_beq_eq_true hb) h
theorem gC{i:Nat}{v:Value}{F:Fr}{j:Nat}{u:Value}(h:lk ((i,v) :: F) j=some u) : (i=j∧v=u)∨(i≠j∧lk F j=some u):=by
  unfold lk at h
  by_cases hij:i=j
  · subst hij
    left
    simpa using h
  · right
    have:Nat.beq i j=false:=DH hij
    rw[this] at h
    exact⟨hij,h⟩
section
variable {n:Nat}{D:List Deferred}{F F':Fr}{a:Act}
theorem Ag.ev(h:Ag n D F a){x:Operand}{v:Value}(hx:dM F x=some v) : a.eval x=v:=by
  cases x with
  | tmp i=>have:=h.at_ i v hx;simp[Act.eval,this]
  | const c=>exact Option.some.inj hx
  | global g=>exact Option.some.inj hx
  | func f=>exact Option.some.inj hx
theorem Ag.ov(h:Ag n D F a){x:Operand}(hx:(dM F x).isSome=true) : nX F x=a.eval x:=by
  obtain⟨v,hv⟩:=Option.isSome_iff_exists.1 hx
  rw[h.ev hv]
  simp[nX,hv]
theorem Ag.put(h:Ag n D F a){d:Option Nat}{v:Value}(hd:ey n d=true) : Ag n D (pt d v F) (a.put d v):=by
  cases d with
  | none=>exact h
  | some i =>
    have hi:i<a.tmps.size:=by rw[h.sz];simpa [ey] using hd
    refine⟨by simp[Act.put,h.sz],h.df,fun j u hj=>?_⟩
    rcases gC hj with⟨rfl,rfl⟩|⟨h1,h2⟩
    · simp[Act.put,hi]
    · simp only[Act.put]
      rw[Array.getElem?_setIfInBounds_ne h1]
      exact h.at_ _ _ h2
def mf (F:Fr) : List Nat:=F.map (·.1)
theorem AD{F:Fr}{i:Nat}{v:Value}(h:lk F i=some v) : i∈mf F:=by
  induction F with
  | nil=>cases h
  | cons p F ih =>
    rcases gC h with⟨h1,_⟩|⟨_,h2⟩
    · simp[mf,h1]
    · have:=ih h2;simp only[mf,List.map_cons,List.mem_cons] at this ⊢;exact .inr this
theorem Ag.wk(h:Ag n D F a)(hk:(mf F').map (lk F)=(mf F').map (lk F')) : Ag n D F' a :=
  ⟨h.sz,h.df,fun i v hi=>h.at_ i v ((List.map_inj_left.1 hk i (AD hi)).trans hi)⟩
def vu (ks:List Nat)(F:Fr) : Fr:=F.filter (fun p=>!(ks.any (Nat.beq p.1)))
end
structure GC (P:Program) (c:Code) (Q:Exit→Act→World→Prop) (n:Nat) (D:List Deferred) (F:Fr) (w:World) : Prop where
  out:∀ a,Ag n D F a→c.wp P Q a w
structure GQ (Q:Exit→Act→World→Prop) (e:Exit) (n:Nat) (D:List Deferred) (F:Fr) (w:World) : Prop where
  out:∀ a,Ag n D F a→Q e a w
structure GL (P:Program) (ops:Array Oper) (Q:Exit→Act→World→Prop) (l:List Oper) (n:Nat) (D:List Deferred) (F:Fr) (w:World) : Prop where
  out:∀ a,Ag n D F a→wpList P ops Q l a w
structure OG (P:Program) (o:Oper) (n:Nat) (D:List Deferred) (F:Fr) (w:World) (K:Fr→World→Prop) (Q:Exit→Act→World→Prop) : Prop where
  out:∀ a,Ag n D F a→∀ K':Act→World→Prop,(∀ F' w' a',K F' w'→Ag n D F' a'→K' a' w')→OW P o a w K' Q
section
variable {P:Program}{Q:Exit→Act→World→Prop}{n:Nat}{D:List Deferred}{F:Fr}{w:World}{ops:Array Oper}{rest l:List Oper}{x y c:Code}{nx:Act→World→Prop}{id:Nat}{R:Ending→World→Prop}{fn:Func}
theorem sq(h:GC P x (Exit.then (y.wp P Q) Q) n D F w) : GC P (.seq x y) Q n D F w:=⟨fun a ha=>wp_seq (h.out a ha)⟩
theorem bk(h:GC P c (Exit.inBlock id Q) n D F w) : GC P (.block id c) Q n D F w:=⟨fun a ha=>wp_block (h.out a ha)⟩
theorem go(h:GL P l.toArray Q l n D F w) : GC P (.region id l.toArray false) Q n D F w:=⟨fun a ha=>wp_region_lit (h.out a ha)⟩
theorem sk(h:GQ Q .normal n D F w) : GC P .skip Q n D F w:=⟨fun a ha=>wp_skip (h.out a ha)⟩
theorem rt(h:GQ Q .ret n D F w) : GC P .ret Q n D F w:=⟨fun a ha=>wp_ret (h.out a ha)⟩
theorem xt(h:GQ Q (.exit id) n D F w) : GC P (.exit id) Q n D F w:=⟨fun a ha=>wp_exit (h.out a ha)⟩
theorem nl(h:GQ Q .normal n D F w) : GL P ops Q [] n D F w:=⟨fun a ha=>h.out a ha⟩
theorem tn(h:GC P y Q n D F w) : GQ (Exit.then (y.wp P Q) Q) .normal n D F w:=⟨fun a ha=>h.out a ha⟩
theorem tr(h:GQ Q .ret n D F w) : GQ (Exit.then nx Q) .ret n D F w:=⟨fun a ha=>h.out a ha⟩
theorem tx(h:GQ Q (.exit id) n D F w) : GQ (Exit.then nx Q) (.exit id) n D F w:=⟨fun a ha=>h.out a ha⟩
theorem bn(h:GQ Q .normal n D F w) : GQ (Exit.inBlock id Q) .normal n D F w:=⟨fun a ha=>h.out a ha⟩
theorem br(h:GQ Q .ret n D F w) : GQ (Exit.inBlock id Q) .ret n D F w:=⟨fun a ha=>h.out a ha⟩
theorem bx(h:GQ Q .normal n D F w) : GQ (Exit.inBlock id Q) (.exit id) n D F w:=⟨fun a ha=>CW (h.out a ha)⟩
theorem CA{id':Nat}(h:GQ Q (.exit id') n D F w)(hne:id'≠id:=by decide) : GQ (Exit.inBlock id Q) (.exit id') n D F w:=⟨fun a ha=>CI hne (h.out a ha)⟩
theorem nt(h:GC P y Q n D F w) : GL P ops (Exit.then (y.wp P Q) Q) [] n D F w:=nl (tn h)
theorem sg(h:GL P l.toArray (Exit.then (y.wp P Q) Q) l n D F w) : GC P (.seq (.region id l.toArray false) y) Q n D F w:=sq (go h)
theorem ng(h:GL P l.toArray (Exit.then (y.wp P Q) Q) l n D F w) : GL P ops (Exit.then ((Code.seq (.region id l.toArray false) y).wp P Q) Q) [] n D F w:=nt (sg h)
theorem bU(h:GC P y Q n D F w) : GC P .skip (Exit.then (y.wp P Q) Q) n D F w:=sk (tn h)
theorem ct{c:Operand}{e:Bool}(he:e=true)(h:GC P x Q n D F w)(hv:dM F c=some (.bool e):=by kernel_rfl) : GC P (.cond c x y) Q n D F w:=⟨fun a ha=>CE e (ha.ev hv) he (h.out a ha)⟩
theorem cf{c:Operand}{e:Bool}(he:e=false)(h:GC P y Q n D F w)(hv:dM F c=some (.bool e):=by kernel_rfl) : GC P (.cond c x y) Q n D F w:=⟨fun a ha=>CJ e (ha.ev hv) he (h.out a ha)⟩
theorem c1{c:Operand}(h:GC P x Q n D F w)(hv:dM F c=some (.bool true):=by kernel_rfl) : GC P (.cond c x y) Q n D F w:=ct rfl h hv
theorem c0{c:Operand}(h:GC P y Q n D F w)(hv:dM F c=some (.bool false):=by kernel_rfl) : GC P (.cond c x y) Q n D F w:=cf rfl h hv
theorem cb{c:Operand}(e:Bool)(ht:e=true→GC P x Q n D F w)(hf:e=false→GC P y Q n D F w)(hv:dM F c=some (.bool e):=by kernel_rfl) : GC P (.cond c x y) Q n D F w:=by
  rcases gw e with q|q
  · exact ct q (ht q) hv
  · exact cf q (hf q) hv
theorem ip(F':Fr)(h:GC P c Q n D F' w)(hk:(mf F').map (lk F)=(mf F').map (lk F'):=by kernel_rfl) : GC P c Q n D F w:=⟨fun a ha=>h.out a (ha.wk hk)⟩
def vN:Nat→List Value→Fr
  | _,[]=>[]
  | i,v :: l=>(i,v) :: vN (i+1) l
theorem ql:∀ (l:List Value)(i j:Nat)(v:Value),lk (vN i l) j=some v→i≤j∧l[j-i]? = some v
  | [],_,_,_,h=>by cases h
  | u :: l,i,j,v,h=>by
    rcases gC h with⟨h1,h2⟩|⟨_,h2⟩
    · subst h1 h2;simp
    · obtain⟨h3,h4⟩:=ql l (i+1) j v h2
      refine⟨by omega,?_⟩
      rw[show j-i=(j-(i+1))+1 from by omega]
      simpa using h4
theorem DB{args:List Value}{m:Nat}:Ag (args.length+m) [] (vN 0 args) { tmps:=args.toArray++Array.replicate m undef,defers:=[] }:=by
  refine⟨by simp,rfl,fun i v h=>?_⟩
  obtain⟨_,h2⟩:=ql _ _ _ _ h
  simp only[Nat.sub_zero] at h2
  have hi:i<args.length:=(List.getElem?_eq_some_iff.1 h2).1
  rw[Array.getElem?_append_left (by simpa using hi)]
  simpa using h2
theorem en{f:FuncId}{c:Code}{args:List Value}{w:World}(n:Nat)(hf:P.funcs[f]? = some fn)(hb:fn.body=some c)
    (h:GC P c (bodyPost P fn R) n [] (vN 0 args) w) (hn:args.length+(fn.ntmps-args.length)=n:=by kernel_rfl) : Calls P f args.toArray w R:=by
  subst hn
  exact calls_of_wp hf hb (by simpa using h.out _ (DB (args:=args) (m:=fn.ntmps-args.length)))
def gd (ops:Array Oper)(F:Fr)(j:Nat) : Option Value:=((ops[j]?).bind (·.dst)).bind (lk F)
theorem BU{a:Act}{j:Nat}{v:Value}(ha:Ag n D F a)(h:gd ops F j=some v) : ((ops[j]?).bind (·.dst)).bind (a.tmps[·]?)=some v:=by
  unfold gd at h
  obtain⟨i,hi,h2⟩:=Option.bind_eq_some_iff.1 h
  rw[hi]
  exact ha.at_ _ _ h2
theorem Db{a:Act}{j:Nat}{b:Bool}(ha:Ag n D F a)(h:gd ops F j=some (.bool b)) : yielded ops a.tmps j=some b:=by
  unfold yielded
  rw[BU ha h]
def lh (ops:Array Oper)(F:Fr)(g:Option (Nat × Bool)) : Bool × Bool:=match g with
  | none=>(true,true)
  | some p=>match gd ops F p.1 with
    | some (.bool c)=>(true,c==p.2)
    | some _=>(true,false)
    | none=>(false,false)
theorem fb{a:Act}{o:Oper}{b:Bool}(ha:Ag n D F a)(h:lh ops F o.guard=(true,b)) : Region.wanted o (yielded ops a.tmps)=b:=by
  unfold lh at h
  unfold Region.wanted
  cases hg:o.guard with
  | none=>rw[hg] at h;simpa using h
  | some p =>
    rw[hg] at h
    obtain⟨j,c⟩:=p
    simp only at h ⊢
    cases hv:gd ops F j with
    | none=>rw[hv] at h;simp at h
    | some v =>
      rw[hv] at h
      unfold yielded
      rw[BU ha hv]
      cases v<;>simp at h ⊢<;>first | exact h | (subst h;rfl) | (rw[← h];simp)
theorem L0{d:Option Tmp}{op:Op}{t:TypeId}{s:String}{af:Array Edge}(h:OG P ⟨d,op,t,s,af,none⟩ n D F w (GL P ops Q rest n D) Q) : GL P ops Q (⟨d,op,t,s,af,none⟩ :: rest) n D F w :=
  ⟨fun a ha=>(Do rfl (h.out a ha (WL P ops Q rest) fun _ _ a' k ha'=>⟨k.out a' ha'⟩)).out⟩
theorem L1{d:Option Tmp}{op:Op}{t:TypeId}{s:String}{af:Array Edge}{j:Nat}{b:Bool}(h:OG P ⟨d,op,t,s,af,some (j,b)⟩ n D F w (GL P ops Q rest n D) Q)(hg:gd ops F j=some (.bool b):=by kernel_rfl) : GL P ops Q (⟨d,op,t,s,af,some (j,b)⟩ :: rest) n D F w :=
  ⟨fun a ha=>(CV (uH rfl (Db ha hg) rfl) (h.out a ha (WL P ops Q rest) fun _ _ a' k ha'=>⟨k.out a' ha'⟩)).out⟩
def mb (F:Fr)(x:Operand) : Bool:=(dM F x).isSome
def je (F:Fr) : Op→Bool
  | .move x | .assign x | .nilCheck x | .unOp _ _ x | .convert _ _ x | .makeInterface _ x | .fieldAddr _ x _ | .field _ x _ | .extract x _ | .box _ x | .load _ x=>mb F x
  | .pick c x y=>mb F c&&mb F x&&mb F y
  | .binOp _ _ x y _ | .store _ x y | .indexAddr _ x y | .index _ x y | .makeSlice _ x y=>mb F x&&mb F y
  | .build _ ps | .buildSlice _ _ ps=>ps.toList.all fun p=>mb F p.2
  | .makeFunc _ p q=>p.toList.all (mb F)&&q.toList.all (mb F)
  | .slice _ x l h m=>mb F x&&l.all (mb F)&&h.all (mb F)&&m.all (mb F)
  | .call c=>(match c.callee with | .builtin _=>true | .value f=>mb F f | _=>false)&&c.args.toList.all (mb F)
  | _=>false
theorem ik{a:Act}{o:Oper}(ha:Ag n D F a)(h:je F o.op=true) : execOp (nX F) o=execOp a.eval o:=by
  refine execOp_congr o (fun cs b e=>by rw[e] at h;cases h) fun x hx=>ha.ov ?_
  obtain⟨dst,op,type,pos,after,guard⟩:=o
  have hall:∀ (ps:Array Operand),ps.toList.all (mb F)=true→x∈ps→(dM F x).isSome=true:=fun ps hp hm=>by
    have:=List.all_eq_true.1 hp x (by simpa using hm)
    exact this
  cases op<;>simp only[je,Op.operands,Bool.and_eq_true] at h hx<;>try contradiction
  case build t ps =>
    simp at hx
    obtain⟨i,hp⟩:=hx
    exact List.all_eq_true.1 h (i,x) (by simpa using hp)
  case buildSlice t m ps =>
    simp at hx
    obtain⟨i,hp⟩:=hx
    exact List.all_eq_true.1 h (i,x) (by simpa using hp)
  case makeFunc f p q =>
    rcases Array.mem_append.1 hx with hx|hx
    · exact hall _ h.1 hx
    · exact hall _ h.2 hx
  case slice t y lo hi mx =>
    obtain⟨⟨⟨h1,h2⟩,h3⟩,h4⟩:=h
    simp only[mb] at h1
    cases lo<;>cases hi<;>cases mx<;>simp[mb] at hx h2 h3 h4<;>(try rcases hx with rfl | rfl | rfl | rfl)<;>(try rcases hx with rfl | rfl | rfl)<;>(try rcases hx with rfl | rfl)<;>(try subst hx)<;>assumption
  case call c =>
    simp only[Call.operands] at hx
    rcases Array.mem_append.1 hx with hx|hx
    · revert h hx
      cases c.callee<;>intro h hx<;>simp at hx h
      subst hx
      exact h.1
    · exact hall _ h.2 hx
  all_goals (simp only[mb,Bool.and_eq_true] at h;simp at hx;(try rcases hx with rfl | rfl | rfl)<;>(try rcases hx with rfl | rfl)<;>(try subst hx)<;>first | exact h | exact h.1 | exact h.2 | exact h.1.1 | exact h.1.2)
def vo (P:Program)(w:World)(F:Fr)(o:Oper) : Value:=match (execOp (nX F) o).run P w with
  | .ok (.value v) _=>v
  | _=>undef
def s5 (P:Program)(ops:Array Oper)(w:World)(F:Fr)(o:Oper) : Fr:=bif (lh ops F o.guard).2 then pt o.dst (vo P w F o) F else pt o.dst undef F
def rn (P:Program)(ops:Array Oper)(w:World) : Nat→List Oper→Fr→Fr
  | 0,_,F=>F
  | _+1,[],F=>F
  | k+1,o :: l,F=>rn P ops w k l (s5 P ops w F o)
def rW (P:Program)(ops:Array Oper)(w:World)(n:Nat) : Nat→List Oper→Fr→List ((Bool × Bool) × Result Next)
  | 0,_,_=>[]
  | _+1,[],_=>[((false,false),.ok .skip w)]
  | k+1,o :: l,F=>(((lh ops F o.guard).1,ey n o.dst&&(bif (lh ops F o.guard).2 then je F o.op else true)),bif (lh ops F o.guard).2 then (execOp (nX F) o).run P w else .ok .skip w) :: rW P ops w n k l (s5 P ops w F o)
def rO (P:Program)(ops:Array Oper)(w:World) : Nat→List Oper→Fr→List ((Bool × Bool) × Result Next)
  | 0,_,_=>[]
  | _+1,[],_=>[((true,true),.ok .skip w)]
  | k+1,o :: l,F=>((true,true),bif (lh ops F o.guard).2 then .ok (.value (vo P w F o)) w else .ok .skip w) :: rO P ops w k l (s5 P ops w F o)
theorem Pl(k:Nat)(h:GL P ops Q (l.drop k) n D (rn P ops w k l F) w)(hc:rW P ops w n k l F=rO P ops w k l F:=by kernel_rfl) : GL P ops Q l n D F w:=by
  induction k generalizing l F with
  | zero=>exact h
  | succ k ih =>
    cases l with
    | nil=>simp[rW,rO] at hc
    | cons o l =>
      simp only[rW,rO,List.cons.injEq,Prod.mk.injEq,Bool.and_eq_true] at hc
      obtain⟨⟨⟨h1,h2,h3⟩,h4⟩,h5⟩:=hc
      have h6:=ih (l:=l) (F:=s5 P ops w F o) (by simpa [rn] using h) h5
      refine⟨fun a ha=>?_⟩
      cases hon:(lh ops F o.guard).2 with
      | true =>
        rw[hon] at h3 h4
        simp only[cond_true] at h3 h4
        have hw:Region.wanted o (yielded ops a.tmps)=true:=fb ha (Prod.ext h1 hon)
        have hst:s5 P ops w F o=pt o.dst (vo P w F o) F:=by simp[s5,hon]
        rw[hst] at h6
        exact(CV hw (f9 (N:=o.dst) (vo P w F o) rfl (by rw[← ik ha h3];exact h4) ⟨h6.out _ (ha.put h2)⟩)).out
      | false =>
        have hw:Region.wanted o (yielded ops a.tmps)=false:=fb ha (Prod.ext h1 hon)
        have hst:s5 P ops w F o=pt o.dst undef F:=by simp[s5,hon]
        rw[hst] at h6
        exact(CP (N:=o.dst) hw rfl ⟨h6.out _ (ha.put h2)⟩).out
theorem au(k:Nat)(h:GL P l.toArray (Exit.then (y.wp P Q) Q) (l.drop k) n D (rn P l.toArray w k l F) w)(hc:rW P l.toArray w n k l F=rO P l.toArray w k l F:=by kernel_rfl) : GC P (.seq (.region id l.toArray false) y) Q n D F w:=sg (Pl k h hc)
theorem aS(k:Nat)(h:GL P l.toArray (Exit.then (y.wp P Q) Q) (l.drop k) n D (rn P l.toArray w k l F) w)(hc:rW P l.toArray w n k l F=rO P l.toArray w k l F:=by kernel_rfl) : GL P ops (Exit.then ((Code.seq (.region id l.toArray false) y).wp P Q) Q) [] n D F w:=ng (Pl k h hc)
theorem al(k:Nat)(h:GC P y Q n D (rn P ops w k l F) w)(hc:rW P ops w n k l F=rO P ops w k l F:=by kernel_rfl)(hd:l.drop k=[]:=by kernel_rfl) : GL P ops (Exit.then (y.wp P Q) Q) l n D F w:=Pl k (by rw[hd];exact nt h) hc
theorem ay(k:Nat)(h:GC P y Q n D (rn P l.toArray w k l F) w)(hc:rW P l.toArray w n k l F=rO P l.toArray w k l F:=by kernel_rfl)(hd:l.drop k=[]:=by kernel_rfl) : GC P (.seq (.region id l.toArray false) y) Q n D F w:=sg (al k h hc hd)
theorem dl(k:Nat)(h:GC P y Q n D (rn P l.toArray w k l F) w)(hc:rW P l.toArray w n k l F=rO P l.toArray w k l F:=by kernel_rfl)(hd:l.drop k=[]:=by kernel_rfl) : GL P ops (Exit.then ((Code.seq (.region id l.toArray false) y).wp P Q) Q) [] n D F w:=ng (al k h hc hd)
theorem qQ(h:GQ Q .ret n D F w) : GL P ops (Exit.then (Code.ret.wp P Q) Q) [] n D F w:=nt (rt h)
theorem bJ(h:GQ Q .ret n D F w) : GC P .ret (Exit.then nx Q) n D F w:=rt (tr h)
theorem bl(j:Nat)(e:Bool)(ht:e=true→GL P ops Q l n D ((j,.bool true) :: F) w)(hf:e=false→GL P ops Q l n D ((j,.bool false) :: F) w)(hv:lk F j=some (.bool e):=by kernel_rfl) : GL P ops Q l n D F w:=by
  refine⟨fun a ha=>?_⟩
  have key:∀ b,e=b→Ag n D ((j,.bool b) :: F) a:=fun b hb=>⟨ha.sz,ha.df,fun i v hi=>by
    rcases gC hi with⟨rfl,rfl⟩|⟨_,h2⟩
    · rw[← hb];exact ha.at_ _ _ hv
    · exact ha.at_ _ _ h2⟩
  rcases gw e with q|q
  · exact(ht q).out a (key _ q)
  · exact(hf q).out a (key _ q)
theorem sy(j:Nat){e b:Bool}(q:e=b)(h:GL P ops Q l n D ((j,.bool b) :: F) w)(hv:lk F j=some (.bool e):=by kernel_rfl) : GL P ops Q l n D F w:=by
  subst q
  refine⟨fun a ha=>h.out a ⟨ha.sz,ha.df,fun i v hi=>?_⟩⟩
  rcases gC hi with⟨rfl,rfl⟩|⟨_,h2⟩
  · exact ha.at_ _ _ hv
  · exact ha.at_ _ _ h2
theorem cu(k:Nat)(ks:List Nat)(j:Nat)(r:Bool)(h:∀ K:Act→World→Prop,(∀ a,Ag n D ((j,.bool r) :: vu ks F) a→K a w)→GL P ops (Exit.then K Q) (l.take k) n D F w)
    (hk:GL P ops Q (l.drop k) n D ((j,.bool r) :: vu ks F) w) : GL P ops Q l n D F w:=by
  refine⟨fun a ha=>?_⟩
  have:=eq (P:=P) (Q:=Q) (ops:=ops) (l.drop k) (l.take k) a w ((h (wpList P ops Q (l.drop k)) fun a' ha'=>hk.out a' ha').out a ha)
  rwa [List.take_append_drop] at this
theorem ce{K:Act→World→Prop}{j:Nat}{r:Bool}{F0:Fr}(hK:∀ a,Ag n D ((j,.bool r) :: F0) a→K a w)(t:Bool)(hr:r=t)(hk:(mf ((j,.bool t) :: F0)).map (lk F)=(mf ((j,.bool t) :: F0)).map (lk ((j,.bool t) :: F0)):=by kernel_rfl) : GL P ops (Exit.then K Q) [] n D F w:=by
  subst hr
  exact⟨fun a ha=>hK a (ha.wk hk)⟩
theorem iB{α:Type}(k:Nat)(l:List α) : (l.take k).drop k=[]:=by simp
theorem xG(k:Nat)(ks:List Nat)(j i:Nat)(e f:Bool)(h:∀ K:Act→World→Prop,(∀ a,Ag n D ((j,.bool f) :: vu ks F) a→K a w)→e=false→GL P ops (Exit.then K Q) (l.take k) n D ((i,.bool false) :: F) w)
    (hk:GL P ops Q (l.drop k) n D ((j,.bool (e || f)) :: vu ks F) w) (hv:lk F i=some (.bool e):=by kernel_rfl) (hc:rW P ops w n k (l.take k) ((i,.bool true) :: F)=rO P ops w k (l.take k) ((i,.bool true) :: F):=by kernel_rfl)
    (hm:(mf ((j,.bool true) :: vu ks F)).map (lk (rn P ops w k (l.take k) ((i,.bool true) :: F)))=(mf ((j,.bool true) :: vu ks F)).map (lk ((j,.bool true) :: vu ks F)):=by kernel_rfl) : GL P ops Q l n D F w :=
  cu k ks j (e || f) (fun K hK=>bl i e (fun q=>Pl k (by rw[iB];exact ce hK true (by rw[q];rfl) hm) hc) (fun q=>h K (fun a ha=>hK a (by rw[q];exact ha)) q) hv) hk
theorem gy(k:Nat)(ks:List Nat)(j i:Nat)(e f:Bool)(h:∀ K:Act→World→Prop,(∀ a,Ag n D ((j,.bool f) :: vu ks F) a→K a w)→e=true→GL P ops (Exit.then K Q) (l.take k) n D ((i,.bool true) :: F) w)
    (hk:GL P ops Q (l.drop k) n D ((j,.bool (e&&f)) :: vu ks F) w) (hv:lk F i=some (.bool e):=by kernel_rfl) (hc:rW P ops w n k (l.take k) ((i,.bool false) :: F)=rO P ops w k (l.take k) ((i,.bool false) :: F):=by kernel_rfl)
    (hm:(mf ((j,.bool false) :: vu ks F)).map (lk (rn P ops w k (l.take k) ((i,.bool false) :: F)))=(mf ((j,.bool false) :: vu ks F)).map (lk ((j,.bool false) :: vu ks F)):=by kernel_rfl) : GL P ops Q l n D F w :=
  cu k ks j (e&&f) (fun K hK=>bl i e (fun q=>h K (fun a ha=>hK a (by rw[q];exact ha)) q) (fun q=>Pl k (by rw[iB];exact ce hK false (by rw[q];rfl) hm) hc) hv) hk
theorem js{ι:Type}(G:ι→Fr)(J:ι→World→Prop)(μ:ι→Nat)(x0:ι)(h0:J x0 w)(round:∀ x w,J x w→GC P c (Exit.then (fun a' w'=>∃ y,Ag n D (G y) a'∧J y w'∧μ y<μ x) Q) n D (G x) w)
    (hk:(mf (G x0)).map (lk F)=(mf (G x0)).map (lk (G x0)):=by kernel_rfl) : GC P (.loop c) Q n D F w:=by
  refine⟨fun a ha=>lp (fun x a w=>Ag n D (G x) a∧J x w) μ x0 ⟨ha.wk hk,h0⟩ fun x a w hI=>?_⟩
  refine wp_mono ((round x w hI.2).out a hI.1) fun e a' w' q=>?_
  cases e with
  | normal=>obtain⟨y,h1,h2,h3⟩:=q;exact⟨y,⟨h1,h2⟩,h3⟩
  | _=>exact q
theorem fM{ι:Type}{G:ι→Fr}{J:ι→World→Prop}{μ:ι→Nat}{x:ι}(y:ι)(h:J y w)(hm:μ y<μ x)(hk:(mf (G y)).map (lk F)=(mf (G y)).map (lk (G y)):=by kernel_rfl) : GQ (Exit.then (fun a' w'=>∃ y,Ag n D (G y) a'∧J y w'∧μ y<μ x) Q) .normal n D F w :=
  ⟨fun a ha=>⟨y,ha.wk hk,h,hm⟩⟩
theorem Cx{ι:Type}(G:ι→Fr)(J:ι→World→Prop)(hy:∀ i w,J i w→GC P y Q n D (G i) w)(hx:GC P x (Exit.then (fun a' w'=>∃ i,Ag n D (G i) a'∧J i w') Q) n D F w) : GC P (.seq x y) Q n D F w :=
  sq ⟨fun a ha=>wp_mono (hx.out a ha) fun e a' w' q=>by
    cases e with
    | normal=>obtain⟨i,h1,h2⟩:=q;exact(hy i w' h2).out a' h1
    | _=>exact q⟩
theorem jn{ι:Type}{G:ι→Fr}{J:ι→World→Prop}(i:ι)(h:J i w)(hk:(mf (G i)).map (lk F)=(mf (G i)).map (lk (G i)):=by kernel_rfl) : GQ (Exit.then (fun a' w'=>∃ i,Ag n D (G i) a'∧J i w') Q) .normal n D F w:=⟨fun a ha=>⟨i,ha.wk hk,h⟩⟩
theorem Du{ι:Type}{x1 x2 x3:Code}(G:ι→Fr)(J:ι→World→Prop)(hy:∀ i w,J i w→GC P y Q n D (G i) w)(k:(∀ (i:ι){F':Fr}{w':World}(_:J i w')(_:(mf (G i)).map (lk F')=(mf (G i)).map (lk (G i)):=by kernel_rfl),GC P y Q n D F' w')→GC P (.seq x1 (.seq x2 (.seq x3 y))) Q n D F w) : GC P (.seq x1 (.seq x2 (.seq x3 y))) Q n D F w :=
  k fun i _ w' h hk=>⟨fun a ha=>(hy i w' h).out a (ha.wk hk)⟩
end
section
variable {P:Program}{Q:Exit→Act→World→Prop}{n:Nat}{D:List Deferred}{F:Fr}{w:World}{K:Fr→World→Prop}{d:Option Tmp}{op:Op}{t:TypeId}{s:String}{af:Array Edge}{gu:Option (Nat × Bool)}
theorem eH{a b:Bool}(h:(a&&b)=true) : a=true∧b=true:=by simpa using h
theorem Oe(v0 v:Value)(he:v0=v)(h:K (pt d v F) w)(hr:(execOp (nX F) ⟨d,op,t,s,af,gu⟩).run P w = .ok (.value v0) w:=by kernel_rfl)(hs:(je F op&&ey n d)=true:=by kernel_rfl) : OG P ⟨d,op,t,s,af,gu⟩ n D F w K Q:=by
  subst he
  have hs:=eH hs
  exact⟨fun a ha K' hK=>f9 _ rfl (by rw[← ik ha hs.1];exact hr) (hK _ _ _ h (ha.put hs.2))⟩
theorem Oi(x:Int)(h:K (pt d (.int .i64 x) F) w)(hb : -9223372036854775808≤x∧x≤9223372036854775807:=by omega)(hr:(execOp (nX F) ⟨d,op,t,s,af,gu⟩).run P w = .ok (.value (.int .i64 (IntKind.i64.wrap x))) w:=by kernel_rfl)(hs:(je F op&&ey n d)=true:=by kernel_rfl) : OG P ⟨d,op,t,s,af,gu⟩ n D F w K Q :=
  Oe _ _ (congrArg (Value.int .i64) (IntWalk.i64_in _ (by omega))) h hr hs
theorem DW(x:Int)(h:K (pt d (.int .u16 x) F) w)(hb:0≤x∧x<65536:=by omega)(hr:(execOp (nX F) ⟨d,op,t,s,af,gu⟩).run P w = .ok (.value (.int .u16 (IntKind.u16.wrap x))) w:=by kernel_rfl)(hs:(je F op&&ey n d)=true:=by kernel_rfl) : OG P ⟨d,op,t,s,af,gu⟩ n D F w K Q :=
  Oe _ _ (congrArg (Value.int .u16) (rI hb)) h hr hs
theorem iq(v:Value)(hr:(execOp (nX F) ⟨d,op,t,s,af,gu⟩).run P w = .ok (.value v) w)(h:K (pt d v F) w)(hs:(je F op&&ey n d)=true:=by kernel_rfl) : OG P ⟨d,op,t,s,af,gu⟩ n D F w K Q:=Oe v v rfl h hr hs
theorem m8{ty:TypeId}{x:Operand}{p:Addr}{v:Value}(hc:w.cell? p=some v)(h:K (pt d v F) w)(hx:dM F x=some (.pointer (some p)):=by kernel_rfl)(hs:(eT P ty&&ey n d)=true:=by kernel_rfl) : OG P ⟨d,.load ty x,t,s,af,gu⟩ n D F w K Q :=
  ⟨fun a ha K' hK=>Cb v rfl rfl (ha.ev hx) (eH hs).1 hc (hK _ _ _ h (ha.put (eH hs).2))⟩
theorem ii{ty ty':TypeId}{x:Operand}{b:Nat}{cs:Array Value}{fr:Nat × Nat}(B:w.heap[b]? = some (.cells cs ty' fr))(off:Nat)(h:K (pt d (cs.getD off undef) F) w)(hx:dM F x=some (.pointer (some ⟨b,off,none⟩)):=by kernel_rfl)(hs:(eT P ty&&ey n d)=true:=by kernel_rfl)(hl:Nat.blt off cs.size=true:=by kernel_rfl) : OG P ⟨d,.load ty x,t,s,af,gu⟩ n D F w K Q :=
  m8 (ae B (by
    have:off<cs.size:=by simpa using hl
    simp[Array.getD,this])) h hx hs
theorem Cf{ty ty':TypeId}{x:Operand}{b:Nat}{cs:Array Value}{fr:Nat × Nat}(B:w.heap[b]? = some (.cells cs ty' fr))(off k:Nat)(h:K (pt d (.agg ((cs.toList.drop off).take k).toArray) F) w)(hx:dM F x=some (.pointer (some ⟨b,off,none⟩)):=by kernel_rfl)
    (hs:((P.underlying ty).map (·.isRow),(P.info? ty).map (·.size),ey n d)=(some true,some ((cs.toList.drop off).take k).length,true):=by kernel_rfl) : OG P ⟨d,.load ty x,t,s,af,gu⟩ n D F w K Q:=by
  simp only[Prod.mk.injEq] at hs
  exact⟨fun a ha K' hK=>xY _ rfl rfl (ha.ev hx) B hs.1 hs.2.1 (by simp[List.take_take]) (hK _ _ _ h (ha.put hs.2.2))⟩
theorem cH{ty ty':TypeId}{x:Operand}{b:Nat}{cs:Array Value}{fr:Nat × Nat}(B:w.heap[b]? = some (.cells cs ty' fr))(h:K (pt d (.agg cs) F) w)(hz:(P.info? ty).map (·.size)=some cs.size:=by kernel_rfl)(hx:dM F x=some (.pointer (some ⟨b,0,none⟩)):=by kernel_rfl)
    (hs:((P.underlying ty).map (·.isRow),ey n d)=(some true,true):=by kernel_rfl) : OG P ⟨d,.load ty x,t,s,af,gu⟩ n D F w K Q:=by
  simp only[Prod.mk.injEq] at hs
  exact⟨fun a ha K' hK=>Bf rfl rfl (ha.ev hx) B hs.1 hz (hK _ _ _ h (ha.put hs.2))⟩
theorem cv{ty t':TypeId}{x y:Operand}{b:Nat}{cs:Array Value}(B:w.heap[b]? = some (.cells cs t' (0,0)))(off:Nat)(cs':Array Value)(h:∀ w',w'.heap[b]? = some (.cells cs' t' (0,0))→ap [b] w w'→K (pt d undef F) w')
    (hx:dM F x=some (.pointer (some ⟨b,off,none⟩)):=by kernel_rfl) (hl:Nat.blt off cs.size=true:=by kernel_rfl) (hs:((P.info? ty).map (·.size),(mb F y&&ey n d)&&(nX F y).oneCell')=(some 1,true):=by kernel_rfl) (hc:cs.setIfInBounds off (nX F y)=cs':=by kernel_rfl) : OG P ⟨d,.store ty x y,t,s,af,gu⟩ n D F w K Q:=by
  simp only[Prod.mk.injEq] at hs
  have h2:=eH hs.2
  have h3:=eH h2.1
  exact⟨fun a ha K' hK=>Aa (nX F y) cs' rfl rfl (ha.ev hx) (ha.ov h3.1).symm B hl hs.1 h2.2 hc fun w' hB hu=>hK _ _ _ (h w' hB hu) (ha.put h3.2)⟩
theorem qv{ty t':TypeId}{x y:Operand}{b:Nat}{cs:Array Value}(B:w.heap[b]? = some (.cells cs t' (0,0)))(vs:Array Value)(h:∀ w',w'.heap[b]? = some (.cells vs t' (0,0))→ap [b] w w'→K (pt d undef F) w')
    (hz:(P.info? ty).map (·.size)=some vs.size:=by kernel_rfl) (h1:vs.all (·.oneCell')=true:=by kernel_rfl) (hv:vs.size=cs.size:=by kernel_rfl) (hx:dM F x=some (.pointer (some ⟨b,0,none⟩)):=by kernel_rfl) (hy:dM F y=some (.agg vs):=by kernel_rfl) (hs:ey n d=true:=by kernel_rfl) : OG P ⟨d,.store ty x y,t,s,af,gu⟩ n D F w K Q :=
  ⟨fun a ha K' hK=>Ay vs rfl rfl (ha.ev hx) (ha.ev hy) B hz hv h1 fun w' hB hu=>hK _ _ _ (h w' hB hu) (ha.put hs)⟩
theorem zW{ty:TypeId}(cs:Array Value)(h:∀ g w',w.heap.size≤g→w'.heap[g]? = some (.cells cs ty (0,0))→ap [] w w'→K (pt d (.pointer (some ⟨g,0,none⟩)) F) w')
    (hz:(P.info? ty).bind (fun i=>i.zero.map (·.cells))=some cs:=by kernel_rfl) (hs:ey n d=true:=by kernel_rfl) : OG P ⟨d,.alloc ty,t,s,af,gu⟩ n D F w K Q :=
  ⟨fun a ha K' hK=>xC cs rfl rfl hz fun g w' hg hB hu=>hK _ _ _ (h g w' hg hB hu) (ha.put hs)⟩
theorem cU{ty:TypeId}{x:Operand}(cs:Array Value)(h:∀ g w',w.heap.size≤g→w'.heap[g]? = some (.cells cs ty (0,0))→ap [] w w'→K (pt d (.pointer (some ⟨g,0,none⟩)) F) w')
    (hz:(nX F x).cells=cs:=by kernel_rfl) (hs:(mb F x&&ey n d)=true:=by kernel_rfl) : OG P ⟨d,.box ty x,t,s,af,gu⟩ n D F w K Q :=
  ⟨fun a ha K' hK=>AM cs rfl rfl (by rw[← ha.ov (eH hs).1];exact hz) fun g w' hg hB hu=>hK _ _ _ (h g w' hg hB hu) (ha.put (eH hs).2)⟩
theorem dv{e:TypeId}{m:Nat}(cs:Array Value)(h:∀ g w',w.heap.size≤g→w'.heap[g]? = some (.cells cs e (0,0))→ap [] w w'→K (pt d (.slice (some ⟨g,0,none⟩) m m) F) w')
    (hr:(execOp (nX F) ⟨d,op,t,s,af,gu⟩).run P w = .ok (.value (.slice (some ⟨w.heap.size,0,none⟩) m m)) (w.alloc (.cells cs e)):=by kernel_rfl) (hs:(je F op&&ey n d)=true:=by kernel_rfl) : OG P ⟨d,op,t,s,af,gu⟩ n D F w K Q :=
  ⟨fun a ha K' hK=>AN cs rfl (by rw[← ik ha (eH hs).1];exact hr) fun g w' hg hB hu=>hK _ _ _ (h g w' hg hB hu) (ha.put (eH hs).2)⟩
theorem zq{ty:TypeId}(h:∀ g w',w.heap.size≤g→w'.heap[g]? = some (.map #[] 0)→ap [] w w'→K (pt d (.map (some g)) F) w')(hs:ey n d=true:=by kernel_rfl) : OG P ⟨d,.makeMap ty none,t,s,af,gu⟩ n D F w K Q :=
  ⟨fun a ha K' hK=>Ai rfl rfl fun g w' hg hB hu=>hK _ _ _ (h g w' hg hB hu) (ha.put hs)⟩
def nH (P:Program)(ty:TypeId) : Option IntKind:=match P.underlying ty with | some (.map kt _)=>(match P.underlying kt with | some (.int q)=>some q | _=>none) | _=>none
def lC (P:Program)(ty:TypeId) : IntKind:=(nH P ty).getD .i64
theorem jw{ty:TypeId}(h:(nH P ty).isSome=true) : nH P ty=some (lC P ty):=by
  obtain⟨q,hq⟩:=Option.isSome_iff_exists.1 h
  simp[lC,hq]
def ya (P:Program)(ty:TypeId) : TypeId:=match P.underlying ty with | some (.map _ e)=>e | _=>0
theorem it{ty:TypeId}{q:IntKind}(h:nH P ty=some q) : ∃ kt,P.underlying ty=some (.map kt (ya P ty))∧P.underlying kt=some (.int q):=by
  unfold nH at h
  unfold ya
  split at h
  · rename_i kt e he
    split at h
    · rename_i q' hq
      refine⟨kt,by simp[he],?_⟩
      rw[hq]
      simpa using h
    · cases h
  · cases h
theorem gM{ty:TypeId}{m k x:Operand}{r:Nat}{es:Array MapEntry}{clk:Nat}(B:w.heap[r]? = some (.map es clk))(z:Int)(h:∀ w',w'.heap[r]? = some (.map (es.push ⟨.int (lC P ty) z,nX F x,clk⟩) (clk+1))→ap [r] w w'→K (pt d undef F) w')
    (hq:(nH P ty).isSome=true:=by kernel_rfl) (hm:dM F m=some (.map (some r)):=by kernel_rfl) (hk:dM F k=some (.int (lC P ty) z):=by kernel_rfl) (hs:(mb F x&&ey n d)=true:=by kernel_rfl)
    (hn:Instr.findNow (.int (lC P ty)) (.int (lC P ty) z) es.toList 0=some none:=by kernel_rfl) : OG P ⟨d,.insert ty m k x,t,s,af,gu⟩ n D F w K Q:=by
  obtain⟨kt,h1,h2⟩:=it (jw hq)
  exact⟨fun a ha K' hK=>AT z (nX F x) _ _ rfl rfl h1 h2 (ha.ev hm) B (ha.ev hk) (ha.ov (eH hs).1).symm hn rfl rfl fun w' hB hu=>hK _ _ _ (h w' hB hu) (ha.put (eH hs).2)⟩
theorem BG{es:Array MapEntry}{q:IntKind}{x:Int}{r:Option (Nat × Value)}(l:Array MapEntry)(h:Instr.findNow (.int q) (.int q x) l.toList 0=some r)(he:es=l:=by kernel_rfl) : Instr.findNow (.int q) (.int q x) es.toList 0=some r:=he▸h
theorem Cs{es:Array MapEntry}{q:IntKind}{x:Int}(l:Array MapEntry)(h:Instr.findNow (.int q) (.int q x) l.toList 0=some none)(he:es=l:=by kernel_rfl) : Instr.findNow (.int q) (.int q x) es.toList 0=some none:=he▸h
theorem o8{ty:TypeId}{m k:Operand}{c:Bool}{r:Nat}{es:Array MapEntry}{clk:Nat}(B:w.heap[r]? = some (.map es clk))(x:Int)(z:Value)(res:Option (Nat × Value))(h:K (pt d (if c then .tuple #[(res.map (·.2)).getD z,.bool res.isSome] else (res.map (·.2)).getD z) F) w)
    (hf:Instr.findNow (.int (lC P ty)) (.int (lC P ty) x) es.toList 0=some res:=by kernel_rfl) (hq:(nH P ty).isSome=true:=by kernel_rfl) (hm:dM F m=some (.map (some r)):=by kernel_rfl) (hk:dM F k=some (.int (lC P ty) x):=by kernel_rfl) (hs:ey n d=true:=by kernel_rfl)
    (hz:(zeroValue (ya P ty)).run P w = .ok z w:=by kernel_rfl) : OG P ⟨d,.lookup ty m k c,t,s,af,gu⟩ n D F w K Q:=by
  obtain⟨kt,h1,h2⟩:=it (jw hq)
  exact⟨fun a ha K' hK=>sX x z res _ rfl rfl h1 h2 (ha.ev hm) B (ha.ev hk) hz hf rfl (hK _ _ _ h (ha.put hs))⟩
def ol (P:Program)(ty:TypeId) : Option TypeId:=match P.underlying ty with | some (.slice e)=>some e | _=>none
theorem dS{ty e:TypeId}(h:ol P ty=some e) : P.underlying ty=some (.slice e):=by
  unfold ol at h
  split at h
  · rename_i e' he;rw[he];simpa using h
  · cases h
def Ac (F:Fr)(x:Operand) : Option (Option Addr × Nat):=match dM F x with | some (.slice A m _)=>some (A,m) | _=>none
def zz (F:Fr)(x:Operand) : Option Int:=match dM F x with | some (.int _ i)=>some i | _=>none
theorem pL{x:Operand}{A:Option Addr}{m:Nat}(h:Ac F x=some (A,m)) : ∃ c,dM F x=some (.slice A m c):=by
  unfold Ac at h
  split at h
  · rename_i A' m' c he
    simp only[Option.some.injEq,Prod.mk.injEq] at h
    exact⟨c,by rw[he,h.1,h.2]⟩
  · cases h
theorem lZ{x:Operand}{i:Int}(h:zz F x=some i) : ∃ k,dM F x=some (.int k i):=by
  unfold zz at h
  split at h
  · rename_i k i' he
    exact⟨k,by rw[he];simpa using h⟩
  · cases h
theorem BL{ty:TypeId}{x ix:Operand}{b off:Nat}(sz m j:Nat)(i:Int)(hj:i=j){A:Option Addr}(hA:A=some ⟨b,off,none⟩)(hlt:j<m)(h:K (pt d (.pointer (some ⟨b,off+j*sz,none⟩)) F) w)
    (hx:Ac F x=some (A,m):=by kernel_rfl) (hi:zz F ix=some i:=by kernel_rfl) (hs:(((ol P ty).bind P.info?).map (·.size),ey n d)=(some sz,true):=by kernel_rfl) : OG P ⟨d,.indexAddr ty x ix,t,s,af,gu⟩ n D F w K Q:=by
  simp only[Prod.mk.injEq] at hs
  obtain⟨c,hx⟩:=pL hx
  obtain⟨k,hi⟩:=lZ hi
  cases he:ol P ty with
  | none=>rw[he] at hs;simp at hs
  | some e =>
    rw[he] at hs
    exact⟨fun a ha K' hK=>Av sz rfl rfl (dS he) hs.1 (ha.ev hx) (ha.ev hi) hj hlt hA (hK _ _ _ h (ha.put hs.2))⟩
theorem oO{ty:TypeId}{x ix:Operand}{b off:Nat}(sz m j:Nat){A:Option Addr}(hA:A=some ⟨b,off,none⟩)(hlt:j<m)(h:K (pt d (.pointer (some ⟨b,off+j*sz,none⟩)) F) w)
    (hx:Ac F x=some (A,m):=by kernel_rfl) (hi:zz F ix=some (j:Int):=by kernel_rfl) (hs:(((ol P ty).bind P.info?).map (·.size),ey n d)=(some sz,true):=by kernel_rfl) : OG P ⟨d,.indexAddr ty x ix,t,s,af,gu⟩ n D F w K Q:=BL sz m j _ rfl hA hlt h hx hi hs
theorem CG{ty:TypeId}{x ix:Operand}{b off:Nat}(m j:Nat)(i:Int)(hj:i=j){A:Option Addr}(hA:A=some ⟨b,off,none⟩)(hlt:j<m)(h:K (pt d (.pointer (some ⟨b,off+j,none⟩)) F) w)
    (hx:Ac F x=some (A,m):=by kernel_rfl) (hi:zz F ix=some i:=by kernel_rfl) (hs:(((ol P ty).bind P.info?).map (·.size),ey n d)=(some 1,true):=by kernel_rfl) : OG P ⟨d,.indexAddr ty x ix,t,s,af,gu⟩ n D F w K Q:=BL 1 m j _ hj hA hlt (by rwa [Nat.mul_one]) hx hi hs
theorem pf{ty:TypeId}{x ix:Operand}{b off:Nat}(m j:Nat){A:Option Addr}(hA:A=some ⟨b,off,none⟩)(hlt:j<m)(h:K (pt d (.pointer (some ⟨b,off+j,none⟩)) F) w)
    (hx:Ac F x=some (A,m):=by kernel_rfl) (hi:zz F ix=some (j:Int):=by kernel_rfl) (hs:(((ol P ty).bind P.info?).map (·.size),ey n d)=(some 1,true):=by kernel_rfl) : OG P ⟨d,.indexAddr ty x ix,t,s,af,gu⟩ n D F w K Q:=CG m j _ rfl hA hlt h hx hi hs
theorem D0{α:Type}{R:World→α→List Value→Prop}{enc:α→Value}(hR:zn R enc){ty e:TypeId}{x y:Operand}{base m c b off j:Nat}{A:Option Addr}{xs:List α}(HO:aJ base e 1 R w (.slice A m c) xs)(hA:A=some ⟨b,off,none⟩)(hj:j<xs.length)(v:α)(hv:∀ w,R w v [enc v])
    (h:∀ w',aJ base e 1 R w' (.slice A m c) (xs.set j v)→ap (ob A++[]) w w'→K (pt d undef F) w') (hx:dM F x=some (.pointer (some ⟨b,off+j,none⟩)):=by kernel_rfl) (hy:dM F y=some (enc v):=by kernel_rfl) (hs:((P.info? ty).map (·.size),ey n d)=(some 1,true):=by kernel_rfl) : OG P ⟨d,.store ty x y,t,s,af,gu⟩ n D F w K Q:=by
  simp only[Prod.mk.injEq] at hs
  exact⟨fun a ha K' hK=>Ak hR v rfl rfl (ha.ev hx) (ha.ev hy) hv HO hA hj hs.1 fun w' hO hu=>hK _ _ _ (h w' hO hu) (ha.put hs.2)⟩
def mg (P:Program)(ty:TypeId) : Option (Option Value × Nat × Nat):=((ol P ty).bind P.info?).map fun i=>(i.zero,i.size,i.bytes)
theorem cZ{α:Type}{R:World→α→List Value→Prop}{enc:α→Value}(hR:zn R enc){x y:Operand}{e:TypeId}{base m c:Nat}{A:Option Addr}{xs ys:List α}{mm:Md}{e' ty:TypeId}{u:Value}(z:Value)(bytes:Nat)(HO:aJ base e 1 R w (.slice A m c) xs)(HY:aP mm e' 1 R w u ys)
    (hl:xs.length+ys.length≤4194304) (hbase:base≤w.heap.size) (h:∀ A' c' w',aJ base e 1 R w' (.slice A' (xs++ys).length c') (xs++ys)→ap (ob A++[]) w w'→K (pt d (.slice A' (xs++ys).length c') F) w')
    (hx:dM F x=some (.slice A m c):=by kernel_rfl) (hy:dM F y=some u:=by kernel_rfl) (he:ol P ty=some e:=by kernel_rfl) (hs:(mg P ty,z.cells.size,ey n d&&Nat.ble bytes 65536)=(some (some z,1,bytes),1,true):=by kernel_rfl) : OG P ⟨d,.call { callee:=.builtin .append,args:=#[x,y],argTypes:=#[ty,ty] },t,s,af,gu⟩ n D F w K Q:=by
  simp only[Prod.mk.injEq] at hs
  have h2:=eH hs.2.2
  exact⟨fun a ha K' hK=>Bk hR z bytes rfl rfl (dS he) (by have:=hs.1;unfold mg at this;rw[he] at this;exact this) hs.2.1 xs (ha.ev hx) HO u ys (ha.ev hy) HY hl (by simpa using h2.2) hbase fun A' c' w' hO hu=>hK _ _ _ (h A' c' w' hO hu) (ha.put h2.1)⟩
theorem lI{α:Type}{R:World→α→List Value→Prop}{x y:Operand}{e:TypeId}{base m c:Nat}{A:Option Addr}{xs ys:List α}{mm:Md}{e' ty:TypeId}{u:Value}(z:Value)(sz bytes:Nat)(HO:aJ base e sz R w (.slice A m c) xs)(HY:aP mm e' sz R w u ys)(hne:0<ys.length)
    (hone:∀ x cs,R w x cs→∀ v,v∈cs→v.oneCell'=true) (hRU:∀ w',ap (ob A++[]) w w'→∀ x cs,R w x cs→R w' x cs)
    (hl:xs.length+ys.length≤4194304) (hbase:base≤w.heap.size) (h:∀ A' c' w',aJ base e sz R w' (.slice A' (xs++ys).length c') (xs++ys)→ap (ob A++[]) w w'→K (pt d (.slice A' (xs++ys).length c') F) w')
    (hx:dM F x=some (.slice A m c):=by kernel_rfl) (hy:dM F y=some u:=by kernel_rfl) (he:ol P ty=some e:=by kernel_rfl) (hs:(mg P ty,z.cells.size,(ey n d&&Nat.ble bytes 65536)&&Nat.blt 0 sz)=(some (some z,sz,bytes),sz,true):=by kernel_rfl) : OG P ⟨d,.call { callee:=.builtin .append,args:=#[x,y],argTypes:=#[ty,ty] },t,s,af,gu⟩ n D F w K Q:=by
  simp only[Prod.mk.injEq] at hs
  have h2:=eH hs.2.2
  have h3:=eH h2.1
  exact⟨fun a ha K' hK=>yL z sz bytes rfl rfl (dS he) (by have:=hs.1;unfold mg at this;rw[he] at this;exact this) hs.2.1 (by simpa using h2.2) xs (ha.ev hx) HO u ys (ha.ev hy) HY hne hone hRU hl (by simpa using h3.2) hbase fun A' c' w' hO hu=>hK _ _ _ (h A' c' w' hO hu) (ha.put h3.1)⟩
def AX (P : Program) (f : FuncId) : Option (Bool × Bool) := (P.funcs[f]?).map fun fn => (fn.name == "runtime.NumGoroutine", fn.body.isSome)
theorem ja {f : FuncId} (h : AX P f = some (false, true)) : ∃ fn, P.funcs[f]? = some fn ∧ (fn.name == "runtime.NumGoroutine") = false ∧ fn.body.isSome = true := by
  obtain⟨fn,h1,h2⟩:=Option.map_eq_some_iff.1 h
  simp only[Prod.mk.injEq] at h2
  exact⟨fn,h1,h2.1,h2.2⟩
theorem kM{a:Act}(ha:Ag n D F a) : ∀ {l:List Operand}{vs:List Value},l.map (dM F)=vs.map some→l.map a.eval=vs
  | [],vs,h=>by cases vs with | nil=>rfl | cons _ _=>cases h
  | x :: l,vs,h=>by
    cases vs with
    | nil=>cases h
    | cons v vs =>
      injection h with h1 h2
      simp[ha.ev h1,kM ha h2]
theorem Oc{f:FuncId}{opds:Array Operand}{ts:Array TypeId}{args:Array Value}(h:Calls P f args w fun e w'=>∃ v,e = .returned v∧K (pt d v F) w')
    (ha:opds.toList.map (dM F)=args.toList.map some:=by kernel_rfl) (hf:AX P f=some (false,true):=by kernel_rfl) (hs:ey n d=true:=by kernel_rfl) : OG P ⟨d,.call { callee:=.value (.func f),args:=opds,argTypes:=ts },t,s,af,gu⟩ n D F w K Q:=by
  obtain⟨fn,h1,h2,h3⟩:=ja hf
  exact⟨fun a hag K' hK=>zN args rfl rfl h1 h2 h3 (by apply Array.toList_inj.1;rw[Array.toList_map];exact kM hag ha) (h.mono fun e w' hh=>by
    obtain⟨v,rfl,hk⟩:=hh
    exact⟨v,rfl,hK _ _ _ hk (hag.put hs)⟩)⟩
theorem aF{ops:Array Oper}{rest:List Oper}{f:FuncId}{opds:Array Operand}{ts:Array TypeId}{args:Array Value}(h:Calls P f args w fun e w'=>∃ v,e = .returned v∧(GL P ops Q rest n D) (pt d v F) w')(ha:opds.toList.map (dM F)=args.toList.map some:=by kernel_rfl)(hf:AX P f=some (false,true):=by kernel_rfl)(hs:ey n d=true:=by kernel_rfl) : GL P ops Q (⟨d,.call { callee:=.value (.func f),args:=opds,argTypes:=ts },t,s,af,none⟩ :: rest) n D F w:=L0 (Oc h ha hf hs)
theorem ax{ops:Array Oper}{rest:List Oper}{ty ty':TypeId}{x:Operand}{b:Nat}{cs:Array Value}{fr:Nat × Nat}(B:w.heap[b]? = some (.cells cs ty' fr))(off:Nat)(h:(GL P ops Q rest n D) (pt d (cs.getD off undef) F) w)(hx:dM F x=some (.pointer (some ⟨b,off,none⟩)):=by kernel_rfl)(hs:(eT P ty&&ey n d)=true:=by kernel_rfl)(hl:Nat.blt off cs.size=true:=by kernel_rfl) : GL P ops Q (⟨d,.load ty x,t,s,af,none⟩ :: rest) n D F w:=L0 (ii B off h hx hs hl)
theorem aI{ops:Array Oper}{rest:List Oper}{ty t':TypeId}{x y:Operand}{b:Nat}{cs:Array Value}(B:w.heap[b]? = some (.cells cs t' (0,0)))(vs:Array Value)(h:∀ w',w'.heap[b]? = some (.cells vs t' (0,0))→ap [b] w w'→(GL P ops Q rest n D) (pt d undef F) w')(hz:(P.info? ty).map (·.size)=some vs.size:=by kernel_rfl)(h1:vs.all (·.oneCell')=true:=by kernel_rfl)(hv:vs.size=cs.size:=by kernel_rfl)(hx:dM F x=some (.pointer (some ⟨b,0,none⟩)):=by kernel_rfl)(hy:dM F y=some (.agg vs):=by kernel_rfl)(hs:ey n d=true:=by kernel_rfl) : GL P ops Q (⟨d,.store ty x y,t,s,af,none⟩ :: rest) n D F w:=L0 (qv B vs h hz h1 hv hx hy hs)
theorem aL{ops:Array Oper}{rest:List Oper}{ty:TypeId}(cs:Array Value)(h:∀ g w',w.heap.size≤g→w'.heap[g]? = some (.cells cs ty (0,0))→ap [] w w'→(GL P ops Q rest n D) (pt d (.pointer (some ⟨g,0,none⟩)) F) w')(hz:(P.info? ty).bind (fun i=>i.zero.map (·.cells))=some cs:=by kernel_rfl)(hs:ey n d=true:=by kernel_rfl) : GL P ops Q (⟨d,.alloc ty,t,s,af,none⟩ :: rest) n D F w:=L0 (zW cs h hz hs)
theorem bA{ops:Array Oper}{rest:List Oper}(x:Int)(h:(GL P ops Q rest n D) (pt d (.int .i64 x) F) w)(hb : -9223372036854775808≤x∧x≤9223372036854775807:=by omega)(hr:(execOp (nX F) ⟨d,op,t,s,af,none⟩).run P w = .ok (.value (.int .i64 (IntKind.i64.wrap x))) w:=by kernel_rfl)(hs:(je F op&&ey n d)=true:=by kernel_rfl) : GL P ops Q (⟨d,op,t,s,af,none⟩ :: rest) n D F w:=L0 (Oi x h hb hr hs)
theorem fy{f:FuncId}{x:Operand}{opds:Array Operand}{ts:Array TypeId}{args:Array Value}(first cap:Array Value)(h:Calls P f args w fun e w'=>∃ v,e = .returned v∧K (pt d v F) w')
    (hx:dM F x=some (.func (.func f) first cap):=by kernel_rfl) (ha:first.toList.map some++(opds.toList.map (dM F)++cap.toList.map some)=args.toList.map some:=by kernel_rfl) (hf:AX P f=some (false,true):=by kernel_rfl) (hs:ey n d=true:=by kernel_rfl) : OG P ⟨d,.call { callee:=.value x,args:=opds,argTypes:=ts },t,s,af,gu⟩ n D F w K Q:=by
  obtain⟨fn,h1,h2,h3⟩:=ja hf
  have hall:∀ {l:List (Option Value)} {vs:List Value},l=vs.map some→∀ y,y∈l→y.isSome=true:=by
    intro l vs e y hy
    subst e
    obtain⟨v,_,rfl⟩:=List.mem_map.1 hy
    rfl
  refine⟨fun a hag K' hK=>vQ first cap args rfl rfl (hag.ev hx) h1 h2 h3 ?_ (h.mono fun e w' hh=>by
    obtain⟨v,rfl,hk⟩:=hh
    exact⟨v,rfl,hK _ _ _ hk (hag.put hs)⟩)⟩
  have hm:opds.toList.map (dM F)=(opds.toList.map a.eval).map some:=by
    rw[List.map_map]
    refine List.map_congr_left fun y hy=>?_
    have:=hall ha (dM F y) (by simp only[List.mem_append,List.mem_map];exact .inr (.inl ⟨y,hy,rfl⟩))
    obtain⟨v,hv⟩:=Option.isSome_iff_exists.1 this
    simp[hag.ev hv,hv]
  rw[hm,← List.map_append,← List.map_append] at ha
  apply Array.toList_inj.1
  have hinj:=(List.map_inj_right (fun x y (h:some x=some y)=>Option.some.inj h)).1 ha
  simpa using hinj
end
section
variable {P:Program}{f:FuncId}{args:Array Value}{w:World}{K:Value→World→Prop}{v:Value}{A1 A2 A3 A4 A5 A6:World→Prop}
theorem mq(h:Calls P f args w fun e w'=>e = .returned v∧w=w')(k:K v w) : Calls P f args w fun e w'=>∃ v,e = .returned v∧K v w':=h.mono fun _ _ ⟨h1,h2⟩=>⟨v,h1,h2▸k⟩
theorem m1(h:Calls P f args w fun e w'=>e = .returned v∧A1 w')(k:∀ w',A1 w'→K v w') : Calls P f args w fun e w'=>∃ v,e = .returned v∧K v w':=h.mono fun _ w' ⟨h0,h1⟩=>⟨_,h0,k w' h1⟩
theorem m2(h:Calls P f args w fun e w'=>e = .returned v∧A1 w'∧A2 w')(k:∀ w',A1 w'→A2 w'→K v w') : Calls P f args w fun e w'=>∃ v,e = .returned v∧K v w':=h.mono fun _ w' ⟨h0,h1,h2⟩=>⟨_,h0,k w' h1 h2⟩
theorem m3(h:Calls P f args w fun e w'=>e = .returned v∧A1 w'∧A2 w'∧A3 w')(k:∀ w',A1 w'→A2 w'→A3 w'→K v w') : Calls P f args w fun e w'=>∃ v,e = .returned v∧K v w':=h.mono fun _ w' ⟨h0,h1,h2,h3⟩=>⟨_,h0,k w' h1 h2 h3⟩
theorem m4(h:Calls P f args w fun e w'=>e = .returned v∧A1 w'∧A2 w'∧A3 w'∧A4 w')(k:∀ w',A1 w'→A2 w'→A3 w'→A4 w'→K v w') : Calls P f args w fun e w'=>∃ v,e = .returned v∧K v w':=h.mono fun _ w' ⟨h0,h1,h2,h3,h4⟩=>⟨_,h0,k w' h1 h2 h3 h4⟩
variable {α β:Type}{V:α→Value}{V2:α→β→Value}{B1 B2 B3 B4 B5 B6:α→World→Prop}{E1 E2 E3 E4 E5 E6 E7:α→β→World→Prop}
theorem e1(h:Calls P f args w fun e w'=>∃ x,e = .returned (V x)∧B1 x w')(k:∀ x w',B1 x w'→K (V x) w') : Calls P f args w fun e w'=>∃ v,e = .returned v∧K v w':=h.mono fun _ w' ⟨x,h0,h1⟩=>⟨_,h0,k x w' h1⟩
theorem e2(h:Calls P f args w fun e w'=>∃ x,e = .returned (V x)∧B1 x w'∧B2 x w')(k:∀ x w',B1 x w'→B2 x w'→K (V x) w') : Calls P f args w fun e w'=>∃ v,e = .returned v∧K v w':=h.mono fun _ w' ⟨x,h0,h1,h2⟩=>⟨_,h0,k x w' h1 h2⟩
theorem e3(h:Calls P f args w fun e w'=>∃ x,e = .returned (V x)∧B1 x w'∧B2 x w'∧B3 x w')(k:∀ x w',B1 x w'→B2 x w'→B3 x w'→K (V x) w') : Calls P f args w fun e w'=>∃ v,e = .returned v∧K v w':=h.mono fun _ w' ⟨x,h0,h1,h2,h3⟩=>⟨_,h0,k x w' h1 h2 h3⟩
theorem e4(h:Calls P f args w fun e w'=>∃ x,e = .returned (V x)∧B1 x w'∧B2 x w'∧B3 x w'∧B4 x w')(k:∀ x w',B1 x w'→B2 x w'→B3 x w'→B4 x w'→K (V x) w') : Calls P f args w fun e w'=>∃ v,e = .returned v∧K v w':=h.mono fun _ w' ⟨x,h0,h1,h2,h3,h4⟩=>⟨_,h0,k x w' h1 h2 h3 h4⟩
theorem e5(h:Calls P f args w fun e w'=>∃ x,e = .returned (V x)∧B1 x w'∧B2 x w'∧B3 x w'∧B4 x w'∧B5 x w')(k:∀ x w',B1 x w'→B2 x w'→B3 x w'→B4 x w'→B5 x w'→K (V x) w') : Calls P f args w fun e w'=>∃ v,e = .returned v∧K v w':=h.mono fun _ w' ⟨x,h0,h1,h2,h3,h4,h5⟩=>⟨_,h0,k x w' h1 h2 h3 h4 h5⟩
theorem A8(h:Calls P f args w fun e w'=>∃ x y,e = .returned (V2 x y)∧E1 x y w'∧E2 x y w')(k:∀ x y w',E1 x y w'→E2 x y w'→K (V2 x y) w') : Calls P f args w fun e w'=>∃ v,e = .returned v∧K v w':=h.mono fun _ w' ⟨x,y,h0,h1,h2⟩=>⟨_,h0,k x y w' h1 h2⟩
theorem BV(h:Calls P f args w fun e w'=>∃ x y,e = .returned (V2 x y)∧E1 x y w'∧E2 x y w'∧E3 x y w')(k:∀ x y w',E1 x y w'→E2 x y w'→E3 x y w'→K (V2 x y) w') : Calls P f args w fun e w'=>∃ v,e = .returned v∧K v w':=h.mono fun _ w' ⟨x,y,h0,h1,h2,h3⟩=>⟨_,h0,k x y w' h1 h2 h3⟩
theorem Ed(h:Calls P f args w fun e w'=>∃ x y,e = .returned (V2 x y)∧E1 x y w'∧E2 x y w'∧E3 x y w'∧E4 x y w')(k:∀ x y w',E1 x y w'→E2 x y w'→E3 x y w'→E4 x y w'→K (V2 x y) w') : Calls P f args w fun e w'=>∃ v,e = .returned v∧K v w':=h.mono fun _ w' ⟨x,y,h0,h1,h2,h3,h4⟩=>⟨_,h0,k x y w' h1 h2 h3 h4⟩
theorem Az(h:Calls P f args w fun e w'=>∃ x y,e = .returned (V2 x y)∧E1 x y w'∧E2 x y w'∧E3 x y w'∧E4 x y w'∧E5 x y w'∧E6 x y w')(k:∀ x y w',E1 x y w'→E2 x y w'→E3 x y w'→E4 x y w'→E5 x y w'→E6 x y w'→K (V2 x y) w') : Calls P f args w fun e w'=>∃ v,e = .returned v∧K v w':=h.mono fun _ w' ⟨x,y,h0,h1,h2,h3,h4,h5,h6⟩=>⟨_,h0,k x y w' h1 h2 h3 h4 h5 h6⟩
theorem DO(h:Calls P f args w fun e w'=>∃ x y,e = .returned (V2 x y)∧E1 x y w'∧E2 x y w'∧E3 x y w'∧E4 x y w'∧E5 x y w'∧E6 x y w'∧E7 x y w')(k:∀ x y w',E1 x y w'→E2 x y w'→E3 x y w'→E4 x y w'→E5 x y w'→E6 x y w'→E7 x y w'→K (V2 x y) w') : Calls P f args w fun e w'=>∃ v,e = .returned v∧K v w':=h.mono fun _ w' ⟨x,y,h0,h1,h2,h3,h4,h5,h6,h7⟩=>⟨_,h0,k x y w' h1 h2 h3 h4 h5 h6 h7⟩
variable {γ:Type}{mm:Md}{base:Nat}{te:TypeId}{sz:Nat}{RR:World→γ→List Value→Prop}{xs:List γ}{C1 C2 C3 C4:Value→World→Prop}{U:Value→Value}
theorem eU(h:Calls P f args w fun e w'=>∃ v,e = .returned (U v)∧aJ base te sz RR w' v xs∧C1 v w')(k:∀ A c w',aJ base te sz RR w' (.slice A xs.length c) xs→xs.length≤c→c≤maxLen→C1 (.slice A xs.length c) w'→K (U (.slice A xs.length c)) w') : Calls P f args w fun e w'=>∃ v,e = .returned v∧K v w':=h.mono fun _ w' ⟨v,h0,hO,h1⟩=>by
  obtain⟨A,c,rfl,h5,h6⟩:=hO.rd.shape
  exact⟨_,h0,k A c w' hO h5 h6 h1⟩
theorem sY(h:Calls P f args w fun e w'=>∃ v,e = .returned (U v)∧aJ base te sz RR w' v xs∧C1 v w'∧C2 v w')(k:∀ A c w',aJ base te sz RR w' (.slice A xs.length c) xs→xs.length≤c→c≤maxLen→C1 (.slice A xs.length c) w'→C2 (.slice A xs.length c) w'→K (U (.slice A xs.length c)) w') : Calls P f args w fun e w'=>∃ v,e = .returned v∧K v w':=h.mono fun _ w' ⟨v,h0,hO,h1,h2⟩=>by
  obtain⟨A,c,rfl,h5,h6⟩:=hO.rd.shape
  exact⟨_,h0,k A c w' hO h5 h6 h1 h2⟩
theorem um(h:Calls P f args w fun e w'=>∃ v,e = .returned (U v)∧aP mm te sz RR w' v xs∧C1 v w'∧C2 v w')(k:∀ A c w',aP mm te sz RR w' (.slice A xs.length c) xs→xs.length≤c→c≤maxLen→C1 (.slice A xs.length c) w'→C2 (.slice A xs.length c) w'→K (U (.slice A xs.length c)) w') : Calls P f args w fun e w'=>∃ v,e = .returned v∧K v w':=h.mono fun _ w' ⟨v,h0,hO,h1,h2⟩=>by
  obtain⟨A,c,rfl,h5,h6⟩:=hO.shape
  exact⟨_,h0,k A c w' hO h5 h6 h1 h2⟩
end
structure GA (P:Program) (ops:Array Oper) (Q:Exit→Act→World→Prop) (S:World→Prop) (fuel:Nat) (l:Array Bool) (n:Nat) (D:List Deferred) (F:Fr) (w:World) : Prop where
  out:∀ a,Ag n D F a→WA P ops Q S fuel l a w
structure GH (P:Program) (ops:Array Oper) (Q:Exit→Act→World→Prop) (S:World→Prop) (fuel:Nat) (l:Array Bool) (n:Nat) (D:List Deferred) (F:Fr) (w:World) : Prop where
  s:S w
  out:GA P ops Q S fuel l n D F w
section
variable {P:Program}{Q:Exit→Act→World→Prop}{n:Nat}{D:List Deferred}{F:Fr}{w:World}{ops:Array Oper}{S:World→Prop}{fuel:Nat}{l:Array Bool}{id:Nat}
theorem b9(hS:S w)(h:S w→GA P ops Q S fuel l n D F w) : GH P ops Q S fuel l n D F w:=⟨hS,h hS⟩
theorem Rg(k:Nat)(S:World→Prop)(h:∀ w',ap [] w w'→GH P ops Q S k (Array.replicate k false) n D F w')(hn:ops.size=k:=by kernel_rfl)(hm:P.follows .mixedOrders=true:=by kernel_rfl) : GC P (.region id ops true) Q n D F w:=by
  subst hn
  exact⟨fun a ha=>DN S _ hm rfl rfl fun w' hu=>⟨(h w' hu).s,(h w' hu).out.out a ha⟩⟩
theorem R0(i:Nat){o:Oper}(hi:ops[i]? = some o)(h:OG P o n D F w (GH P ops Q S fuel (l.setIfInBounds i true) n D) Q)(hc:(Region.ready .any ops l==[i])=true:=by kernel_rfl)(hw:lh ops F o.guard=(true,true):=by kernel_rfl) : GA P ops Q S (fuel+1) l n D F w :=
  ⟨fun a ha=>DI (l.setIfInBounds i true) hi (by simp only[Bs,hc,Bool.true_and];simp) (fb ha hw) (h.out a ha _ fun F' w' a' k ha'=>⟨k.s,k.out.out a' ha'⟩)⟩
theorem DY(i:Nat){o:Oper}(hi:ops[i]? = some o)(h:OG P o n D F w (GA P ops Q S fuel (l.setIfInBounds i true) n D) Q)(hc:(Region.ready .any ops l==[i])=true:=by kernel_rfl)(hz:tl ops i=false:=by kernel_rfl)(hw:lh ops F o.guard=(true,true):=by kernel_rfl) : GA P ops Q S (fuel+1) l n D F w :=
  ⟨fun a ha=>DR (l.setIfInBounds i true) hi (by simp only[Bs,hc,Bool.true_and];simp) hz (fb ha hw) (h.out a ha _ fun F' w' a' k ha'=>k.out a' ha')⟩
theorem R2(i j:Nat){o o':Oper}(hi:ops[i]? = some o)(hj:ops[j]? = some o')(h1:OG P o n D F w (GH P ops Q S fuel (l.setIfInBounds i true) n D) Q)(h2:OG P o' n D F w (GH P ops Q S fuel (l.setIfInBounds j true) n D) Q)(hc:(Region.ready .any ops l==[i,j])=true:=by kernel_rfl)
    (hw:(lh ops F o.guard,lh ops F o'.guard)=((true,true),(true,true)):=by kernel_rfl) : GA P ops Q S (fuel+1) l n D F w:=by
  simp only[Prod.mk.injEq] at hw
  exact⟨fun a ha=>CQ _ _ hi hj hc rfl rfl (fb ha hw.1) (fb ha hw.2) (h1.out a ha _ fun F' w' a' k ha'=>⟨k.s,k.out.out a' ha'⟩) (h2.out a ha _ fun F' w' a' k ha'=>⟨k.s,k.out.out a' ha'⟩)⟩
def fV (ops:Array Oper)(i:Nat) : Oper:=(ops[i]?).getD default
def AY (ops:Array Oper)(l:Array Bool)(i:Nat) : Bool:=(ops[i]?).isSome&&(wt ops l i&&Region.noSelect ops&&Region.free .any ops l i&&(Region.ready .any ops l).contains i)
theorem pJ{i:Nat}(h:AY ops l i=true) : ops[i]? = some (fV ops i)∧By ops l (l.setIfInBounds i true) i=true:=by
  have:=eH h
  obtain⟨o,ho⟩:=Option.isSome_iff_exists.1 this.1
  have h2:=this.2
  simp only[Bool.and_eq_true] at h2
  exact⟨by simp[fV,ho],by simp only[By,Cc,h2.1.1.1,h2.1.1.2,h2.1.2,h2.2,Bool.true_and,Bool.and_true];simp⟩
theorem Rr(i:Nat)(hS:S w)(v:Value)(hy:∀ w',S w'→(execOp (nX F) (fV ops i)).run P w' = .ok (.value v) w')(h:GA P ops Q S fuel (l.setIfInBounds i true) n D (pt (fV ops i).dst v F) w)
    (hc:((AY ops l i,lh ops F (fV ops i).guard),(ey n (fV ops i).dst&&je F (fV ops i).op))=((true,(true,true)),true):=by kernel_rfl) (hQ:∀ c a w,Q (.panic c) (a.put (fV ops i).dst v) w→Q (.panic c) a w:=by exact fun _ _ _ h=>h) : GA P ops Q S (fuel+1) l n D F w:=by
  simp only[Prod.mk.injEq] at hc
  obtain⟨h1,h2⟩:=pJ hc.1.1
  have h3:=eH hc.2
  exact⟨fun a ha=>Cv v _ h1 rfl h2 hQ (fb ha hc.1.2) (fun w' hs=>by rw[← ik ha h3.2];exact hy w' hs) hS (h.out _ (ha.put h3.1))⟩
theorem Rt(i:Nat)(hS:S w)(h:GA P ops Q S fuel (l.setIfInBounds i true) n D (pt (fV ops i).dst (vo P w F (fV ops i)) F) w)(hy:∀ w',(execOp (nX F) (fV ops i)).run P w' = .ok (.value (vo P w F (fV ops i))) w':=by intro _;kernel_rfl)
    (hc:((AY ops l i,lh ops F (fV ops i).guard),(ey n (fV ops i).dst&&je F (fV ops i).op))=((true,(true,true)),true):=by kernel_rfl) (hQ:∀ c a w',Q (.panic c) (a.put (fV ops i).dst (vo P w F (fV ops i))) w'→Q (.panic c) a w':=by exact fun _ _ _ h=>h) : GA P ops Q S (fuel+1) l n D F w:=by
  simp only[Prod.mk.injEq] at hc
  obtain⟨h1,h2⟩:=pJ hc.1.1
  have h3:=eH hc.2
  exact⟨fun a ha=>Cv _ _ h1 rfl h2 (fun c a w' q=>by exact hQ c a w' q) (fb ha hc.1.2) (fun w' hs=>by rw[← ik ha h3.2];exact hy w') hS (h.out _ (ha.put h3.1))⟩
theorem Ro(i:Nat)(hS:S w)(h:GA P ops Q S fuel (l.setIfInBounds i true) n D (pt (fV ops i).dst undef F) w)(hc:((AY ops l i,lh ops F (fV ops i).guard),ey n (fV ops i).dst)=((true,(true,false)),true):=by kernel_rfl)
    (hQ:∀ c a w,Q (.panic c) (a.put (fV ops i).dst undef) w→Q (.panic c) a w:=by exact fun _ _ _ h=>h) : GA P ops Q S (fuel+1) l n D F w:=by
  simp only[Prod.mk.injEq] at hc
  obtain⟨h1,h2⟩:=pJ hc.1.1
  exact⟨fun a ha=>CR _ h1 rfl h2 (fun c a w' q=>by exact hQ c a w' q) (fb ha hc.1.2) hS (h.out _ (ha.put hc.2))⟩
def Dz (P:Program)(F:Fr)(o:Oper) : Option Value × Bool:=match o.op with
  | .load ty x=>(dM F x,eT P ty)
  | _=>(none,false)
theorem Rl(i:Nat)(hS:S w){p:Addr}{v:Value}(hl:∀ w',S w'→w'.cell? p=some v)(h:GA P ops Q S fuel (l.setIfInBounds i true) n D (pt (fV ops i).dst v F) w)(hx:Dz P F (fV ops i)=(some (.pointer (some p)),true):=by kernel_rfl)
    (hc:((AY ops l i,lh ops F (fV ops i).guard),(ey n (fV ops i).dst&&je F (fV ops i).op))=((true,(true,true)),true):=by kernel_rfl) (hQ:∀ c a w,Q (.panic c) (a.put (fV ops i).dst v) w→Q (.panic c) a w:=by exact fun _ _ _ h=>h) : GA P ops Q S (fuel+1) l n D F w:=by
  simp only[Prod.mk.injEq] at hc
  obtain⟨h1,h2⟩:=pJ hc.1.1
  have h3:=eH hc.2
  obtain⟨ty,x,h4,h5,h6⟩ : ∃ ty x,(fV ops i).op = .load ty x∧dM F x=some (.pointer (some p))∧eT P ty=true:=by
    unfold Dz at hx
    split at hx
    · rename_i ty x hop
      simp only[Prod.mk.injEq] at hx
      exact⟨ty,x,hop,hx.1,hx.2⟩
    · simp at hx
  exact⟨fun a ha=>Cv v _ h1 rfl h2 hQ (fb ha hc.1.2) (fun w' hs=>xw h4 (ha.ev h5) h6 (hl w' hs)) hS (h.out _ (ha.put h3.1))⟩
theorem re(h:GQ Q .normal n D F w)(hr:(Region.ready .any ops l==[])=true:=by kernel_rfl) : GA P ops Q S fuel l n D F w:=⟨fun a ha=>CL hr (h.out a ha)⟩
theorem y2(j:Nat)(e:Bool)(ht:e=true→GA P ops Q S fuel l n D ((j,.bool true) :: F) w)(hf:e=false→GA P ops Q S fuel l n D ((j,.bool false) :: F) w)(hv:lk F j=some (.bool e):=by kernel_rfl) : GA P ops Q S fuel l n D F w:=by
  refine⟨fun a ha=>?_⟩
  have key:∀ b,e=b→Ag n D ((j,.bool b) :: F) a:=fun b hb=>⟨ha.sz,ha.df,fun i v hi=>by
    rcases gC hi with⟨rfl,rfl⟩|⟨_,h2⟩
    · rw[← hb];exact ha.at_ _ _ hv
    · exact ha.at_ _ _ h2⟩
  rcases gw e with q|q
  · exact(ht q).out a (key _ q)
  · exact(hf q).out a (key _ q)
end
def Cp (rs:Array ResultVar)(F:Fr) : Option Value:=match rs.toList with
  | []=>some (.tuple #[])
  | [.tmp i]=>lk F i
  | [.tmp i,.tmp j]=>(lk F i).bind fun u=>(lk F j).map fun v=>.tuple #[u,v]
  | [.tmp i,.tmp j,.tmp k]=>(lk F i).bind fun u=>(lk F j).bind fun v=>(lk F k).map fun x=>.tuple #[u,v,x]
  | _=>none
section
variable {P:Program}{n:Nat}{F:Fr}{w:World}{D:List Deferred}{fn:Func}{R:Ending→World→Prop}
theorem sJ{a:Act}(ha:Ag n D F a){v:Value}(h:Cp fn.results F=some v) : (results fn a.tmps).run P w = .ok v w:=by
  obtain⟨rs,hrs⟩ : ∃ rs,fn.results=rs:=⟨_,rfl⟩
  rw[hrs] at h
  have hg:∀ {i v},lk F i=some v→a.tmps[i]?.getD undef=v:=fun h=>by rw[ha.at_ _ _ h];rfl
  obtain⟨l⟩:=rs
  unfold Cp at h
  simp only at h
  split at h
  · simp[results,hrs]
    simpa using h
  · simp[results,hrs,hg h]
  · obtain⟨u,h1,h2⟩:=Option.bind_eq_some_iff.1 h
    obtain⟨x,h3,rfl⟩:=Option.map_eq_some_iff.1 h2
    simp[results,hrs,hg h1,hg h3]
  · obtain⟨u,h1,h2⟩:=Option.bind_eq_some_iff.1 h
    obtain⟨x,h3,h4⟩:=Option.bind_eq_some_iff.1 h2
    obtain⟨y,h5,rfl⟩:=Option.map_eq_some_iff.1 h4
    simp[results,hrs,hg h1,hg h3,hg h5]
  · cases h
theorem rr(v:Value)(h:R (.returned v) w)(hv:Cp fn.results F=some v:=by kernel_rfl) : GQ (bodyPost P fn R) .ret n [] F w:=⟨fun a ha=>Aj v (sJ ha hv) ha.df h⟩
theorem rm(v:Value)(h:R (.returned v) w)(hv:Cp fn.results F=some v:=by kernel_rfl) : GQ (bodyPost P fn R) .normal n [] F w:=⟨fun a ha=>As v (sJ ha hv) ha.df h⟩
def Bv (P:Program)(rs:Array ResultVar)(F:Fr) : Option (Option Value × Option Value × Option Bool × Option Nat):=match rs.toList with
  | [.cell p ty,.tmp q]=>some (lk F p,lk F q,(P.underlying ty).map fun d=>(match d with | .struct _ | .array _ _=>true | _=>false),(P.info? ty).map (·.size))
  | _=>none
def yP (P:Program)(rs:Array ResultVar)(F:Fr) : Option (Option Value × Option Bool × Option Nat):=match rs.toList with
  | [.cell p ty]=>some (lk F p,(P.underlying ty).map fun d=>(match d with | .struct _ | .array _ _=>true | _=>false),(P.info? ty).map (·.size))
  | _=>none
theorem kO{a:Act}(ha:Ag n D F a){g:Nat}{cs:Array Value}{t:TypeId}{fr:Nat × Nat}{k:Nat}{u:Value}(B:w.heap[g]? = some (.cells cs t fr))(hz:some k=some cs.size)(hc:Bv P fn.results F=some (some (.pointer (some ⟨g,0,none⟩)),some u,some true,some k)) :
    (results fn a.tmps).run P w = .ok (.tuple #[.agg cs,u]) w:=by
  obtain⟨rs,hrs⟩ : ∃ rs,fn.results=rs:=⟨_,rfl⟩
  rw[hrs] at hc
  obtain⟨l⟩:=rs
  unfold Bv at hc
  simp only at hc
  split at hc
  · simp only[Option.some.injEq,Prod.mk.injEq] at hc
    obtain⟨h1,h2,h3,h4⟩:=hc
    obtain⟨dd,h5,h6⟩:=Option.map_eq_some_iff.1 h3
    have h7:=jx (P:=P) hrs a.tmps w g t cs fr dd (by simp[ha.at_ _ _ h1]) B h5 (by cases dd<;>first | rfl | exact h6) (h4.trans hz)
    have h8:=ha.at_ _ _ h2
    rw[h7]
    simp[h8]
  · cases hc
theorem dZ{g:Nat}{cs:Array Value}{t:TypeId}{fr:Nat × Nat}(B:w.heap[g]? = some (.cells cs t fr))(u:Value)(h:R (.returned (.tuple #[.agg cs,u])) w)(hc:Bv P fn.results F=some (some (.pointer (some ⟨g,0,none⟩)),some u,some true,some cs.size):=by kernel_rfl) : GQ (bodyPost P fn R) .ret n [] F w :=
  ⟨fun a ha=>bodyPost_ret (kO ha B rfl hc) ha.df h⟩
theorem Ce{g:Nat}{cs:Array Value}{t:TypeId}{fr:Nat × Nat}{k:Nat}(B:w.heap[g]? = some (.cells cs t fr))(h:R (.returned (.agg cs)) w)(hz:some k=some cs.size)(hc:yP P fn.results F=some (some (.pointer (some ⟨g,0,none⟩)),some true,some k)) : GQ (bodyPost P fn R) .ret n [] F w:=by
  obtain⟨rs,hrs⟩ : ∃ rs,fn.results=rs:=⟨_,rfl⟩
  rw[hrs] at hc
  obtain⟨l⟩:=rs
  unfold yP at hc
  simp only at hc
  split at hc
  · simp only[Option.some.injEq,Prod.mk.injEq] at hc
    obtain⟨h1,h3,h4⟩:=hc
    obtain⟨dd,h5,h6⟩:=Option.map_eq_some_iff.1 h3
    refine⟨fun a ha=>bodyPost_ret ?_ ha.df h⟩
    have hp:=ha.at_ _ _ h1
    simp[results,hrs,hp,asAddr,run_loadVar_row w g t _ cs fr dd B h5 (by cases dd<;>first | rfl | exact h6) (h4.trans hz)]
  · cases hc
end
section
variable {S:List Nat}{a b c w w':World}{x y:Nat}{o:Go.Obj}
theorem lr{n:Nat}:n≤n:=Nat.le_refl _
theorem le{i j k:Nat}(h:i≤j)(h2:j≤k) : i≤k:=Nat.le_trans h h2
theorem im(h:x∈S:=by simp) : x∈S∨a.heap.size≤x:=.inl h
theorem il{A:Option Addr}(h:∀ x,x∈ob A→x∈S:=by intro x hx;simp[hx]) : ∀ x,x∈ob A→x∈S∨a.heap.size≤x:=fun x hx=>.inl (h x hx)
theorem nr(h:a.heap.size≤x) : x∈S∨a.heap.size≤x:=.inr h
theorem ni(h:a.heap.size≤y)(h2:y≤x) : x∈S∨a.heap.size≤x:=.inr (Nat.le_trans h h2)
theorem ac{p:Nat→Prop}{a:Nat}{S:List Nat}(h:p a)(k:∀ x,x∈S→p x) : ∀ x,x∈a :: S→p x:=all_cons h k
theorem ut{S':List Nat}(h:ap S a b)(k:ap S' b c)(hS:∀ x,x∈S'→x∈S∨a.heap.size≤x) : ap S a c:=h.trans' k hS
theorem u1(h:ap S a b)(k:ap [x] b c)(hx:x∈S∨a.heap.size≤x) : ap S a c:=h.trans' k fun y hy=>by simp at hy;subst hy;exact hx
theorem uz(h:ap [] a b)(k:ap S b c) : ap S a c:=(h.mono fun _ hx=>by cases hx).trans' k fun _ hy=>.inl hy
theorem ud(h:ap [] a b)(k:ap (x :: S) b c)(hx:a.heap.size≤x) : ap S a c:=(h.mono fun _ hx=>by cases hx).trans' k fun _ hy=>(List.mem_cons.1 hy).elim (fun e=>.inr (e▸hx)) .inl
theorem ue(h:ap [] a b)(k:ap (y :: x :: S) b c)(hx:a.heap.size≤x) : ap (y :: S) a c:=(h.mono fun _ hx=>by cases hx).trans' k fun _ hy=>(List.mem_cons.1 hy).elim (fun e=>.inl (e▸List.mem_cons_self ..)) fun hy=>(List.mem_cons.1 hy).elim (fun e=>.inr (e▸hx)) fun hy=>.inl (List.mem_cons_of_mem _ hy)
theorem us(h:ap [x] a b)(k:ap S b c) : ap (x :: S) a c:=(h.mono fun _ hy=>.inl (by rw[List.mem_singleton] at hy;rw[hy];exact List.mem_cons_self ..)).trans' k fun _ hy=>.inl (List.mem_cons_of_mem _ hy)
theorem ui(h:ap [x] a b)(k:ap S b c)(hx:x∈S:=by simp) : ap S a c:=(h.mono fun _ hy=>.inl (by rw[List.mem_singleton] at hy;rw[hy];exact hx)).trans' k fun _ hy=>.inl hy
theorem ub(h:ap [] w w')(B:w.heap[x]? = some o) : w'.heap[x]? = some o:=h.blk (by simp) B
theorem b7(h:ap [y] w w')(hn:x≠y)(B:w.heap[x]? = some o) : w'.heap[x]? = some o:=h.blk (by simpa using hn) B
theorem nb{i j k l:Nat}(h:i<j)(h2:j≤k)(h3:k≤l) : i≠l:=by omega
theorem fO:(∀ {α:Type}(a:α),(a=a)=True)∧(∀ p,(True∨p)=True)∧(∀ p,(p∨True)=True)∧(∀ p,(p∨False)=p)∧(∀ p,(False∨p)=p):=⟨eq_self,true_or,or_true,or_false,false_or⟩
theorem cl:(∀ {α:Type}(a b:List α),(a++b).length=a.length+b.length)∧(∀ {α:Type}(a:α)(b:List α),(a :: b).length=b.length+1)∧(∀ {α:Type},([] : List α).length=0):=⟨fun a b=>List.length_append,fun a b=>List.length_cons,List.length_nil⟩
theorem bs:((∀ b,(true&&b)=b)∧(∀ b,(false&&b)=false)∧(∀ b,(b&&true)=b)∧(∀ b,(b&&false)=false))∧((∀ b,(true || b)=true)∧(∀ b,(false || b)=b)∧(∀ b,(b || true)=true)∧(∀ b,(b || false)=b))∧((!true)=false∧(!false)=true∧((false=true)=False)):=by
  refine⟨⟨?_,?_,?_,?_⟩,⟨?_,?_,?_,?_⟩,?_,?_,?_⟩<;>simp
theorem bt:(((∀ b,(true&&b)=b)∧(∀ b,(false&&b)=false)∧(∀ b,(b&&true)=b)∧(∀ b,(b&&false)=false))∧((∀ b,(true || b)=true)∧(∀ b,(false || b)=b)∧(∀ b,(b || true)=true)∧(∀ b,(b || false)=b))∧((!true)=false∧(!false)=true∧((false=true)=False)))∧(∀ {α:Type}{h:Decidable True}(a b:α),@ite α True h a b=a)∧(∀ {α:Type}{h:Decidable False}(a b:α),@ite α False h a b=b)∧(∀ {h:Decidable True},@decide True h=true)∧(∀ {h:Decidable False},@decide False h=false):=⟨bs,fun a b=>if_pos trivial,fun a b=>if_neg id,by simp,by simp⟩
end
section
variable {P:Program}{Q:Exit→Act→World→Prop}{n:Nat}{D:List Deferred}{F:Fr}{w:World}{K:Fr→World→Prop}{d:Option Tmp}{t:TypeId}{s:String}{af:Array Edge}{gu:Option (Nat × Bool)}
theorem BP{ty ty':TypeId}{x:Operand}{b off:Nat}{cs:Array Value}{fr:Nat × Nat}(sub:List Value)(B:w.heap[b]? = some (.cells cs ty' fr))(hs:(cs.toList.drop off).take sub.length=sub)(h:K (pt d (.agg sub.toArray) F) w)(hx:dM F x=some (.pointer (some ⟨b,off,none⟩)):=by kernel_rfl)
    (hc:((P.underlying ty).map (·.isRow),(P.info? ty).map (·.size),ey n d)=(some true,some sub.length,true):=by kernel_rfl) : OG P ⟨d,.load ty x,t,s,af,gu⟩ n D F w K Q:=by
  simp only[Prod.mk.injEq] at hc
  exact⟨fun a ha K' hK=>xY _ rfl rfl (ha.ev hx) B hc.1 hc.2.1 hs (hK _ _ _ h (ha.put hc.2.2))⟩
theorem cE{o:Oper}{ev:Operand→Value}(v0:Value){v:Value}(hr:(execOp ev o).run P w = .ok (.value v0) w)(he:v0=v) : (execOp ev o).run P w = .ok (.value v) w:=by subst he;exact hr
theorem gg{o:Oper}{ev:Operand→Value}{ty:TypeId}{x:Operand}{g off:Nat}{cs:Array Value}{t:TypeId}{fr:Nat × Nat}{w:World}(sub:List Value)(ho:o.op = .load ty x)(hx:ev x = .pointer (some ⟨g,off,none⟩))(hb:w.heap[g]? = some (.cells cs t fr))
    (hu:(P.underlying ty).map (·.isRow)=some true) (hi:(P.info? ty).map (·.size)=some sub.length) (hs:(cs.toList.drop off).take sub.length=sub) : (execOp ev o).run P w = .ok (.value (.agg sub.toArray)) w:=by
  obtain⟨d,hd,hr⟩:=Option.map_eq_some_iff.1 hu
  have hc:w.rangeAt g off sub:=fun j v hj=>by
    rw[be hb]
    have hjl:j<sub.length:=(List.getElem?_eq_some_iff.1 hj).1
    rw[← hs,List.getElem?_take,if_pos hjl,List.getElem?_drop] at hj
    simpa using hj
  unfold execOp
  simp only[ho,hx,Instr.loadAt,Instr.sureAddr,Sem.run_bind,Sem.run_pure,Result.andThen_ok,run_loadVar_mid w g off ty sub d hc hd hr hi]
end
section
variable {P:Program}{n:Nat}{F:Fr}{w:World}{fn:Func}{R:Ending→World→Prop}
theorem jq(k:Nat){g:Nat}{cs:Array Value}{t:TypeId}{fr:Nat × Nat}(hz:cs.size=k)(B:w.heap[g]? = some (.cells cs t fr))(u:Value)(h:R (.returned (.tuple #[.agg cs,u])) w)(hc:Bv P fn.results F=some (some (.pointer (some ⟨g,0,none⟩)),some u,some true,some k):=by kernel_rfl) : GQ (bodyPost P fn R) .ret n [] F w :=
  ⟨fun a ha=>bodyPost_ret (kO ha B (by rw[hz]) hc) ha.df h⟩
theorem Bx{g:Nat}{cs:Array Value}{t:TypeId}{fr:Nat × Nat}(B:w.heap[g]? = some (.cells cs t fr))(h:R (.returned (.agg cs)) w)(hc:yP P fn.results F=some (some (.pointer (some ⟨g,0,none⟩)),some true,some cs.size):=by kernel_rfl) : GQ (bodyPost P fn R) .ret n [] F w:=Ce B h rfl hc
theorem CN(k:Nat){g:Nat}{cs:Array Value}{t:TypeId}{fr:Nat × Nat}(hz:cs.size=k)(B:w.heap[g]? = some (.cells cs t fr))(h:R (.returned (.agg cs)) w)(hc:yP P fn.results F=some (some (.pointer (some ⟨g,0,none⟩)),some true,some k):=by kernel_rfl) : GQ (bodyPost P fn R) .ret n [] F w :=
  Ce (k:=k) B h (by rw[hz]) hc
end
section
variable {C:Prop}{α β γ δ ε ζ η:Type}
theorem pr{α β:Type}{C:Prop}(x:α × β)(k:∀ a b,x=(a,b)→C) : C:=k x.1 x.2 rfl
theorem wo{α:Type}{C:Prop}(x:Option α)(hn:x=none→C)(hs:∀ l,x=some l→C) : C:=by
  cases h:x with
  | none=>exact hn h
  | some l=>exact hs l h
theorem qN{P1 P2:α→Prop}(h:∃ x,P1 x∧P2 x)(k:∀ x,P1 x→P2 x→C) : C:=let ⟨x,h1,h2⟩:=h;k x h1 h2
theorem Cr{P1 P2:α→β→Prop}(h:∃ x y,P1 x y∧P2 x y)(k:∀ x y,P1 x y→P2 x y→C) : C:=let ⟨x,y,h1,h2⟩:=h;k x y h1 h2
theorem jc{P1 P2 P3:α→β→Prop}(h:∃ x y,P1 x y∧P2 x y∧P3 x y)(k:∀ x y,P1 x y→P2 x y→P3 x y→C) : C:=let ⟨x,y,h1,h2,h3⟩:=h;k x y h1 h2 h3
theorem y5{P1 P2 P3 P4 P5:α→β→γ→δ→ε→ζ→η→Prop}(h:∃ a b c d e f g,P1 a b c d e f g∧P2 a b c d e f g∧P3 a b c d e f g∧P4 a b c d e f g∧P5 a b c d e f g)(k:∀ a b c d e f g,P1 a b c d e f g→P2 a b c d e f g→P3 a b c d e f g→P4 a b c d e f g→P5 a b c d e f g→C) : C :=
  let ⟨a,b,c,d,e,f,g,h1,h2,h3,h4,h5⟩:=h;k a b c d e f g h1 h2 h3 h4 h5
theorem ab{w:World}{g:Nat}{c:aA}(h:ag w g c)(k:∀ x,x=c→ag w g x→C) : C:=k c rfl h
end
theorem aP.len{α:Type}{m:Md}{e:TypeId}{sz:Nat}{R:World→α→List Value→Prop}{w:World}{v:Value}{xs:List α}(h:aP m e sz R w v xs) : xs.length≤9223372036854775807:=by
  obtain⟨_,_,_,h1,h2⟩:=h.shape
  unfold maxLen at h2
  omega
theorem cB{m:Md}{w:World}{A:Option Addr}{n c b off:Nat}{xs:List Int}(h:aR m w (.slice A n c) xs)(hA:A=some ⟨b,off,none⟩)(j:Nat)(hj:j<xs.length) : w.cell? ⟨b,off+j,none⟩=some (.int .u8 (xs.getD j 0)):=by
  obtain⟨b',o',h1,h2,_⟩:=aR.at_ h j hj
  rw[hA] at h1
  cases h1
  exact h2
section
variable {P:Program}{w w':World}
theorem uc{p:Addr}{v:Value}(h:ap [] w w')(hc:w.cell? p=some v) : w'.cell? p=some v:=h.cell (by simp) hc
theorem fc{b o n:Nat}{cs:Array Value}{t:TypeId}{fr:Nat × Nat}{sub:List Value}{v:Value}(hb:w.heap[b]? = some (.cells cs t fr))(hs:(cs.toList.drop o).take n=sub)(i:Nat)(hv:sub[i]? = some v)(hi:i<n) : w.cell? ⟨b,o+i,none⟩=some v:=by
  rw[be hb,← Array.getElem?_toList,← List.getElem?_drop,← hv,← hs,List.getElem?_take,if_pos hi]
def CO (P:Program)(F:Fr)(o:Oper) : Option (Option Addr × Nat) × Option Int × Option Nat:=match o.op with
  | .indexAddr ty x ix=>(Ac F x,zz F ix,((ol P ty).bind P.info?).map (·.size))
  | _=>(none,none,none)
theorem Ri{n:Nat}{D:List Deferred}{F:Fr}{Q:Exit→Act→World→Prop}{ops:Array Oper}{S:World→Prop}{fuel:Nat}{l:Array Bool}(i:Nat)(hS:S w)(sz m j:Nat)(z:Int)(hj:z=j){A:Option Addr}{b off:Nat}(hA:A=some ⟨b,off,none⟩)(hlt:j<m)
    (h:GA P ops Q S fuel (l.setIfInBounds i true) n D (pt (fV ops i).dst (.pointer (some ⟨b,off+j*sz,none⟩)) F) w) (hx:CO P F (fV ops i)=(some (A,m),some z,some sz):=by kernel_rfl)
    (hc:((AY ops l i,lh ops F (fV ops i).guard),(ey n (fV ops i).dst&&je F (fV ops i).op))=((true,(true,true)),true):=by kernel_rfl) (hQ:∀ c a w',Q (.panic c) (a.put (fV ops i).dst (.pointer (some ⟨b,off+j*sz,none⟩))) w'→Q (.panic c) a w':=by exact fun _ _ _ h=>h) : GA P ops Q S (fuel+1) l n D F w:=by
  simp only[Prod.mk.injEq] at hc
  obtain⟨h1,h2⟩:=pJ hc.1.1
  have h3:=eH hc.2
  obtain⟨ty,x,ix,h4,h5,h6,h7⟩ : ∃ ty x ix,(fV ops i).op = .indexAddr ty x ix∧Ac F x=some (A,m)∧zz F ix=some z∧((ol P ty).bind P.info?).map (·.size)=some sz:=by
    unfold CO at hx
    split at hx
    · rename_i ty x ix hop
      simp only[Prod.mk.injEq] at hx
      exact⟨ty,x,ix,hop,hx.1,hx.2.1,hx.2.2⟩
    · simp at hx
  obtain⟨c,h5⟩:=pL h5
  obtain⟨k,h6⟩:=lZ h6
  cases he:ol P ty with
  | none=>rw[he] at h7;simp at h7
  | some e =>
    rw[he] at h7
    refine⟨fun a ha=>Cv _ _ h1 rfl h2 (fun c a w' q=>hQ c a w' q) (fb ha hc.1.2) (fun w' hs=>?_) hS (h.out _ (ha.put h3.1))⟩
    subst hj
    subst hA
    obtain⟨i0,hi0,hsz⟩:=Option.map_eq_some_iff.1 h7
    have hx':=ha.ev h5
    have hi':=ha.ev h6
    unfold execOp
    have h8:(0:Int)≤(j:Int)∧(j:Int)<(m:Int):=by omega
    have hi0':P.info? e=some i0:=hi0
    simp[h4,hx',hi',Instr.indexAt,asIntOf,run_underlying (dS he),Result.andThen,h8,sizeOf,typeInfo,hi0',hsz,iU,hlt]
theorem xz{n:Nat}{D:List Deferred}{F:Fr}{Q:Exit→Act→World→Prop}{ops:Array Oper}{S:World→Prop}{fuel:Nat}{l:Array Bool}(i:Nat)(hS:S w)(m j:Nat)(z:Int)(hj:z=j){A:Option Addr}{b off:Nat}(hA:A=some ⟨b,off,none⟩)(hlt:j<m)
    (h:GA P ops Q S fuel (l.setIfInBounds i true) n D (pt (fV ops i).dst (.pointer (some ⟨b,off+j,none⟩)) F) w) (hx:CO P F (fV ops i)=(some (A,m),some z,some 1):=by kernel_rfl)
    (hc:((AY ops l i,lh ops F (fV ops i).guard),(ey n (fV ops i).dst&&je F (fV ops i).op))=((true,(true,true)),true):=by kernel_rfl) (hQ:∀ c a w',Q (.panic c) (a.put (fV ops i).dst (.pointer (some ⟨b,off+j,none⟩))) w'→Q (.panic c) a w':=by exact fun _ _ _ h=>h) : GA P ops Q S (fuel+1) l n D F w :=
  Ri i hS 1 m j z hj hA hlt (by rwa [Nat.mul_one]) hx hc (by rw[Nat.mul_one];exact hQ)
end
open Go.RowKit
def gD (q:IntKind)(xs:List Int) : Array MapEntry:=(xs.zipIdx.map fun p=>(⟨.int q p.1,.bool true,p.2⟩ : MapEntry)).toArray
theorem uI(q:IntKind)(xs:List Int)(x:Int) : gD q (xs++[x])=(gD q xs).push ⟨.int q x,.bool true,xs.length⟩:=by
  simp[gD,List.zipIdx_append]
theorem pg(q:IntKind)(n:Int) : ∀ (xs:List Int)(i j:Nat),∃ res,Instr.findNow (.int q) (.int q n) ((xs.zipIdx j).map fun p=>(⟨.int q p.1,.bool true,p.2⟩ : MapEntry)) i=some res∧res.isSome=decide (n∈xs)∧∀ p,res=some p→p.2 = .bool true
  | [],i,j=>⟨none,rfl,by simp,fun p h=>by cases h⟩
  | x :: xs,i,j=>by
    by_cases h:n=x
    · subst h
      exact⟨some (i,.bool true),by simp[Instr.findNow,Instr.sameNow],by simp,fun p hp=>by cases hp;rfl⟩
    · obtain⟨res,h1,h2,h3⟩:=pg q n xs (i+1) (j+1)
      refine⟨res,?_,?_,h3⟩
      · have:(n==x)=false:=by simpa using h
        simp only[List.zipIdx_cons,List.map_cons,Instr.findNow,Instr.sameNow,this,if_true]
        exact h1
      · rw[h2];simp[h]
theorem n9(q:IntKind)(n:Int)(xs:List Int) : ∃ res,Instr.findNow (.int q) (.int q n) (gD q xs).toList 0=some res∧res.isSome=decide (n∈xs)∧∀ p,res=some p→p.2 = .bool true:=by
  simpa [gD] using pg q n xs 0 0
theorem wY{q:IntKind}{n:Int}{xs:List Int}(h:n∉xs) : Instr.findNow (.int q) (.int q n) (gD q xs).toList 0=some none:=by
  obtain⟨res,h1,h2,_⟩:=n9 q n xs
  rw[h1]
  cases res with
  | none=>rfl
  | some p=>simp[h] at h2
theorem Bl{P:Program}{Q:Exit→Act→World→Prop}{a:Act}{w:World}{K:Act→World→Prop}{o:Oper}{N:Option Tmp}{t kt e:TypeId}{q:IntKind}{m k x:Operand}{r:Nat}{xs:List Int}{clk:Nat}(n:Int)(hN:o.dst=N)(hop:o.op = .mapUpdate t m k x)
    (ht:P.underlying t=some (.map kt e)) (hk:P.underlying kt=some (.int q)) (hm:a.eval m = .map (some r)) (hb:w.heap[r]? = some (.map (gD q xs) clk))
    (hkv:a.eval k = .int q n) (hx:a.eval x = .bool true) (hno:n∉xs) (hclk:clk=xs.length)
    (h:∀ w',w'.heap[r]? = some (.map (gD q (xs++[n])) (clk+1))→ap [r] w w'→K (a.put N undef) w') : OW P o a w K Q:=by
  refine OW.mk ?_
  subst hN
  obtain⟨w',hrr,h1,h2⟩:=lf ht hk hb n (.bool true) (wY hno)
  have hrun:(execOp a.eval o).run P w = .ok .skip w':=by
    unfold execOp
    simp[hop,hm,hkv,hx,hrr,Result.andThen]
  unfold Oper.wp
  rw[hrun]
  refine h w' ?_ h2
  rw[h1,uI,hclk]
theorem Ca{P:Program}{Q:Exit→Act→World→Prop}{a:Act}{w:World}{K:Act→World→Prop}{o:Oper}{N:Option Tmp}{t kt e:TypeId}{q:IntKind}{m k:Operand}{r:Nat}{es:Array MapEntry}{clk:Nat}(n:Int)(xs:List Int)(hN:o.dst=N)(hop:o.op = .lookup t m k false)
    (ht:P.underlying t=some (.map kt e)) (hk:P.underlying kt=some (.int q)) (hm:a.eval m = .map (some r)) (hb:w.heap[r]? = some (.map es clk)) (hes:es=gD q xs) (hkv:a.eval k = .int q n)
    (hz:(zeroValue e).run P w = .ok (.bool false) w) (h:K (a.put N (.bool (decide (n∈xs)))) w) : OW P o a w K Q:=by
  subst hes
  obtain⟨res,h1,h2,h3⟩:=n9 q n xs
  refine sX (res:=res) n (.bool false) _ hN hop ht hk hm hb hkv hz h1 ?_ h
  cases res with
  | none=>simp at h2;simp[h2]
  | some p=>simp at h2;simp[h2,h3 p rfl]
section
variable {P:Program}{Q:Exit→Act→World→Prop}{n:Nat}{D:List Deferred}{F:Fr}{w:World}{K:Fr→World→Prop}{d:Option Tmp}{t:TypeId}{s:String}{af:Array Edge}{gu:Option (Nat × Bool)}
theorem CB{ty:TypeId}{m k:Operand}{r:Nat}{es:Array MapEntry}{clk:Nat}(B:w.heap[r]? = some (.map es clk))(x:Int)(xs:List Int)(h:K (pt d (.bool (decide (x∈xs))) F) w)(hq:(nH P ty).isSome=true:=by kernel_rfl)(hm:dM F m=some (.map (some r)):=by kernel_rfl)
    (hk:dM F k=some (.int (lC P ty) x):=by kernel_rfl) (he:es=gD (lC P ty) xs:=by kernel_rfl) (hs:ey n d=true:=by kernel_rfl) (hz:(zeroValue (ya P ty)).run P w = .ok (.bool false) w:=by kernel_rfl) : OG P ⟨d,.lookup ty m k false,t,s,af,gu⟩ n D F w K Q:=by
  obtain⟨kt,h1,h2⟩:=it (jw hq)
  exact⟨fun a ha K' hK=>Ca x xs rfl rfl h1 h2 (ha.ev hm) B he (ha.ev hk) hz (hK _ _ _ h (ha.put hs))⟩
theorem DA{ty:TypeId}{q:IntKind}{m k x:Operand}{r:Nat}{xs:List Int}{clk:Nat}(B:w.heap[r]? = some (.map (gD q xs) clk))(z:Int)(hno:z∉xs)(hclk:clk=xs.length)(h:∀ w',w'.heap[r]? = some (.map (gD q (xs++[z])) (clk+1))→ap [r] w w'→K (pt d undef F) w')
    (hq:nH P ty=some q:=by kernel_rfl) (hm:dM F m=some (.map (some r)):=by kernel_rfl) (hk:dM F k=some (.int q z):=by kernel_rfl) (hx:dM F x=some (.bool true):=by kernel_rfl) (hs:ey n d=true:=by kernel_rfl) : OG P ⟨d,.mapUpdate ty m k x,t,s,af,gu⟩ n D F w K Q:=by
  obtain⟨kt,h1,h2⟩:=it hq
  exact⟨fun a ha K' hK=>Bl z rfl rfl h1 h2 (ha.ev hm) B (ha.ev hk) (ha.ev hx) hno hclk fun w' hB hu=>hK _ _ _ (h w' hB hu) (ha.put hs)⟩
end
def BR (q:IntKind)(xs:List Int)(w:World)(e:Ending)(w':World) : Prop:=∃ r clk,e = .returned (.map (some r))∧w.heap.size≤r∧w'.heap[r]? = some (.map (gD q xs) clk)∧ap [] w w'
theorem jp{xs:List Int}(h:xs.Nodup)(k:Nat)(hk:k<xs.length) : xs.getD k 0∉xs.take k:=by
  intro hm
  obtain⟨i,hi,he⟩:=List.getElem_of_mem hm
  have hik:i<k:=by simp at hi;omega
  rw[List.getElem_take] at he
  have hg:xs.getD k 0=xs[k]:=by simp[List.getD_eq_getElem?_getD,List.getElem?_eq_getElem hk]
  rw[hg] at he
  have:=(List.getElem_inj h).1 he
  omega
theorem lA{α:Type}(xs:List α)(d:α)(k:Nat)(hk:k<xs.length) : xs.take (k+1)=xs.take k++[xs.getD k d]:=by
  rw[List.take_succ_eq_append_getElem hk,List.getD_eq_getElem?_getD,List.getElem?_eq_getElem hk]
  rfl
theorem ws{A:Option Addr}{c:Nat}{xs:List Int}{w:World}(h:aR true w (.slice A xs.length c) xs)(hn:xs.length≤1048576)(hnd:xs.Nodup) :
    Calls Tryz.prog 191 #[.slice A xs.length c] w (BR .u8 xs w):=by
 refine en 17 Tryz.func191 rfl<|au 1<|ng<|L0<|zq fun a i e j l=>al 1<|sq<|sq<|?_
 refine go<|al 3<|bk<|?_
 refine js (fun x=>[(2,.map none),(3,.map (some a)),(7,.slice A xs.length c),(8,vI ((xs.length:Nat) : Int)),(9,vI ((x:Nat) : Int))]) (fun(x:Nat) w'=>ap [a] i w'∧w'.heap[a]? = some (.map (gD .u8 (xs.take x)) x)∧(x≤xs.length)) (fun x=>xs.length-x) 0 ⟨ap.refl _ _,j,(by(try dsimp only);omega)⟩ ?_
 rintro k m ⟨f,n,o⟩
 refine ip [(2,.map none),(3,.map (some a)),(7,.slice A xs.length c),(8,vI ((xs.length:Nat) : Int)),(9,vI ((k:Nat) : Int))] ?_
 have b:m.heap[a]? = some (.map (gD .u8 (xs.take k)) k):=n
 have D:k≤xs.length:=o
 refine ay 1<|sq<|?_
 have g:=ud l f e
 refine cb ((decide (((k:Nat) : Int)<((xs.length:Nat) : Int)))) (fun d=>?_) (fun d=>?_)
 have q:=of_decide_eq_true d
 refine bU<|sq<|bk<|sg<|?_
 refine jc (aR.at_ (aR.upd' h g aK) k (by omega)) fun r s t u E=>L0<|pf xs.length k t (by omega)<|L0<|m8 (p:=⟨r,s+k,none⟩) (v:=vB (xs.getD k 0)) u<|al 1<|go<|Pl 2<|L0<|DA b (xs.getD k 0) (jp hnd k (by omega)) (by simp;omega) fun y z B=>?_
 have C:y.heap[a]? = some (.map (gD .u8 (xs.take (k+1))) (k+1)):=by rw[lA xs 0 k (by omega)];exact z
 refine nl<|bn<|tn<|go<|bA (((k:Nat) : Int)+1)<|Pl 1<|nl<|?_
 exact fM (k+1) ⟨(u1 f B im),C,(by(try dsimp only);omega)⟩ (by omega)
 have q:=of_decide_eq_false d
 refine xt<|tx<|tx<|bx<|tn<|ay 2<|rt<|rr (.map (some a))<|?_
 have hk:k=xs.length:=by omega
 rw[hk,List.take_length] at b
 exact⟨a,_,rfl,e,b,g⟩
theorem zS{A:Option Addr}{c:Nat}{xs:List Int}{w:World}(h:eO true w (.slice A xs.length c) xs)(hn:xs.length≤1048576)(hnd:xs.Nodup) :
    Calls Tryz.prog 229 #[.slice A xs.length c] w (BR .u16 xs w):=by
 refine en 17 Tryz.func229 rfl<|au 1<|ng<|L0<|zq fun a i e j l=>al 1<|sq<|sq<|?_
 refine go<|al 3<|bk<|?_
 refine js (fun x=>[(2,.map none),(3,.map (some a)),(7,.slice A xs.length c),(8,vI ((xs.length:Nat) : Int)),(9,vI ((x:Nat) : Int))]) (fun(x:Nat) w'=>ap [a] i w'∧w'.heap[a]? = some (.map (gD .u16 (xs.take x)) x)∧(x≤xs.length)) (fun x=>xs.length-x) 0 ⟨ap.refl _ _,j,(by(try dsimp only);omega)⟩ ?_
 rintro k m ⟨f,n,o⟩
 refine ip [(2,.map none),(3,.map (some a)),(7,.slice A xs.length c),(8,vI ((xs.length:Nat) : Int)),(9,vI ((k:Nat) : Int))] ?_
 have b:m.heap[a]? = some (.map (gD .u16 (xs.take k)) k):=n
 have D:k≤xs.length:=o
 refine ay 1<|sq<|?_
 have g:=ud l f e
 refine cb ((decide (((k:Nat) : Int)<((xs.length:Nat) : Int)))) (fun d=>?_) (fun d=>?_)
 have q:=of_decide_eq_true d
 refine bU<|sq<|bk<|sg<|?_
 refine jc (eO.at_ (eO.upd' h g aK) k (by omega)) fun r s t u E=>L0<|pf xs.length k t (by omega)<|L0<|m8 (p:=⟨r,s+k,none⟩) (v:=vW (xs.getD k 0)) u<|al 1<|go<|Pl 2<|L0<|DA b (xs.getD k 0) (jp hnd k (by omega)) (by simp;omega) fun y z B=>?_
 have C:y.heap[a]? = some (.map (gD .u16 (xs.take (k+1))) (k+1)):=by rw[lA xs 0 k (by omega)];exact z
 refine nl<|bn<|tn<|go<|bA (((k:Nat) : Int)+1)<|Pl 1<|nl<|?_
 exact fM (k+1) ⟨(u1 f B im),C,(by(try dsimp only);omega)⟩ (by omega)
 have q:=of_decide_eq_false d
 refine xt<|tx<|tx<|bx<|tn<|ay 2<|rt<|rr (.map (some a))<|?_
 have hk:k=xs.length:=by omega
 rw[hk,List.take_length] at b
 exact⟨a,_,rfl,e,b,g⟩
open Go.RowKit
def bH (v:Value)(w:World)(e:Ending)(w':World) : Prop:=e = .returned v∧ap [] w w'
def Di (w:World)(g:Nat)(cs:Array Value) : Prop:=w.heap[g]? = some (.cells cs 45 (0,0))∧cs.size=22
def lT (c:aA)(most:Int) : aA:=((c.wordsC 1).wordsC 1).need (decide (1≤(c.wordsC 1).wordV)&&decide ((c.wordsC 1).wordV≤most)) 5
def cM (c:aA)(most:Int) : aA:=(lT c most).need (eN c.wordV (c.wordsC 1).wordV) 7
def hY (c:aA) : aA:=(c.bytesC 1).need (decide (1≤c.byteV)&&decide (c.byteV≤250)) 5
def oH (c:aA) : aA:=((c.wordsC 1).wordsC 1).need ((c.wordsC 1).wordV==0 || (c.wordsC 1).wordV==65280) 6
def xZ (c:aA) : Int:=(cM c 1968).byteV
def Co (c:aA) : Int:=(c.wordsC 1).wordV
def pv (c:aA) : aA:=((cM c 1968).bytesC 1).need (xZ c==eI (Co c)) 5
def AP (c:aA) : Option (List Bool):=dc ((pv c).bytesR (xZ c)) (Co c)
def Cm (c:aA) : aA:=((pv c).bytesC (xZ c)).need (AP c).isSome 6
def fk (most c:Int)(C:aA) : aA × b6:=(cM C most,{ b6.zero with code:=c,addr:=C.wordV,count:=(C.wordsC 1).wordV })
def gO (c:Int)(C:aA) : aA × b6:=((hY C).bytesC C.byteV,{ b6.zero with code:=c,data:=(hY C).bytesR C.byteV })
def f7 (c:Int)(C:aA) : aA × b6:=(oH C,{ b6.zero with code:=c,addr:=C.wordV,value:=(C.wordsC 1).wordV })
def nN (c:Int)(C:aA) : aA × b6:=(Cm C,{ b6.zero with code:=c,addr:=C.wordV,count:=Co C,bits:=(AP C).getD [] })
def bj (dir c:Int)(C:aA) : Option (aA × b6) :=
  if c==1 || c==2 then (if dir==0 then some (fk 2000 c C) else some (gO c C))
  else if c==5 then some (f7 c C)
  else if c==15 then (if dir==0 then some (nN c C) else some (fk 1968 c C))
  else none
def bB (c:aA)(a most:Int) : aA:=((c.wordsC 1).need (decide (1≤c.wordV)&&decide (c.wordV≤most)) 5).need (eN a c.wordV) 7
def cA (c:aA)(n:Int) : aA:=(c.bytesC 1).need (c.byteV==2*n) 5
def jP (n hi:Int) : Bool:=n%2==0&&decide (2≤n)&&decide (n≤hi)
def ll (C:aA) : aA:=(C.bytesC 1).need (jP C.byteV 250) 5
def tv (c:aA) : aA:=(c.wordsC 1).need (jP c.wordV 64) 5
def zV (c:aA) : aA:=((tv c).wordsC 1).need (2+2*(tv c).wordV==c.wordV) 5
def fH (C:aA) : aA:=(bB (C.wordsC 1) C.wordV 125).wordsC 1
def t1 (C:aA) : aA:=bB (fH C) (bB (C.wordsC 1) C.wordV 125).wordV 121
def cL (most c:Int)(C:aA) : aA × b6:=(bB (C.wordsC 1) C.wordV most,{ b6.zero with code:=c,addr:=C.wordV,count:=(C.wordsC 1).wordV })
def dC (c:Int)(C:aA) : aA × b6:=((ll C).wordsC (C.byteV/2),{ b6.zero with code:=c,words:=(ll C).wordsR (C.byteV/2) })
def fZ (c:Int)(C:aA) : aA × b6:=((C.wordsC 1).wordsC 1,{ b6.zero with code:=c,addr:=C.wordV,value:=(C.wordsC 1).wordV })
def iG (C:aA) : aA:=cA (bB (C.wordsC 1) C.wordV 123) (C.wordsC 1).wordV
def eY (c:Int)(C:aA) : aA × b6:=((iG C).wordsC (C.wordsC 1).wordV,{ b6.zero with code:=c,addr:=C.wordV,count:=(C.wordsC 1).wordV,words:=(iG C).wordsR (C.wordsC 1).wordV })
def ez (c:Int)(C:aA) : aA × b6:=(((C.wordsC 1).wordsC 1).wordsC 1,{ b6.zero with code:=c,addr:=C.wordV,and_:=(C.wordsC 1).wordV,or_:=((C.wordsC 1).wordsC 1).wordV })
def hH (C:aA) : aA:=cA (t1 C) (fH C).wordV
def eZ (c:Int)(C:aA) : aA × b6:=((hH C).wordsC (fH C).wordV,{ b6.zero with code:=c,addr:=C.wordV,count:=(C.wordsC 1).wordV,addr2:=(bB (C.wordsC 1) C.wordV 125).wordV,words:=(hH C).wordsR (fH C).wordV })
def fu (c:Int)(C:aA) : aA × b6:=(C.wordsC 1,{ b6.zero with code:=c,addr:=C.wordV })
def y4 (c:Int)(C:aA) : aA × b6:=((zV C).wordsC (tv C).wordV,{ b6.zero with code:=c,words:=(zV C).wordsR (tv C).wordV })
def bQ (dir c:Int)(C:aA) : Option (aA × b6) :=
  if c==3 || c==4 then (if dir==0 then some (cL 125 c C) else some (dC c C))
  else if c==6 then some (fZ c C)
  else if c==16 then (if dir==0 then some (eY c C) else some (cL 123 c C))
  else if c==22 then some (ez c C)
  else if c==23 then (if dir==0 then some (eZ c C) else some (dC c C))
  else if c==24 then (if dir==0 then some (fu c C) else some (y4 c C))
  else none
def cC (M:b6)(c:aA) : b6 × Int:=if c.endC.e=0 then (M,0) else (b6.zero,c.endC.e)
def bS (g gm:Nat)(c:aA)(M:b6)(w:World)(e:Ending)(w':World) : Prop:=e = .returned (.tuple #[])∧ag w' g c∧(∃ cs,Di w' gm cs∧aE (.hi w.heap.size) w' cs.toList M)∧ap [g,gm] w w'
theorem de{M:b6}{c:aA}{w W:World}{cs:Array Value}(h0:c.endC.e=0)(h:aE (.hi w.heap.size) W cs.toList M)(hu:ap [] w W) : dL (cC M c) w (.returned (.tuple #[.agg cs,.int .i64 0])) W:=by
  unfold cC
  rw[if_pos h0]
  exact⟨cs,rfl,h,hu⟩
theorem cQ{M:b6}{c:aA}{w W:World}(h0:¬ c.endC.e=0)(hu:ap [] w W) : dL (cC M c) w (.returned (.tuple #[.agg wU,.int .i64 c.endC.e])) W:=by
  unfold cC
  rw[if_neg h0]
  exact⟨wU,rfl,aE.zero ..,hu⟩
theorem bV{x:Int}{w W:World}(hu:ap [] w W) : dL (b6.zero,x) w (.returned (.tuple #[.agg wU,.int .i64 x])) W:=⟨wU,rfl,aE.zero ..,hu⟩
theorem f5{q:IntKind}{n:Int}:∀ (l:List MapEntry)(i:Nat),(∀ e,e∈l→∃ k,e.key = .int q k∧k≠n)→Instr.findNow (.int q) (.int q n) l i=some none
  | [],_,_=>rfl
  | e :: l,i,h=>by
    obtain⟨k,hk,hn⟩:=h e (by simp)
    have:(n==k)=false:=by simpa using fun h=>hn h.symm
    simp only[Instr.findNow,hk,Instr.sameNow,this,if_true]
    exact f5 l (i+1) fun e he=>h e (by simp[he])
def aG (form:Int→Int→aA→Option (aA × b6))(dir c:Int)(b:List Int) : b6 × Int :=
  if dir=0∨dir=1 then
    match form dir c ⟨b,false,0⟩ with
    | none=>(b6.zero,4)
    | some r=>cC r.2 r.1
  else (b6.zero,1)
def rM (g gm:Nat)(C':aA)(cs:Array Value)(w:World)(e:Ending)(w':World) : Prop:=e = .returned (.tuple #[])∧ag w' g C'∧w'.heap[gm]? = some (.cells cs 45 (0,0))∧ap [g,gm] w w'
open Go.RowKit
def eC (x:Int) : Bool:=decide (x∈([1,2,3,4,5,6,7,8,11,12,15,16,17,20,21,22,23,24,43] : List Int))
theorem m7{x:Int}{w:World}:Calls Tryz.prog 130 #[vB x] w (bH (.bool (eC x)) w):=by
 refine en 7 Tryz.func130 rfl<|au 1<|ng<|L0<|dv (m:=19) (e:=5) #[vB 1,vB 2,vB 3,vB 4,vB 5,vB 6,vB 7,vB 8,vB 11,vB 12,vB 15,vB 16,vB 17,vB 20,vB 21,vB 22,vB 23,vB 24,vB 43] fun h i a b c=>?_
 have d:=dF a (xs:=[1,2,3,4,5,6,7,8,11,12,15,16,17,20,21,22,23,24,43]) (by as_aux_lemma=>kernel_rfl) (am (by omega) (am (by omega) (am (by omega) (am (by omega) (am (by omega) (am (by omega) (am (by omega) (am (by omega) (am (by omega) (am (by omega) (am (by omega) (am (by omega) (am (by omega) (am (by omega) (am (by omega) (am (by omega) (am (by omega) (am (by omega) (am (by omega) aY))))))))))))))))))) (by(try simp only[List.length_cons,List.length_nil]);omega) b
 refine aF<|BV (ws (xs:=[1,2,3,4,5,6,7,8,11,12,15,16,17,20,21,22,23,24,43]) (d).rd (by decide) (by decide)) fun j k l n f g=>Pl 1<|L0<|CB f x ([1,2,3,4,5,6,7,8,11,12,15,16,17,20,21,22,23,24,43])<|al 1<|rt<|rr (.bool (decide (x∈[1,2,3,4,5,6,7,8,11,12,15,16,17,20,21,22,23,24,43])))<|?_
 exact⟨rfl,(aH c g)⟩
def dU (x:Int) : Bool:=decide (x∈([1,2,3,4,5,6,8,10,11] : List Int))
theorem kc{x:Int}{w:World}:Calls Tryz.prog 131 #[vB x] w (bH (.bool (dU x)) w):=by
 refine en 7 Tryz.func131 rfl<|au 1<|ng<|L0<|dv (m:=9) (e:=5) #[vB 1,vB 2,vB 3,vB 4,vB 5,vB 6,vB 8,vB 10,vB 11] fun h i a b c=>?_
 have d:=dF a (xs:=[1,2,3,4,5,6,8,10,11]) (by as_aux_lemma=>kernel_rfl) (am (by omega) (am (by omega) (am (by omega) (am (by omega) (am (by omega) (am (by omega) (am (by omega) (am (by omega) (am (by omega) aY))))))))) (by(try simp only[List.length_cons,List.length_nil]);omega) b
 refine aF<|BV (ws (xs:=[1,2,3,4,5,6,8,10,11]) (d).rd (by decide) (by decide)) fun j k l n f g=>Pl 1<|L0<|CB f x ([1,2,3,4,5,6,8,10,11])<|al 1<|rt<|rr (.bool (decide (x∈[1,2,3,4,5,6,8,10,11])))<|?_
 exact⟨rfl,(aH c g)⟩
def gk (x:Int) : Bool:=decide (x∈([0,1,2,3,4,10,11,12,13,14,15,16,17,18,20] : List Int))
theorem x5{x:Int}{w:World}:Calls Tryz.prog 210 #[vW x] w (bH (.bool (gk x)) w):=by
 refine en 7 Tryz.func210 rfl<|au 1<|ng<|L0<|dv (m:=15) (e:=37) #[vW 0,vW 1,vW 2,vW 3,vW 4,vW 10,vW 11,vW 12,vW 13,vW 14,vW 15,vW 16,vW 17,vW 18,vW 20] fun h i a b c=>?_
 have d:=gN a (xs:=[0,1,2,3,4,10,11,12,13,14,15,16,17,18,20]) (by as_aux_lemma=>kernel_rfl) (am (by omega) (am (by omega) (am (by omega) (am (by omega) (am (by omega) (am (by omega) (am (by omega) (am (by omega) (am (by omega) (am (by omega) (am (by omega) (am (by omega) (am (by omega) (am (by omega) (am (by omega) aY))))))))))))))) (by(try simp only[List.length_cons,List.length_nil]);omega) b
 refine aF<|BV (zS (xs:=[0,1,2,3,4,10,11,12,13,14,15,16,17,18,20]) (d).rd (by decide) (by decide)) fun j k l n f g=>Pl 1<|L0<|CB f x ([0,1,2,3,4,10,11,12,13,14,15,16,17,18,20])<|al 1<|rt<|rr (.bool (decide (x∈[0,1,2,3,4,10,11,12,13,14,15,16,17,18,20])))<|?_
 exact⟨rfl,(aH c g)⟩
def bI (x:Int) : Bool:=decide (x∈([1,2,3,129,130,131] : List Int))
theorem tz{x:Int}{w:World}:Calls Tryz.prog 221 #[vB x] w (bH (.bool (bI x)) w):=by
 refine en 7 Tryz.func221 rfl<|au 1<|ng<|L0<|zq fun o p a b c=>L0<|gM b 1 fun q eo d=>L0<|gM eo 2 fun r e f=>L0<|gM e 3 fun s g h=>L0<|gM g 129 fun t i j=>L0<|gM i 130 fun u k l=>?_
 refine L0<|gM k 131 fun v m n=>Pl 2<|L0<|CB m x ([1,2,3,129,130,131])<|al 1<|rt<|rr (.bool (decide (x∈[1,2,3,129,130,131])))<|?_
 exact⟨rfl,(ud c (u1 d (u1 f (u1 h (u1 j (u1 l n im) im) im) im) im) a)⟩
open Go.RowKit
open Go.RowKit
structure bf (M:b6) : Prop where
  words:M.words.length≤1024
  bits:M.bits.length≤4096
  data:M.data.length≤1024
  recs:M.recs.length≤64
  recw:∀ r,r∈M.recs→r.words.length≤1024
  objects:M.objects.length≤128
  objv:∀ r,r∈M.objects→r.value.length≤1024
def wK (l:List Int)(w:World)(e:Ending)(w':World) : Prop:=∃ v,e = .returned v∧cn w.heap.size w' v l∧ap [] w w'
theorem nU(l:List Bool) : ((dy l).length:Int)=eI l.length:=by
  have h:0≤eI l.length:=by unfold eI;split<;>omega
  simp only[dy,List.length_map,List.length_range]
  omega
theorem wV(l:List Bool) : (dy l).length≤l.length:=by
  have:=nU l
  unfold eI at this
  split at this<;>omega
open Go.RowKit
open Go.RowKit
def mr (x:Int) : Nat:=if x=1∨x=2∨x=5∨x=15 then 1 else if x=3∨x=4∨x=6∨x=16∨x=22∨x=23∨x=24 then 2 else if x=7∨x=8∨x=11∨x=12∨x=17 then 3 else if x=20∨x=21 then 4 else if x=43 then 5 else 0
def B9:Nat→Value
  | 1=>.tuple #[.agg #[.func (.func 96) #[] #[],.func (.func 97) #[] #[]],.bool true]
  | 2=>.tuple #[.agg #[.func (.func 98) #[] #[],.func (.func 99) #[] #[]],.bool true]
  | 3=>.tuple #[.agg #[.func (.func 100) #[] #[],.func (.func 101) #[] #[]],.bool true]
  | 4=>.tuple #[.agg #[.func (.func 102) #[] #[],.func (.func 103) #[] #[]],.bool true]
  | 5=>.tuple #[.agg #[.func (.func 104) #[] #[],.func (.func 105) #[] #[]],.bool true]
  | _=>.tuple #[.agg #[.nilFunc,.nilFunc],.bool false]
theorem jI(x:Int) : ((x=1∨x=2∨x=5∨x=15)∧mr x=1)∨((x=3∨x=4∨x=6∨x=16∨x=22∨x=23∨x=24)∧mr x=2)∨((x=7∨x=8∨x=11∨x=12∨x=17)∧mr x=3)∨((x=20∨x=21)∧mr x=4)∨((x=43)∧mr x=5)∨((¬ x=1∧¬ x=2∧¬ x=5∧¬ x=15∧¬ x=3∧¬ x=4∧¬ x=6∧¬ x=16∧¬ x=22∧¬ x=23∧¬ x=24∧¬ x=7∧¬ x=8∧¬ x=11∧¬ x=12∧¬ x=17∧¬ x=20∧¬ x=21∧¬ x=43)∧mr x=0):=by
  unfold mr
  repeat
    split
    · simp_all
  simp_all
def eK:Array MapEntry:=#[⟨.int .u8 1,.agg #[.func (.func 96) #[] #[],.func (.func 97) #[] #[]],0⟩,⟨.int .u8 2,.agg #[.func (.func 96) #[] #[],.func (.func 97) #[] #[]],1⟩,⟨.int .u8 5,.agg #[.func (.func 96) #[] #[],.func (.func 97) #[] #[]],2⟩,⟨.int .u8 15,.agg #[.func (.func 96) #[] #[],.func (.func 97) #[] #[]],3⟩,⟨.int .u8 3,.agg #[.func (.func 98) #[] #[],.func (.func 99) #[] #[]],4⟩,⟨.int .u8 4,.agg #[.func (.func 98) #[] #[],.func (.func 99) #[] #[]],5⟩,⟨.int .u8 6,.agg #[.func (.func 98) #[] #[],.func (.func 99) #[] #[]],6⟩,⟨.int .u8 16,.agg #[.func (.func 98) #[] #[],.func (.func 99) #[] #[]],7⟩,⟨.int .u8 22,.agg #[.func (.func 98) #[] #[],.func (.func 99) #[] #[]],8⟩,⟨.int .u8 23,.agg #[.func (.func 98) #[] #[],.func (.func 99) #[] #[]],9⟩,⟨.int .u8 24,.agg #[.func (.func 98) #[] #[],.func (.func 99) #[] #[]],10⟩,⟨.int .u8 7,.agg #[.func (.func 100) #[] #[],.func (.func 101) #[] #[]],11⟩,⟨.int .u8 8,.agg #[.func (.func 100) #[] #[],.func (.func 101) #[] #[]],12⟩,⟨.int .u8 11,.agg #[.func (.func 100) #[] #[],.func (.func 101) #[] #[]],13⟩,⟨.int .u8 12,.agg #[.func (.func 100) #[] #[],.func (.func 101) #[] #[]],14⟩,⟨.int .u8 17,.agg #[.func (.func 100) #[] #[],.func (.func 101) #[] #[]],15⟩,⟨.int .u8 20,.agg #[.func (.func 102) #[] #[],.func (.func 103) #[] #[]],16⟩,⟨.int .u8 21,.agg #[.func (.func 102) #[] #[],.func (.func 103) #[] #[]],17⟩,⟨.int .u8 43,.agg #[.func (.func 104) #[] #[],.func (.func 105) #[] #[]],18⟩]
theorem eL{x:Int}{w:World}:Calls Tryz.prog 73 #[vB x] w (bH (B9 (mr x)) w):=by
 refine en 44 Tryz.func73 rfl<|sg<|aL #[.nilFunc,.nilFunc] fun bF bG g j ak=>Pl 1<|aS 2<|aL #[.nilFunc,.nilFunc] fun bI bJ am s an=>aL #[.nilFunc,.nilFunc] fun bK bL y z t=>?_
 refine aI (ub t s) #[.func (.func 96) #[] #[],.func (.func 97) #[] #[]] fun bM ao o=>?_
 have A:=nb (ai s) lr y
 refine aI (b7 o (Ne.symm A) z) #[.func (.func 98) #[] #[],.func (.func 99) #[] #[]] fun bN ap p=>aS 2<|aL #[.nilFunc,.nilFunc] fun bO bP aq u n=>aL #[.nilFunc,.nilFunc] fun bQ bR B C d=>?_
 refine aI (ub d u) #[.func (.func 100) #[] #[],.func (.func 101) #[] #[]] fun bS ar a=>?_
 have D:=nb (ai u) lr B
 refine aI (b7 a (Ne.symm D) C) #[.func (.func 102) #[] #[],.func (.func 103) #[] #[]] fun bT au b=>ng<|L0<|zq fun bU bV c av E=>?_
 have F:=aH b E
 have G:=ud n (ue d (us a F) B) aq
 have H:=aH p G
 have I:=b7 H A ao
 refine L0<|cH I<|L0<|gM av 1 fun bW aw J=>?_
 have v:=nb (ai s) (le (le (le (le (le (le t.size o.size) p.size) n.size) d.size) a.size) b.size) c
 have K:=b7 J v I
 refine L0<|cH K<|L0<|gM aw 2 fun bX ax L=>?_
 have M:=b7 L v K
 refine L0<|cH M<|L0<|gM ax 5 fun bY ay N=>?_
 refine L0<|cH (b7 N v M)<|L0<|gM ay 15 fun bZ az aA=>?_
 have O:=u1 J (u1 L (u1 N aA im) im) im
 have P:=ub (ud G O (le (le (le (le n.size d.size) a.size) b.size) c)) ap
 refine L0<|cH P<|L0<|gM az 3 fun c0 aB Q=>?_
 have k:=nb (ai z) (le (le (le (le (le o.size p.size) n.size) d.size) a.size) b.size) c
 have R:=b7 Q k P
 refine L0<|cH R<|L0<|gM aB 4 fun c1 aC S=>?_
 have T:=b7 S k R
 refine L0<|cH T<|L0<|gM aC 6 fun c2 aD U=>?_
 have V:=b7 U k T
 refine L0<|cH V<|L0<|gM aD 16 fun c3 aE W=>?_
 have X:=b7 W k V
 refine L0<|cH X<|L0<|gM aE 22 fun c4 aF Y=>?_
 have Z:=b7 Y k X
 refine L0<|cH Z<|L0<|gM aF 23 fun c5 aG a0=>?_
 refine L0<|cH (b7 a0 k Z)<|L0<|gM aG 24 fun c6 aJ aK=>?_
 have a1:=u1 O (u1 Q (u1 S (u1 U (u1 W (u1 Y (u1 a0 aK im) im) im) im) im) im) im
 have a2:=b7 (u1 F a1 (ni b.size c)) D ar
 refine L0<|cH a2<|L0<|gM aJ 7 fun c7 aM a3=>?_
 have r:=nb (ai u) (le (le d.size a.size) b.size) c
 have a4:=b7 a3 r a2
 refine L0<|cH a4<|L0<|gM aM 8 fun c8 aN a5=>?_
 have a6:=b7 a5 r a4
 refine L0<|cH a6<|L0<|gM aN 11 fun c9 aO a7=>?_
 have a8:=b7 a7 r a6
 refine L0<|cH a8<|L0<|gM aO 12 fun ca aP a9=>?_
 refine L0<|cH (b7 a9 r a8)<|L0<|gM aP 17 fun cb aQ aR=>?_
 have aa:=u1 a1 (u1 a3 (u1 a5 (u1 a7 (u1 a9 aR im) im) im) im) im
 have ab:=ub (ud E aa c) au
 refine L0<|cH ab<|L0<|gM aQ 20 fun cc aT ac=>?_
 refine L0<|cH (b7 ac (nb (ai C) (le a.size b.size) c) ab)<|L0<|gM aT 21 fun cd aU aV=>Pl 1<|L0<|gM aU 43 fun ce l aW=>Pl 2<|aS 2<|?_
 have f:=ud an (ue t (us o (u1 H (u1 aa (u1 ac (u1 aV aW im) im) im) (ni (le (le (le (le p.size n.size) d.size) a.size) b.size) c))) y) am
 have m:=aH ak f
 rcases jI x with⟨hk,hkf⟩|⟨hk,hkf⟩|⟨hk,hkf⟩|⟨hk,hkf⟩|⟨hk,hkf⟩|⟨hk,hkf⟩
 obtain⟨ix,hix⟩ : ∃ i,Instr.findNow (.int .u8) (vB x) eK.toList 0=some (some (i,.agg #[.func (.func 96) #[] #[],.func (.func 97) #[] #[]])):=by
   rcases hk with rfl|rfl|rfl|rfl
   · exact⟨0,by kernel_rfl⟩
   · exact⟨1,by kernel_rfl⟩
   · exact⟨2,by kernel_rfl⟩
   · exact⟨3,by kernel_rfl⟩
 refine L0<|o8 (hf:=(BG eK hix)) l x (.agg #[.nilFunc,.nilFunc]) (some (ix,.agg #[.func (.func 96) #[] #[],.func (.func 97) #[] #[]]))<|Pl 3<|aL #[.nilFunc,.nilFunc] fun cf cg aX aY aZ=>aI aY #[.func (.func 96) #[] #[],.func (.func 97) #[] #[]] fun ch b0 b1=>Pl 1<|ng<|L0<|cH b0<|Pl 1<|?_
 have ad:=ud aZ b1 aX
 refine aI (ub (aH f ad) j) #[.func (.func 96) #[] #[],.func (.func 97) #[] #[]] fun ci b2 b3=>al 1<|rt<|dZ b2 (.bool true)<|?_
 rw[hkf]
 exact⟨rfl,(ud m (uz ad b3) g)⟩
 obtain⟨ix,hix⟩ : ∃ i,Instr.findNow (.int .u8) (vB x) eK.toList 0=some (some (i,.agg #[.func (.func 98) #[] #[],.func (.func 99) #[] #[]])):=by
   rcases hk with rfl|rfl|rfl|rfl|rfl|rfl|rfl
   · exact⟨4,by kernel_rfl⟩
   · exact⟨5,by kernel_rfl⟩
   · exact⟨6,by kernel_rfl⟩
   · exact⟨7,by kernel_rfl⟩
   · exact⟨8,by kernel_rfl⟩
   · exact⟨9,by kernel_rfl⟩
   · exact⟨10,by kernel_rfl⟩
 refine L0<|o8 (hf:=(BG eK hix)) l x (.agg #[.nilFunc,.nilFunc]) (some (ix,.agg #[.func (.func 98) #[] #[],.func (.func 99) #[] #[]]))<|Pl 3<|aL #[.nilFunc,.nilFunc] fun cj ck b4 b5 b6=>aI b5 #[.func (.func 98) #[] #[],.func (.func 99) #[] #[]] fun cl b8 b9=>Pl 1<|ng<|L0<|cH b8<|Pl 1<|?_
 have ae:=ud b6 b9 b4
 refine aI (ub (aH f ae) j) #[.func (.func 98) #[] #[],.func (.func 99) #[] #[]] fun cm ba bb=>al 1<|rt<|dZ ba (.bool true)<|?_
 rw[hkf]
 exact⟨rfl,(ud m (uz ae bb) g)⟩
 obtain⟨ix,hix⟩ : ∃ i,Instr.findNow (.int .u8) (vB x) eK.toList 0=some (some (i,.agg #[.func (.func 100) #[] #[],.func (.func 101) #[] #[]])):=by
   rcases hk with rfl|rfl|rfl|rfl|rfl
   · exact⟨11,by kernel_rfl⟩
   · exact⟨12,by kernel_rfl⟩
   · exact⟨13,by kernel_rfl⟩
   · exact⟨14,by kernel_rfl⟩
   · exact⟨15,by kernel_rfl⟩
 refine L0<|o8 (hf:=(BG eK hix)) l x (.agg #[.nilFunc,.nilFunc]) (some (ix,.agg #[.func (.func 100) #[] #[],.func (.func 101) #[] #[]]))<|Pl 3<|aL #[.nilFunc,.nilFunc] fun cn co bc bd be=>aI bd #[.func (.func 100) #[] #[],.func (.func 101) #[] #[]] fun cp bf bg=>Pl 1<|ng<|L0<|cH bf<|Pl 1<|?_
 have af:=ud be bg bc
 refine aI (ub (aH f af) j) #[.func (.func 100) #[] #[],.func (.func 101) #[] #[]] fun cq bh bi=>al 1<|rt<|dZ bh (.bool true)<|?_
 rw[hkf]
 exact⟨rfl,(ud m (uz af bi) g)⟩
 obtain⟨ix,hix⟩ : ∃ i,Instr.findNow (.int .u8) (vB x) eK.toList 0=some (some (i,.agg #[.func (.func 102) #[] #[],.func (.func 103) #[] #[]])):=by
   rcases hk with rfl|rfl
   · exact⟨16,by kernel_rfl⟩
   · exact⟨17,by kernel_rfl⟩
 refine L0<|o8 (hf:=(BG eK hix)) l x (.agg #[.nilFunc,.nilFunc]) (some (ix,.agg #[.func (.func 102) #[] #[],.func (.func 103) #[] #[]]))<|Pl 3<|aL #[.nilFunc,.nilFunc] fun cr cs bj bk bl=>aI bk #[.func (.func 102) #[] #[],.func (.func 103) #[] #[]] fun ct bm bn=>Pl 1<|ng<|L0<|cH bm<|Pl 1<|?_
 have ag:=ud bl bn bj
 refine aI (ub (aH f ag) j) #[.func (.func 102) #[] #[],.func (.func 103) #[] #[]] fun cu bo bp=>al 1<|rt<|dZ bo (.bool true)<|?_
 rw[hkf]
 exact⟨rfl,(ud m (uz ag bp) g)⟩
 obtain⟨ix,hix⟩ : ∃ i,Instr.findNow (.int .u8) (vB x) eK.toList 0=some (some (i,.agg #[.func (.func 104) #[] #[],.func (.func 105) #[] #[]])):=by
   rcases hk with rfl
   · exact⟨18,by kernel_rfl⟩
 refine L0<|o8 (hf:=(BG eK hix)) l x (.agg #[.nilFunc,.nilFunc]) (some (ix,.agg #[.func (.func 104) #[] #[],.func (.func 105) #[] #[]]))<|Pl 3<|aL #[.nilFunc,.nilFunc] fun cv cw bq br bs=>aI br #[.func (.func 104) #[] #[],.func (.func 105) #[] #[]] fun cx bt bu=>Pl 1<|ng<|L0<|cH bt<|Pl 1<|?_
 have ah:=ud bs bu bq
 refine aI (ub (aH f ah) j) #[.func (.func 104) #[] #[],.func (.func 105) #[] #[]] fun cy bv bw=>al 1<|rt<|dZ bv (.bool true)<|?_
 rw[hkf]
 exact⟨rfl,(ud m (uz ah bw) g)⟩
 refine L0<|o8 (hf:=(Cs (q:=.u8) (x:=x) eK (by unfold eK;exact f5 _ _ (by intro e he;simp only[List.mem_cons,List.not_mem_nil,or_false] at he;obtain⟨z1,z2,z5,cz,z3,z4,z6,cA,cB,cC,cD,z7,z8,cE,cF,cG,cI,cJ,cK⟩:=hk;rcases he with rfl | rfl | rfl | rfl | rfl | rfl | rfl | rfl | rfl | rfl | rfl | rfl | rfl | rfl | rfl | rfl | rfl | rfl | rfl<;>exact⟨_,rfl,fun h=>by omega⟩)))) l x (.agg #[.nilFunc,.nilFunc]) none<|Pl 3<|aL #[.nilFunc,.nilFunc] fun cL cM bx bz bA=>aI bz #[.nilFunc,.nilFunc] fun cN bB bC=>Pl 1<|ng<|L0<|cH bB<|Pl 1<|?_
 have aj:=ud bA bC bx
 refine aI (ub (aH f aj) j) #[.nilFunc,.nilFunc] fun cO bD bE=>al 1<|rt<|dZ bD (.bool false)<|?_
 rw[hkf]
 exact⟨rfl,(ud m (uz aj bE) g)⟩
end Go.Proofs.YtdkhbcefkfgbdaaGreat
