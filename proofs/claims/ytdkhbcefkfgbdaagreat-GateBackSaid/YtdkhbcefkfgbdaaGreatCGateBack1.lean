/- Contracts of functions, part CGateBack1. -/
import Derived.Test.YtdkhbcefkfgbdaaGreatProg
import Derived.WalkKit
import Derived.WalkSpells
import Derived.WalkLawsBesides
import Derived.Maps.AppendAt
import Derived.Deep.Draws
import Derived.Laws.AppendOwnNone
import Derived.StillTailTactics
import Derived.Deep.RegionHeld3
import Derived.Deep.AppendLies
import Derived.Lib.Hide
import Derived.Laws.ShiftsVarLaws
import Derived.Deep.OwnRows
import Derived.ChangeMaps4
import Derived.Deep.MidRow
import Derived.Laws.BytesArg
import Derived.Orders
set_option linter.unusedVariables false
set_option linter.unusedSimpArgs false
set_option maxRecDepth 100000
set_option maxHeartbeats 4000000
namespace Go.Proofs.YtdkhbcefkfgbdaaGreat
open Go.RowKit
abbrev vB (x:Int) : Value:=.int .u8 x
abbrev vW (x:Int) : Value:=.int .u16 x
abbrev vI (x:Int) : Value:=.int .i64 x
abbrev vP (g o:Nat) : Value:=.pointer (some ⟨g,o,none⟩)
abbrev nS:Value:=.slice none 0 0
variable {w w':World}
theorem dQ{α:Sort _}{P:α→World→Ending→World→Prop}{x y:α}  {e:Ending}(h:x=y)(k:P y w e w') : P x w e w':=h▸k
structure ay (S:List Nat) (w w':World) : Prop where
  os:w'.os=w.os
  tape:w'.tape=w.tape
  output:w'.output=w.output
  size:w.heap.size≤w'.heap.size
  block:∀ k,k<w.heap.size→k∉S→w'.heap[k]? = w.heap[k]?
theorem ay.refl(S:List Nat)(w:World) : ay S w w:=⟨rfl,rfl,rfl,Nat.le_refl _,fun _ _ _=>rfl⟩
variable {S S':List Nat}{a b:World}
theorem ay.trans'{c:World}(h:ay S a b)(k:ay S' b c)(hS:∀ x,x∈S'→x∈S∨a.heap.size≤x) : ay S a c :=
  ⟨k.os.trans h.os,k.tape.trans h.tape,k.output.trans h.output,Nat.le_trans h.size k.size,fun i hi hn =>
    (k.block i (Nat.lt_of_lt_of_le hi h.size) (fun hx=>by rcases hS i hx with h1 | h1;exact hn h1;omega)).trans (h.block i hi hn)⟩
theorem ay.trans{c:World}(h:ay S a b)(k:ay S b c) : ay S a c:=h.trans' k fun _ hx=>.inl hx
theorem ay.step{c:World}(h:ay S a b)(k:ay [] b c) : ay S a c:=h.trans' k fun _ hx=>by simp at hx
theorem ay.mono(h:ay S a b)(hS:∀ x,x∈S→x∈S'∨a.heap.size≤x) : ay S' a b:=(ay.refl S' a).trans' h hS
theorem ay.fresh{c:World}(h:ay S a b)(k:ay S' b c)(hS:∀ x,x∈S'→a.heap.size≤x) : ay S a c:=h.trans' k fun x hx=>.inr (hS x hx)
theorem ay.fresh1{c:World}{x:Nat}(h:ay S a b)(k:ay [x] b c)(hx:a.heap.size≤x) : ay S a c:=h.fresh k fun y hy=>by simp at hy;subst hy;exact hx
theorem ay.of_grown{row:Option Nat}(h:w.grownBy w' row)(S:List Nat)(hr:∀ k,row=some k→k∈S∨w.heap.size≤k) : ay S w w' :=
  ⟨h.os,h.tape,h.output,h.size,fun k hk hn=>h.block k hk (fun e=>by rcases hr k e.symm with h1 | h1;exact hn h1;omega)⟩
theorem ay.alloc(h:ay S a w)(o:Obj) : ay S a (w.alloc o) :=
  h.step ⟨rfl,rfl,rfl,by simp,fun k hk _=>Below.heap_alloc _ _ _ hk⟩
theorem ay.drew(h:ay S a w) : ay S a w.drew:=⟨h.os,h.tape,h.output,h.size,h.block⟩
variable {p:Addr}
theorem ay.setCell(h:ay S a w)  (hp:p.block∈S∨a.heap.size≤p.block)(u:Value) : ay S a (w.setCell p u) :=
  h.trans' (S':=[p.block]) ⟨rfl,rfl,rfl,by simp[World.setCell],fun k hk hn=>Below.heap_setCell _ _ _ _ (by simpa using hn)⟩ (fun x hx=>by simp at hx;subst hx;exact hp)
variable {v:Value}
theorem ay.cell(h:ay S w w')   (hp:p.block∉S)(hc:w.cell? p=some v) : w'.cell? p=some v :=
  (World.cell?_of_block (h.block p.block (World.block_lt_of_cell? w p hc) hp)).trans hc
theorem ay.froz(h:ay S w w')  {b:Bool}(hp:p.block∉S)(hl:p.block<w.heap.size)(hc:w.frozen? p=b) : w'.frozen? p=b :=
  (World.frozen?_of_block (h.block p.block hl hp)).trans hc
variable {g:Nat}{o:Obj}
theorem ay.blk(h:ay S w w')   (hg:g∉S)(hb:w.heap[g]? = some o) : w'.heap[g]? = some o :=
  (h.block g (Array.getElem?_eq_some_iff.1 hb).1 hg).trans hb
theorem ag(h:w.heap[g]? = some o) : g<w.heap.size:=(Array.getElem?_eq_some_iff.1 h).1
variable {cs:Array Value}{fr:Nat × Nat}{t:TypeId}
theorem bh(h:w.heap[g]? = some (.cells cs t fr))(i:Nat) : w.cell? ⟨g,i,none⟩=cs[i]?:=by simp[World.cell?,h]
theorem fa(h:w.heap[g]? = some (.cells cs t (0,0)))(i:Nat) : w.frozen? ⟨g,i,none⟩=false:=by simp[World.frozen?,h]
theorem dE(w:World)(o:Obj) : (w.alloc o).heap[w.heap.size]? = some o:=by show(w.heap.push o)[_]? = _;simp
theorem zK(h:w.heap[g]? = some o)(o':Obj) : (w.alloc o').heap[g]? = some o:=(Below.heap_alloc _ _ _ (ag h)).trans h
theorem gJ(h:w.heap[g]? = some (.cells cs t fr))(i:Nat)(u:Value) :
    (w.setCell ⟨g,i,none⟩ u).heap[g]? = some (.cells (cs.setIfInBounds i u) t fr):=by
  simp[World.setCell,Array.getElem?_modify,h]
theorem fw{g':Nat}{t':TypeId}{cs':Array Value}{fr':Nat × Nat}(h:w.heap[g]? = some (.cells cs t fr))(h':w.heap[g']? = some (.cells cs' t' fr'))(hne:t≠t') : g≠g':=by
  rintro rfl
  rw[h] at h'
  injection h' with h'
  injection h' with _ ht
  exact hne ht
inductive Md where
  | f
  | t
  | hi (n:Nat)
instance:Coe Bool Md:=⟨fun b=>bif b then .t else .f⟩
def Md.own:Md→Bool
  | .f=>false
  | _=>true
def Md.lo:Md→Nat
  | .hi n=>n
  | _=>0
def bV (m:Md)(D:List TypeId)(S:List Nat)(w:World) : Prop :=
  ∀ s,s∈S→w.heap.size≤s∨(m.own=true∧∃ cells t fr,w.heap[s]? = some (.cells cells t fr)∧(t∉D∨s<m.lo))
theorem bV.nil(m:Md)(D:List TypeId)(w:World) : bV m D [] w:=fun s hs=>by simp at hs
variable {D:List TypeId}{m:Md}
theorem bV.one{cells:Array Value}   (h:w.heap[g]? = some (.cells cells t fr))(ht:t∉D)(hm:m.own=true:=by rfl) : bV m D [g] w :=
  fun s hs=>by simp at hs;subst hs;exact .inr ⟨hm,_,_,_,h,.inl ht⟩
theorem bV.two{g':Nat}  {cells cells':Array Value}{t':TypeId}{fr':Nat × Nat}(h:w.heap[g]? = some (.cells cells t fr))(ht:t∉D)
    (h':w.heap[g']? = some (.cells cells' t' fr')) (ht':t'∉D) : bV true D [g,g'] w :=
  fun s hs=>by
    simp at hs
    rcases hs with rfl|rfl
    · exact .inr ⟨rfl,_,_,_,h,.inl ht⟩
    · exact .inr ⟨rfl,_,_,_,h',.inl ht'⟩
theorem bV.sub{D':List TypeId}   (h:bV m D S w)(hD:∀ t,t∈D'→t∈D) : bV m D' S w :=
  fun s hs=>(h s hs).imp_right fun⟨a,c,t,fr,b,n⟩=>⟨a,c,t,fr,b,n.imp_left fun n hx=>n (hD t hx)⟩
theorem bV.fresh(h:∀ s,s∈S→w.heap.size≤s) : bV m D S w:=fun s hs=>.inl (h s hs)
def Fd (m:Md)(e t:TypeId)(b:Nat) : Prop:=m.own=true→t=e∧m.lo≤b
def aT {α:Type}(m:Md)(e:TypeId)(sz:Nat)(R:World→α→List Value→Prop)(w:World)(v:Value)(xs:List α) : Prop :=
  ∃ A c,v = .slice A xs.length c∧xs.length≤c∧c≤maxLen∧(A=none→c=0)∧(0<xs.length→∃ b off cells t fr,A=some ⟨b,off,none⟩∧w.heap[b]? = some (.cells cells t fr)∧Fd m e t b ∧
    ∀ (j:Nat) (x:α),xs[j]? = some x→∃ cs:List Value,cs.length=sz∧R w x cs∧∀ i u,cs[i]? = some u→cells[off+j*sz+i]? = some u)
variable {e:TypeId}{sz:Nat}{α:Type}
theorem aT.upd{R:World→α→List Value→Prop}   {xs:List α}
    (h:aT m e sz R w v xs) (hu:ay S w w') (hs:bV m [e] S w) (hR:∀ x cs,R w x cs→R w' x cs) : aT m e sz R w' v xs:=by
  obtain⟨A,c,rfl,h1,h2,h0,h3⟩:=h
  refine⟨A,c,rfl,h1,h2,h0,fun hp=>?_⟩
  obtain⟨b,off,cells,t,fr,rfl,hb,ht,hx⟩:=h3 hp
  refine⟨b,off,cells,t,fr,rfl,?_,ht,fun j x hj=>?_⟩
  · refine hu.blk (fun hbs=>?_) hb
    rcases hs b hbs with h4|⟨hm,cells',t',fr',h5,h6⟩
    · have:=ag hb;omega
    · rw[hb] at h5
      injection h5 with h5
      injection h5 with _ h7 _
      rcases h6 with h6|h6
      · exact h6 (by rw[← h7,(ht hm).1];simp)
      · exact absurd (ht hm).2 (by omega)
  · obtain⟨cs,hl,hr,hc⟩:=hx j x hj
    exact⟨cs,hl,hR _ _ hr,hc⟩
theorem aT.any{R R':World→α→List Value→Prop}   {xs:List α}(h:aT m e sz R w v xs)(hR:∀ x cs,R w x cs→R' w x cs) : aT false e sz R' w v xs:=by
  obtain⟨A,c,rfl,h1,h2,h0,h3⟩:=h
  refine⟨A,c,rfl,h1,h2,h0,fun hp=>?_⟩
  obtain⟨b,off,cells,t,fr,rfl,hb,ht,hx⟩:=h3 hp
  exact⟨b,off,cells,t,fr,rfl,hb,(fun h=>by cases h),fun j x hj=>by obtain⟨cs,hl,hr,hc⟩:=hx j x hj;exact⟨cs,hl,hR _ _ hr,hc⟩⟩
theorem aT.nil(m:Md)(e:TypeId)(sz:Nat)(R:World→α→List Value→Prop)(w:World) : aT m e sz R w (.slice none 0 0) [] :=
  ⟨none,0,rfl,Nat.le_refl _,by unfold maxLen;omega,fun _=>rfl,fun h=>by simp at h⟩
def lf (_:World)(x:Int)(cs:List Value) : Prop:=cs=[.int .u8 x]∧0≤x∧x<256
def yf (_:World)(x:Int)(cs:List Value) : Prop:=cs=[.int .u16 x]∧0≤x∧x<65536
def tL (_:World)(x:Bool)(cs:List Value) : Prop:=cs=[.bool x]
abbrev aW (m:Md) (w:World) (v:Value) (xs:List Int) : Prop:=aT m 5 1 lf w v xs
abbrev fv (m:Md) (w:World) (v:Value) (xs:List Int) : Prop:=aT m 37 1 yf w v xs
abbrev nB (m:Md) (w:World) (v:Value) (xs:List Bool) : Prop:=aT m 4 1 tL w v xs
variable {xs:List Int}
theorem aW.upd'(h:aW m w v xs)(hu:ay S w w')(hs:bV m [5] S w) : aW m w' v xs:=aT.upd h hu hs fun _ _ h=>h
theorem fv.upd'(h:fv m w v xs)(hu:ay S w w')(hs:bV m [37] S w) : fv m w' v xs:=aT.upd h hu hs fun _ _ h=>h
theorem nB.upd'{xs:List Bool}  (h:nB m w v xs)(hu:ay S w w')(hs:bV m [4] S w) : nB m w' v xs:=aT.upd h hu hs fun _ _ h=>h
theorem aW.old(h:aW m w v xs)(hu:ay [] w w') : aW m w' v xs:=h.upd' hu (bV.nil _ _ _)
theorem fv.old(h:fv m w v xs)(hu:ay [] w w') : fv m w' v xs:=h.upd' hu (bV.nil _ _ _)
theorem nB.old{xs:List Bool}(h:nB m w v xs)(hu:ay [] w w') : nB m w' v xs:=h.upd' hu (bV.nil _ _ _)
variable {A:Option Addr}{c n:Nat}
theorem aT.take{R:World→α→List Value→Prop}     {xs:List α}
    (h:aT m e sz R w (.slice A n c) xs) (k:Nat) (hk:k≤xs.length) : aT m e sz R w (.slice A k c) (xs.take k):=by
  obtain⟨A',c',hv,h1,h2,h0,h3⟩:=h
  injection hv with e1 e2 e3
  subst e1 e3
  have hl:(xs.take k).length=k:=by simp;omega
  refine⟨A,c,by rw[hl],by omega,h2,h0,fun hp=>?_⟩
  obtain⟨b,off,cells,t,fr,rfl,hb,ht,hx⟩:=h3 (by omega)
  refine⟨b,off,cells,t,fr,rfl,hb,ht,fun j x hj=>hx j x ?_⟩
  rw[List.getElem?_take] at hj
  split at hj
  · exact hj
  · cases hj
theorem jI(b off n:Nat)(sp:Option Nat)(h:sp=none) : (⟨b,off,sp⟩ : Addr).add n=⟨b,off+n,none⟩:=by
  subst h
  unfold Addr.add
  split
  · rename_i h;subst h;rfl
  · rfl
theorem aT.drop{R:World→α→List Value→Prop}     {xs:List α}
    (h:aT m e sz R w (.slice A n c) xs) (k:Nat) (hk:k≤xs.length) : aT m e sz R w (.slice (if c=k then A else A.map (·.add (k*sz))) (xs.length-k) (c-k)) (xs.drop k):=by
  obtain⟨A',c',hv,h1,h2,h0,h3⟩:=h
  injection hv with e1 e2 e3
  subst e1 e3
  have hl:(xs.drop k).length=xs.length-k:=by simp
  refine⟨_,_,by rw[hl],by omega,by omega,fun hA=>?_,fun hp=>?_⟩
  · split at hA
    · omega
    · have:=h0 (by cases A<;>simp_all)
      omega
  obtain⟨b,off,cells,t,fr,rfl,hb,ht,hx⟩:=h3 (by omega)
  refine⟨b,off+k*sz,cells,t,fr,?_,hb,ht,fun j x hj=>?_⟩
  · rw[if_neg (by omega)]
    simp[jI]
  · obtain⟨cs,h4,h5,h6⟩:=hx (k+j) x (by rw[List.getElem?_drop] at hj;exact hj)
    refine⟨cs,h4,h5,fun i u hi=>?_⟩
    have:=h6 i u hi
    rw[Nat.add_mul] at this
    rw[← this]
    congr 1
    omega
theorem aT.shape{R:World→α→List Value→Prop}   {xs:List α}(h:aT m e sz R w v xs) :
    ∃ A c,v = .slice A xs.length c∧xs.length≤c∧c≤maxLen:=by
  obtain⟨A,c,h0,h1,h2,_⟩:=h
  exact⟨A,c,h0,h1,h2⟩
theorem aW.at_(h:aW m w (.slice A n c) xs)(j:Nat)(hj:j<xs.length) :
    ∃ b off,A=some ⟨b,off,none⟩∧w.cell? ⟨b,off+j,none⟩=some (.int .u8 (xs.getD j 0))∧0≤xs.getD j 0∧xs.getD j 0<256:=by
  obtain⟨A',c',hv,h1,h2,h0,h3⟩:=h
  injection hv with e1 e2 e3
  subst e1 e3
  obtain⟨b,off,cells,t,fr,rfl,hb,ht,hx⟩:=h3 (by omega)
  have hg:xs[j]? = some (xs.getD j 0):=by simp[List.getD_eq_getElem?_getD,List.getElem?_eq_getElem hj]
  obtain⟨cs,h4,⟨rfl,h5,h6⟩,h7⟩:=hx j _ hg
  refine⟨b,off,rfl,?_,h5,h6⟩
  rw[bh hb]
  have:=h7 0 _ (by simp;rfl)
  simpa using this
theorem fv.at_(h:fv m w (.slice A n c) xs)(j:Nat)(hj:j<xs.length) :
    ∃ b off,A=some ⟨b,off,none⟩∧w.cell? ⟨b,off+j,none⟩=some (.int .u16 (xs.getD j 0))∧0≤xs.getD j 0∧xs.getD j 0<65536:=by
  obtain⟨A',c',hv,h1,h2,h0,h3⟩:=h
  injection hv with e1 e2 e3
  subst e1 e3
  obtain⟨b,off,cells,t,fr,rfl,hb,ht,hx⟩:=h3 (by omega)
  have hg:xs[j]? = some (xs.getD j 0):=by simp[List.getD_eq_getElem?_getD,List.getElem?_eq_getElem hj]
  obtain⟨cs,h4,⟨rfl,h5,h6⟩,h7⟩:=hx j _ hg
  refine⟨b,off,rfl,?_,h5,h6⟩
  rw[bh hb]
  have:=h7 0 _ (by simp;rfl)
  simpa using this
theorem nB.at_{xs:List Bool}(h:nB m w (.slice A n c) xs)(j:Nat)(hj:j<xs.length) :
    ∃ b off,A=some ⟨b,off,none⟩∧w.cell? ⟨b,off+j,none⟩=some (.bool (xs.getD j false)):=by
  obtain⟨A',c',hv,h1,h2,h0,h3⟩:=h
  injection hv with e1 e2 e3
  subst e1 e3
  obtain⟨b,off,cells,t,fr,rfl,hb,ht,hx⟩:=h3 (by omega)
  have hg:xs[j]? = some (xs.getD j false):=by simp[List.getD_eq_getElem?_getD,List.getElem?_eq_getElem hj]
  obtain⟨cs,h4,rfl,h7⟩:=hx j _ hg
  refine⟨b,off,rfl,?_⟩
  rw[bh hb]
  have:=h7 0 _ (by simp;rfl)
  simpa using this
def aQ {α:Type}(base:Nat)(e:TypeId)(sz:Nat)(R:World→α→List Value→Prop)(w:World)(v:Value)(xs:List α) : Prop :=
  ∃ cells:List Value,w.ownsRow base e sz v xs.length cells∧∀ (j:Nat) (x:α),xs[j]? = some x→∃ cs:List Value,cs.length=sz∧R w x cs∧∀ i u,cs[i]? = some u→cells[j*sz+i]? = some u
abbrev cG (base:Nat) (w:World) (v:Value) (xs:List Int) : Prop:=aQ base 5 1 lf w v xs
abbrev oZ (base:Nat) (w:World) (v:Value) (xs:List Int) : Prop:=aQ base 37 1 yf w v xs
abbrev DW (base:Nat) (w:World) (v:Value) (xs:List Bool) : Prop:=aQ base 4 1 tL w v xs
variable {base:Nat}
theorem aQ.rd{R:World→α→List Value→Prop}   {xs:List α}(h:aQ base e sz R w v xs) : aT true e sz R w v xs:=by
  obtain⟨cells,⟨hl,ho⟩,hx⟩:=h
  rcases ho with⟨rfl,h0⟩|⟨g,cap,cur,rfl,hb,hh,h1,h2,h3,h4⟩
  · obtain rfl:=List.eq_nil_of_length_eq_zero h0
    exact aT.nil ..
  · refine⟨_,_,rfl,h1,h2,(fun hA=>by cases hA),fun hp=>⟨g,0,cur,e,(0,0),rfl,hh,(fun _=>⟨rfl,Nat.zero_le _⟩),fun j x hj=>?_⟩⟩
    obtain⟨cs,h5,h6,h7⟩:=hx j x hj
    refine⟨cs,h5,h6,fun i u hi=>?_⟩
    have h8:=h7 i u hi
    rw[← h4,List.getElem?_take] at h8
    split at h8
    · simpa using h8
    · cases h8
theorem aQ.nil(base:Nat)(e:TypeId)(sz:Nat)(R:World→α→List Value→Prop)(w:World) : aQ base e sz R w (.slice none 0 0) [] :=
  ⟨[],⟨by simp,.inl ⟨rfl,rfl⟩⟩,fun j x h=>by simp at h⟩
theorem lC{xs:List Value}(h:w.ownsRow base e sz v n xs)(hb:∀ g,v.ownBlock=some g→w'.heap[g]? = w.heap[g]?) : w'.ownsRow base e sz v n xs:=by
  obtain⟨h0,h1⟩:=h
  refine⟨h0,?_⟩
  rcases h1 with h1|⟨g,cap,cur,rfl,h2,h3,h4⟩
  · exact .inl h1
  · exact .inr ⟨g,cap,cur,rfl,h2,(hb g rfl).trans h3,h4⟩
theorem aQ.upd{R:World→α→List Value→Prop}   {xs:List α}
    (h:aQ base e sz R w v xs) (hu:ay S w w') (hs:bV true [e] S w) (hR:∀ x cs,R w x cs→R w' x cs) : aQ base e sz R w' v xs:=by
  obtain⟨cells,ho,hx⟩:=h
  refine⟨cells,lC ho fun g hg=>?_,fun j x hj=>?_⟩
  · rcases ho.2 with⟨rfl,_⟩ | ⟨g',cap,cur,rfl,hb,hh,_⟩
    · simp[Value.ownBlock] at hg
    · have:g'=g:=by simpa [Value.ownBlock] using hg
      subst this
      refine hu.block _ (ag hh) fun hgs=>?_
      rcases hs _ hgs with h4|⟨_,cells',t',fr',h5,h6⟩
      · have:=ag hh;omega
      · rw[hh] at h5
        injection h5 with h5
        injection h5 with _ h7 _
        rcases h6 with h6|h6
        · exact h6 (by rw[← h7];simp)
        · cases h6
  · obtain⟨cs,hl,hr,hc⟩:=hx j x hj
    exact⟨cs,hl,hR _ _ hr,hc⟩
theorem aQ.weaken{base':Nat}   {R:World→α→List Value→Prop}   {xs:List α}(h:aQ base e sz R w v xs)(hb:base'≤base) : aQ base' e sz R w v xs:=by
  obtain⟨cells,⟨h0,h1⟩,h2⟩:=h
  refine⟨cells,⟨h0,?_⟩,h2⟩
  rcases h1 with h1|⟨g,cap,cur,h3,h4,h5⟩
  · exact .inl h1
  · exact .inr ⟨g,cap,cur,h3,Nat.le_trans hb h4,h5⟩
theorem aQ.hi{R:World→α→List Value→Prop}   {xs:List α}(h:aQ base e sz R w v xs)(hn:n≤base) : aT (.hi n) e sz R w v xs:=by
  obtain⟨cells,⟨hl,ho⟩,hx⟩:=h
  rcases ho with⟨rfl,h0⟩|⟨g,cap,cur,rfl,hb,hh,h1,h2,h3,h4⟩
  · obtain rfl:=List.eq_nil_of_length_eq_zero h0
    exact aT.nil ..
  · refine⟨_,_,rfl,h1,h2,(fun hA=>by cases hA),fun hp=>⟨g,0,cur,e,(0,0),rfl,hh,(fun _=>⟨rfl,Nat.le_trans hn hb⟩),fun j x hj=>?_⟩⟩
    obtain⟨cs,h5,h6,h7⟩:=hx j x hj
    refine⟨cs,h5,h6,fun i u hi=>?_⟩
    have h8:=h7 i u hi
    rw[← h4,List.getElem?_take] at h8
    split at h8
    · simpa using h8
    · cases h8
theorem aT.hi_le{n':Nat}   {R R':World→α→List Value→Prop}   {xs:List α}(h:aT (.hi n) e sz R w v xs)(hn:n'≤n)(hR:∀ x cs,R w x cs→R' w x cs) : aT (.hi n') e sz R' w v xs:=by
  obtain⟨A,c,rfl,h1,h2,h0,h3⟩:=h
  refine⟨A,c,rfl,h1,h2,h0,fun hp=>?_⟩
  obtain⟨b,off,cells,t,fr,rfl,hb,ht,hx⟩:=h3 hp
  exact⟨b,off,cells,t,fr,rfl,hb,(fun hm=>⟨(ht hm).1,Nat.le_trans hn (ht hm).2⟩),fun j x hj=>by obtain⟨cs,hl,hr,hc⟩:=hx j x hj;exact⟨cs,hl,hR _ _ hr,hc⟩⟩
theorem aT.hi_t{R R':World→α→List Value→Prop}   {xs:List α}(h:aT (.hi n) e sz R w v xs)(hR:∀ x cs,R w x cs→R' w x cs) : aT true e sz R' w v xs:=by
  obtain⟨A,c,rfl,h1,h2,h0,h3⟩:=h
  refine⟨A,c,rfl,h1,h2,h0,fun hp=>?_⟩
  obtain⟨b,off,cells,t,fr,rfl,hb,ht,hx⟩:=h3 hp
  exact⟨b,off,cells,t,fr,rfl,hb,(fun hm=>⟨(ht rfl).1,Nat.zero_le _⟩),fun j x hj=>by obtain⟨cs,hl,hr,hc⟩:=hx j x hj;exact⟨cs,hl,hR _ _ hr,hc⟩⟩
theorem bV.low{cells:Array Value}   (hb:w.heap[g]? = some (.cells cells t fr))(hg:g<n) : bV (.hi n) D [g] w:=fun s hs=>by
  rw[List.mem_singleton] at hs
  subst hs
  exact .inr ⟨rfl,_,_,_,hb,.inr hg⟩
theorem bV.up(h:bV true D S w)(hm:m.own=true:=by rfl) : bV m D S w:=fun s hs=>(h s hs).imp_right fun⟨_,c,t,fr,b,n⟩=>⟨hm,c,t,fr,b,n.imp_right fun k=>absurd k (Nat.not_lt_zero _)⟩
theorem jc{R:World→α→List Value→Prop}{enc:α→Value}  {a:Addr}  {xs:List α}(hR:∀ w x cs,R w x cs→cs=[enc x])(h:aT m e 1 R w (.slice (some a) n c) xs) :
    n=xs.length∧∀ j u,(xs.map enc)[j]? = some u→w.cell? (a.add j)=some u:=by
  obtain⟨A,c',hv,h1,h2,h0,h3⟩:=h
  injection hv with e1 e2 e3
  subst e1 e2 e3
  refine⟨rfl,fun j u hj=>?_⟩
  rw[List.getElem?_map] at hj
  obtain⟨x,hx,rfl⟩:=Option.map_eq_some_iff.1 hj
  have hl:j<xs.length:=(List.getElem?_eq_some_iff.1 hx).1
  obtain⟨b,off,cells,t,fr,hA,hb,ht,hcs⟩:=h3 (by omega)
  injection hA with hA
  subst hA
  obtain⟨cs,h4,h5,h6⟩:=hcs j x hx
  obtain rfl:=hR _ _ _ h5
  rw[jI _ _ _ _ rfl,bh hb]
  have:=h6 0 _ (by simp;rfl)
  simpa using this
theorem ez{R:World→α→List Value→Prop}{enc:α→Value}    {xs:List α}(hR:∀ x,x∈xs→R w x [enc x])(h:w.ownsRow base e 1 v xs.length (xs.map enc)) : aQ base e 1 R w v xs:=by
  refine⟨_,h,fun j x hj=>⟨[enc x],rfl,hR _ (List.mem_of_getElem? hj),fun i u hi=>?_⟩⟩
  have:i=0:=by
    rcases Nat.eq_zero_or_pos i with h0|h0
    · exact h0
    · rw[List.getElem?_eq_none (by simp;omega)] at hi;cases hi
  subst this
  simp at hi
  subst hi
  simp[hj]
theorem ew{R:World→α→List Value→Prop}{enc:α→Value}    {xs:List α}(hR:∀ w x cs,R w x cs→cs=[enc x])(h:aQ base e 1 R w v xs) : w.ownsRow base e 1 v xs.length (xs.map enc):=by
  obtain⟨cells,ho,hx⟩:=h
  have:cells=xs.map enc:=by
    apply List.ext_getElem?
    intro j
    rcases Nat.lt_or_ge j xs.length with hj|hj
    · have hg:xs[j]? = some xs[j]:=List.getElem?_eq_getElem hj
      obtain⟨cs,h1,h2,h3⟩:=hx j _ hg
      obtain rfl:=hR _ _ _ h2
      have h4:=h3 0 _ (by simp;rfl)
      simp at h4
      simp[h4,hg]
    · rw[List.getElem?_eq_none (by rw[ho.1];omega),List.getElem?_eq_none (by simp;omega)]
  rw[← this]
  exact ho
theorem aT.mem{R:World→α→List Value→Prop}   {xs:List α}  (h:aT m e sz R w v xs) : ∀ x,x∈xs→∃ cs,R w x cs:=by
  intro x hx
  obtain⟨A,c,rfl,_,_,_,h3⟩:=h
  obtain⟨j,hj⟩:=List.getElem?_of_mem hx
  obtain⟨b,off,cells,t,fr,_,_,_,h4⟩:=h3 (by have:=List.length_pos_of_mem hx;omega)
  obtain⟨cs,_,h5,_⟩:=h4 j x hj
  exact⟨cs,h5⟩
theorem aQ.mem{R:World→α→List Value→Prop}   {xs:List α}  (h:aQ base e sz R w v xs) : ∀ x,x∈xs→∃ cs,R w x cs:=h.rd.mem
theorem aW.rng(h:aW m w v xs) : ∀ x,x∈xs→0≤x∧x<256:=fun x hx=>by obtain⟨cs,h1⟩:=h.mem x hx;exact h1.2
theorem fv.rng(h:fv m w v xs) : ∀ x,x∈xs→0≤x∧x<65536:=fun x hx=>by obtain⟨cs,h1⟩:=h.mem x hx;exact h1.2
structure AW {α:Type} (R:World→α→List Value→Prop) (enc:α→Value) : Prop where
  cell:∀ w x cs,R w x cs→cs=[enc x]
  any:∀ w w' x cs,R w x cs→R w' x [enc x]
  one:∀ x,(enc x).oneCell'=true
theorem bp:AW lf (Value.int .u8):=⟨fun _ _ _ h=>h.1,fun _ _ _ _ h=>⟨rfl,h.2⟩,fun _=>rfl⟩
theorem Bn:AW yf (Value.int .u16):=⟨fun _ _ _ h=>h.1,fun _ _ _ _ h=>⟨rfl,h.2⟩,fun _=>rfl⟩
variable {P:Program}{e':TypeId}
theorem m7{R:World→α→List Value→Prop}{enc:α→Value}(hR:AW R enc)
    (base:Nat) (t ty e:TypeId) (z:Value) (bytes:Nat) (ht:P.underlying t=some (.slice e)) (hinfo:(P.info? e).map (fun i=>(i.zero,i.size,i.bytes))=some (some z,1,bytes)) (hz:z.cells.size=1)
    (v:Value) (xs:List α) (HO:aQ base e 1 R w v xs)   (u:Value) (ys:List α) (HY:aT m e' 1 R w u ys)
    (hl:xs.length+ys.length≤4194304) (hby:bytes≤65536) (hbase:base≤w.heap.size) :
    ∃ v' w',(Builtin.append_ #[t,t] ty #[v,u]).run P w = .ok v' w'∧aQ base e 1 R w' v' (xs++ys)∧(∀ S w0,ay S w0 w→w0.heap.size≤base→ay S w0 w'):=by
  obtain⟨i0,hi,hz0,hz1,hz2⟩:=info_parts hinfo
  obtain⟨A,c,hu,hc1,hc2⟩:=HY.shape
  subst hu
  cases A with
  | none =>
    obtain⟨A,c',hv,_,_,h0,h3⟩:=HY
    injection hv with e1 e2 e3
    subst e1 e3
    obtain rfl:ys=[]:=by
      rcases Nat.eq_zero_or_pos ys.length with h0|h0
      · exact List.eq_nil_of_length_eq_zero h0
      · obtain⟨b,off,cells,t,fr,hh,_⟩:=h3 h0
        cases hh
    obtain rfl:=h0 rfl
    exact⟨v,w,run_append_owned_none (P:=P) (w:=w) base t ty e i0 1 ht hi v xs.length (xs.map enc) (ew hR.cell HO),by simpa using HO,fun _ _ h _=>h⟩
  | some ad =>
    obtain⟨_,hnews⟩:=jc hR.cell HY
    have hmul:(xs.length+ys.length)*bytes≤140737488355328:=Nat.le_trans (Nat.mul_le_mul hl hby) (by decide)
    obtain⟨v',w',hr,hown,hg,_,_⟩:=run_append_own_at (P:=P) (w:=w) base t ty e i0 z 1 bytes ht hi hz0 hz1 hz2 hz (by decide) v xs.length (xs.map enc) (ew hR.cell HO) ad ys.length c (ys.map enc) (by simp) hnews
      (fun u hu=>by obtain⟨y,_,rfl⟩:=List.mem_map.1 hu;exact hR.one y) (by unfold maxLen;omega) hmul hbase
    refine⟨v',w',hr,ez (enc:=enc) (fun y hy=>?_) (by simpa using hown),fun S w0 hu hb=>?_⟩
    · rcases List.mem_append.1 hy with hy | hy
      · obtain⟨cs,h1⟩:=HO.mem y hy;exact hR.any _ _ _ _ h1
      · obtain⟨cs,h1⟩:=HY.mem y hy;exact hR.any _ _ _ _ h1
    · refine hu.trans' (ay.of_grown hg (v.ownBlock.toList) fun k hk=>.inl (by simp[hk])) fun k hk=>.inr ?_
      have hk':v.ownBlock=some k:=by cases hvb:v.ownBlock<;>simp_all
      obtain⟨cells,ho',_⟩:=HO
      rcases ho'.2 with⟨rfl,_⟩|⟨g,cap,cur,rfl,hb',_⟩
      · simp[Value.ownBlock] at hk'
      · have:g=k:=by simpa [Value.ownBlock] using hk'
        omega
variable {Q:Exit→Act→World→Prop}
theorem oq{R:World→α→List Value→Prop}{enc:α→Value}(hR:AW R enc)   {ops:Array Oper}{rest:List Oper}{o:Oper}{a:Act}
    (base:Nat) (hgd:o.guard=none) (s x:Operand) (t e:TypeId) (z:Value) (bytes:Nat)
    (ho:o.op = .call { callee:=.builtin .append,args:=#[s,x],argTypes:=#[t,t] })
    (ht:P.underlying t=some (.slice e)) (hinfo:(P.info? e).map (fun i=>(i.zero,i.size,i.bytes))=some (some z,1,bytes)) (hz:z.cells.size=1)
    (v:Value) (xs:List α) (hs:a.eval s=v) (HO:aQ base e 1 R w v xs)   (u:Value) (ys:List α) (hx:a.eval x=u) (HY:aT m e' 1 R w u ys)
    (hl:xs.length+ys.length≤4194304) (hby:bytes≤65536) (hbase:base≤w.heap.size)
    (h:∀ v' w',aQ base e 1 R w' v' (xs++ys)→(∀ S w0,ay S w0 w→w0.heap.size≤base→ay S w0 w')→wpList P ops Q rest (a.put o.dst v') w') :
    wpList P ops Q (o :: rest) a w:=by
  obtain⟨v',w',hr,h1,h2⟩:=m7 hR (P:=P) (w:=w) base t o.type e z bytes ht hinfo hz v xs HO u ys HY hl hby hbase
  refine wpList_plain hgd fun K hK=>?_
  unfold Oper.wp execOp
  simp only[ho,resolve,invoke,builtin,Sem.run_bind,Sem.run_pure,Result.andThen_ok,List.map_toArray,List.map_cons,List.map_nil,hs,hx,hr]
  exact hK _ _ (h v' w' h1 h2)
theorem qj{R:World→α→List Value→Prop}{enc:α→Value}(hR:AW R enc)   {ops:Array Oper}{o:Oper}{a:Act}{K:Act→World→Prop}  {E:Prop}
    (base:Nat) (hgd:o.guard=none) (s x:Operand) (t e:TypeId) (z:Value) (bytes:Nat)
    (ho:o.op = .call { callee:=.builtin .append,args:=#[s,x],argTypes:=#[t,t] })
    (ht:P.underlying t=some (.slice e)) (hinfo:(P.info? e).map (fun i=>(i.zero,i.size,i.bytes))=some (some z,1,bytes)) (hz:z.cells.size=1)
    (v:Value) (xs:List α) (hs:a.eval s=v) (HO:aQ base e 1 R w v xs)   (u:Value) (ys:List α) (hx:a.eval x=u) (HY:aT m e' 1 R w u ys)
    (hl:xs.length+ys.length≤4194304) (hby:bytes≤65536) (hbase:base≤w.heap.size)
    (h:∀ v' w',aQ base e 1 R w' v' (xs++ys)→(∀ S w0,ay S w0 w→w0.heap.size≤base→ay S w0 w')→K (a.put o.dst v') w') :
    if Region.wanted o (yielded ops a.tmps)=true then Oper.wp P o a w K Q else E:=by
  obtain⟨v',w',hr,h1,h2⟩:=m7 hR (P:=P) (w:=w) base t o.type e z bytes ht hinfo hz v xs HO u ys HY hl hby hbase
  rw[if_pos (by simp[Region.wanted,hgd])]
  unfold Oper.wp execOp
  simp only[ho,resolve,invoke,builtin,Sem.run_bind,Sem.run_pure,Result.andThen_ok,List.map_toArray,List.map_cons,List.map_nil,hs,hx,hr]
  exact h v' w' h1 h2
theorem gc(t e:TypeId)(sz:Nat){i:TypeInfo}(ht:P.underlying t=some (.slice e))(hi:P.info? e=some i)(hsz:i.size=sz)(A:Option Addr)(n c k:Nat)(hk:k≤n) :
    ∃ A':Option Addr,(∀ (kl:IntKind) (W:World),(Instr.slice t (.slice A n c) (some (.int kl (k:Int))) none none).run P W = .ok (.slice A' (n-k) (c-k)) W) ∧
      ∀ {α:Type} (m:Md) (e':TypeId) (R:World→α→List Value→Prop) (w:World) (xs:List α),aT m e' sz R w (.slice A n c) xs→aT m e' sz R w (.slice A' (n-k) (c-k)) (xs.drop k):=by
  refine⟨if c=k then A else A.map (·.add (k*sz)),fun kl W=>?_,fun m e' R w xs h=>?_⟩
  · have hel:P.elem t=e:=by simp[Program.elem,ht]
    have hu:P.underlying t=some (.slice (P.elem t)):=by rw[hel];exact ht
    rw[run_slice_l W t A n c hu kl (k:Int) (Int.natCast_nonneg _) (by omega),hel]
    simp[sizeOf,typeInfo,hi,hsz,sliced,Result.andThen]
  · obtain⟨A',c',hv,_⟩:=h.shape
    injection hv with e1 e2 e3
    subst e2
    exact h.drop k hk
theorem yY(t e:TypeId)(sz:Nat){i:TypeInfo}(ht:P.underlying t=some (.slice e))(hi:P.info? e=some i)(hsz:i.size=sz)(A:Option Addr)(n c k h:Nat)(hk:k≤h)(hh:h≤n)(hc:n≤c) :
    ∃ A':Option Addr,(∀ (kl kh:IntKind) (W:World),(Instr.slice t (.slice A n c) (some (.int kl (k:Int))) (some (.int kh (h:Int))) none).run P W = .ok (.slice A' (h-k) (c-k)) W) ∧
      ∀ {α:Type} (m:Md) (e':TypeId) (R:World→α→List Value→Prop) (w:World) (xs:List α),aT m e' sz R w (.slice A n c) xs→aT m e' sz R w (.slice A' (h-k) (c-k)) ((xs.take h).drop k):=by
  refine⟨if c=k then A else A.map (·.add (k*sz)),fun kl kh W=>?_,fun m e' R w xs hr=>?_⟩
  · have hel:P.elem t=e:=by simp[Program.elem,ht]
    have hu:P.underlying t=some (.slice (P.elem t)):=by rw[hel];exact ht
    rw[run_slice_lh W t A n c hu kl kh (k:Int) (h:Int) (Int.natCast_nonneg _) (by omega) (by omega),hel]
    simp[sizeOf,typeInfo,hi,hsz,sliced,Result.andThen]
  · obtain⟨A',c',hv,_⟩:=hr.shape
    injection hv with e1 e2 e3
    subst e2
    have h2:=(hr.take h hh).drop k (by simp;omega)
    have h3:(xs.take h).length-k=h-k:=by simp;omega
    rw[h3] at h2
    exact h2
theorem nw{id:Nat}  {a:Act}  {l:List Oper}(n:Nat)(hm:P.follows .mixedOrders=true)(hB:Region.lexTailB .any l.toArray n=true)
    (h:∀ w2:World,ay [] w w2→wpStill P l.toArray w2 (fun a'=>wpList P l.toArray Q (l.drop n) a' w2) (l.take n) a) : (Code.region id l.toArray true).wp P Q a w :=
  wp_region_still_tail n hm hB (h _ ⟨rfl,rfl,rfl,Nat.le_refl _,fun _ _ _=>rfl⟩)
section
variable {P:Program}{ops:Array Oper}{Q:Exit→Act→World→Prop}{S:World→Prop}
theorem qf{id n:Nat}{a:Act}{w:World}(l:Array Bool)(hm:P.follows .mixedOrders=true)(hn:ops.size=n)(hl:Array.replicate n false=l)(hS:S w.drew)
    (h:S w.drew→wpAnyH P .any ops Q S n l a w.drew) : (Code.region id ops true).wp P Q a w:=by
  subst hn
  subst hl
  exact wp_region_held hm (h hS)
def D5 (ops:Array Oper)(l l':Array Bool)(i:Nat) : Bool :=
  Region.noSelect ops&&Region.free .any ops l i&&(Region.ready .any ops l).contains i&&(l.setIfInBounds i true==l')
theorem da{i:Nat}{N:Option Tmp}{oi:Oper}{v:Value}{fuel:Nat}{l:Array Bool}{a:Act}{w:World}(l':Array Bool)(hi:ops[i]? = some oi)(hN:oi.dst=N)(hc:D5 ops l l' i=true)
    (hQ:∀ c a w,Q (.panic c) (a.put oi.dst v) w→Q (.panic c) a w) (hy:YieldsIf P ops S oi v a) (hS:S w) {a':Act} (ha:a.put N v=a')
    (h:wpAnyH P .any ops Q S fuel l' a' w) : wpAnyH P .any ops Q S (fuel+1) l a w:=by
  subst ha
  subst hN
  simp only[D5,Bool.and_eq_true,beq_iff_eq] at hc
  obtain⟨⟨⟨h1,h2⟩,h3⟩,h4⟩:=hc
  subst h4
  exact wpAnyH_take hi h1 h2 h3 hQ hy hS h
def CO (ops:Array Oper)(l l':Array Bool)(i:Nat) : Bool:=(Region.ready .any ops l==[i])&&(l.setIfInBounds i true==l')
theorem tM{l:Array Bool}{a:Act}{w:World}{n:Nat}(hr:(Region.ready .any ops l==[])=true)(h:Q .normal a w) : wpAnyH P .any ops Q S n l a w:=wpAnyH_done (by simpa using hr) h n
end
theorem sT{α:Type}{R:World→α→List Value→Prop}{enc:α→Value}(w:World)(e:TypeId)(xs:List α)(hR:∀ x,x∈xs→R (w.alloc (.cells (xs.map enc).toArray e)) x [enc x])(hl:xs.length≤4194304) :
    aQ w.heap.size e 1 R (w.alloc (.cells (xs.map enc).toArray e)) (.slice (some ⟨w.heap.size,0,none⟩) xs.length xs.length) xs:=by
  refine ez (enc:=enc) hR ⟨by simp,.inr ⟨w.heap.size,xs.length,_,rfl,Nat.le_refl _,dE w _,Nat.le_refl _,by unfold maxLen;omega,by simp,by simp[List.take_of_length_le]⟩⟩
open Go.RowKit
def CJ (xs:List Int)(w:World)(e:Ending)(w':World) : Prop:=∃ v,e = .returned v∧cG w.heap.size w' v xs∧ay [] w w'
theorem lQ:(Tryz.prog.info? 5).map (fun i=>(i.zero,i.size,i.bytes))=some (some (.int .u8 0),1,1):=by kernel_rfl
theorem wQ:(Tryz.prog.info? 37).map (fun i=>(i.zero,i.size,i.bytes))=some (some (.int .u16 0),1,2):=by kernel_rfl
theorem ox{m:Md}{v:Value}{xs:List Int}{w:World}(h:aW m w v xs)(hn:xs.length≤1048576) : Calls Tryz.prog 192 #[v] w (CJ xs w):=by
  have hh:=h
  obtain⟨A,c,rfl,hc1,hc2⟩:=h.shape
  have qT:∀ (w:World) (a:Option Addr) (n c n' c':Nat),(binOp .eql 27 (.slice a n c) (.slice none n' c')).run Tryz.prog w = .ok (.bool a.isNone) w:=fun w a n c n' c'=>Lib.run_eql_slice_nil w _ _ a n c n' c' Tryz.underlying27
  cases A with
  | none =>
    obtain rfl:xs=[]:=by
      obtain⟨A,c,hv,_,_,_,h3⟩:=hh
      rcases Nat.eq_zero_or_pos xs.length with h0|h0
      · exact List.eq_nil_of_length_eq_zero h0
      · obtain⟨b,off,cells,t,fr,rfl,_⟩:=h3 h0
        cases hv
    clear h hh
    go_enter Tryz.func192,Tryz.ntmps192
    go_wp2
    go_ret
    exact⟨_,rfl,aQ.nil ..,ay.refl _ _⟩
  | some a =>
    have hown:=sT (R:=lf) (enc:=Value.int .u8) w 5 [] (fun x hx=>by cases hx) (by simp)
    have hsrc:aW m (w.alloc (.cells #[] 5)) (.slice (some a) xs.length c) xs:=hh.old ((ay.refl [] w).alloc _)
    clear h hh
    go_enter Tryz.func192,Tryz.ntmps192
    go_wp2_with (at_builtin;refine oq bp w.heap.size rfl _ _ 27 5 (.int .u8 0) 1 rfl Tryz.underlying27 lQ rfl _ [] rfl hown _ xs rfl hsrc (by simp;omega) (by decide) (by simp) ?_;intro v' w' hown' hupd;clear hown hsrc)
    go_ret
    exact⟨_,rfl,hown',hupd [] w ((ay.refl [] w).alloc _) (Nat.le_refl _)⟩
structure aF where
  l:List Int
  sh:Bool
  e:Int
def aF.need (c:aF)(ok:Bool)(x:Int) : aF:=if c.e=0∧ok=false then { c with e:=x } else c
def aF.fails (c:aF)(n:Int) : Bool:=c.sh || decide (n<0)||decide ((c.l.length:Int)<n)
def aF.bytesC (c:aF)(n:Int) : aF:=if c.fails n then aF.need { c with l:=[],sh:=true } false 2 else { c with l:=c.l.drop n.toNat }
def aF.bytesR (c:aF)(n:Int) : List Int:=if c.fails n then [] else c.l.take n.toNat
def ah (w:World)(g:Nat)(c:aF) : Prop :=
  ∃ v,w.heap[g]? = some (.cells #[v,.bool c.sh,.int .i64 c.e] 213 (0,0))∧aW true w v c.l∧c.l.length≤1048576
theorem ah.safe{m:Md}{w:World}{g:Nat}{c:aF}(h:ah w g c)(D:List TypeId)(hD:213∉D)(hm:m.own=true:=by rfl) : bV m D [g] w:=by
  obtain⟨v,hb,_⟩:=h
  exact bV.one hb hD hm
theorem ah.lt{w:World}{g:Nat}{c:aF}(h:ah w g c) : g<w.heap.size:=by
  obtain⟨v,hb,_⟩:=h
  exact ag hb
theorem ah.len{w:World}{g:Nat}{c:aF}(h:ah w g c) : c.l.length≤1048576:=by
  obtain⟨v,_,_,h⟩:=h
  exact h
theorem ah.upd{w w':World}{g:Nat}{c:aF}{S:List Nat}(h:ah w g c)(hu:ay S w w')(hg:g∉S)(hs:bV true [5] S w) : ah w' g c:=by
  obtain⟨v,hb,hr,hl⟩:=h
  exact⟨v,hu.blk hg hb,hr.upd' hu hs,hl⟩
theorem ah.old{w w':World}{g:Nat}{c:aF}(h:ah w g c)(hu:ay [] w w') : ah w' g c:=h.upd hu (by simp) (bV.nil _ _ _)
theorem ah.cells{w:World}{g:Nat}{c:aF}(h:ah w g c) : ∃ A cp,w.cell? ⟨g,0,none⟩=some (.slice A c.l.length cp)∧w.cell? ⟨g,1,none⟩=some (.bool c.sh)∧w.cell? ⟨g,2,none⟩=some (.int .i64 c.e) ∧
    (∀ i,w.frozen? ⟨g,i,none⟩=false)∧c.l.length≤cp∧cp≤maxLen∧aW true w (.slice A c.l.length cp) c.l:=by
  obtain⟨v,hb,hr,hl⟩:=h
  obtain⟨A,cp,rfl,h1,h2⟩:=hr.shape
  exact⟨A,cp,by rw[bh hb];rfl,by rw[bh hb];rfl,by rw[bh hb];rfl,fun i=>fa hb i,h1,h2,hr⟩
def C8 (g:Nat)(c':aF)(w:World)(e:Ending)(w':World) : Prop:=e = .returned (.tuple #[])∧ah w' g c'∧ay [g] w w'
theorem aY{g:Nat}{c:aF}{w:World}(ok:Bool)(x:Int)(hc:ah w g c) :
    Calls Tryz.prog 155 #[.pointer (some ⟨g,0,none⟩),.bool ok,.int .i64 x] w (C8 g (c.need ok x) w):=by
  obtain⟨A,cp,c0,c1,c2,hf,_⟩:=hc.cells
  have f2:=hf 2
  clear hf
  by_cases h:c.e=0∧ok=false
  · obtain⟨he,rfl⟩:=h
    rw[he] at c2
    go_enter Tryz.func155,Tryz.ntmps155
    go_wp2
    go_end0
    obtain⟨v,hb,hr,hl⟩:=hc
    refine⟨rfl,?_,(ay.refl [g] w).setCell (p:=⟨g,2,none⟩) (.inl (by simp)) _⟩
    have hu:ay [g] w (w.setCell ⟨g,2,none⟩ (.int .i64 x)):=(ay.refl [g] w).setCell (p:=⟨g,2,none⟩) (.inl (by simp)) _
    refine⟨v,?_,by rw[aF.need,if_pos ⟨he,rfl⟩];exact hr.upd' hu (bV.one hb (by decide)),by rw[aF.need,if_pos ⟨he,rfl⟩];exact hl⟩
    rw[gJ hb,aF.need,if_pos ⟨he,rfl⟩]
    rfl
  · have hpost:C8 g (c.need ok x) w (.returned (.tuple #[])) w:=by
      refine⟨rfl,?_,ay.refl _ _⟩
      rw[aF.need,if_neg h]
      exact hc
    cases ok with
    | true =>
      clear hc h
      go_enter Tryz.func155,Tryz.ntmps155
      go_wp2
      all_goals (go_end0;exact hpost)
    | false =>
      have he:(c.e==0)=false:=by simpa using h
      clear hc h
      go_enter Tryz.func155,Tryz.ntmps155
      go_wp2
      all_goals (go_end0;exact hpost)
def jJ (g:Nat)(c:aF)(n:Int)(w:World)(e:Ending)(w':World) : Prop:=∃ v,e = .returned v∧aW (.hi w.heap.size) w' v (c.bytesR n)∧ah w' g (c.bytesC n)∧ay [g] w w'
theorem ah.short{w:World}{g:Nat}{c:aF}(h:ah w g c) : ah ((w.setCell ⟨g,0,none⟩ (.slice none 0 0)).setCell ⟨g,1,none⟩ (.bool true)) g { c with l:=[],sh:=true }:=by
  obtain⟨v,hb,hr,hl⟩:=h
  exact⟨.slice none 0 0,by rw[gJ (gJ hb _ _) _ _];rfl,aT.nil ..,by simp⟩
theorem vC{g:Nat}{c:aF}{w:World}{n:Int}(hc:ah w g c)(hf:c.fails n=true) :
    Calls Tryz.prog 156 #[.pointer (some ⟨g,0,none⟩),.int .i64 n] w (jJ g c n w):=by
  obtain⟨A,cp,c0,c1,c2,hfr,_⟩:=hc.cells
  have f0:=hfr 0
  have f1:=hfr 1
  have hs:=hc.short
  have hpost:∀ w',ah w' g (aF.need { c with l:=[],sh:=true } false 2)→ay [g] ((w.setCell ⟨g,0,none⟩ (.slice none 0 0)).setCell ⟨g,1,none⟩ (.bool true)) w'→jJ g c n w (.returned (.slice none 0 0)) w':=by
    intro w' h1 h2
    refine⟨_,rfl,by rw[aF.bytesR,if_pos hf];exact aT.nil ..,by rw[aF.bytesC,if_pos hf];exact h1,?_⟩
    exact(((ay.refl [g] w).setCell (p:=⟨g,0,none⟩) (.inl (by simp)) _).setCell (p:=⟨g,1,none⟩) (.inl (by simp)) _).trans h2
  have hlen:(c.l.length:Int)≤1048576:=by obtain⟨_,_,_,h⟩:=hc;omega
  clear hfr hc
  simp only[aF.fails,Bool.or_eq_true,decide_eq_true_eq] at hf
  by_cases h1:c.sh=true
  · rw[h1] at c1
    clear hf
    go_enter Tryz.func156,Tryz.ntmps156
    go_wp2_with (go_at_call 155;refine(aY false 2 hs).mono ?_;rintro e w' ⟨rfl,hn1,hn2⟩)
    go_ret
    exact hpost _ hn1 hn2
  · simp only[Bool.not_eq_true] at h1
    rw[h1] at c1
    by_cases h2:n<0
    · clear hf
      go_enter Tryz.func156,Tryz.ntmps156
      go_wp2_with (go_at_call 155;refine(aY false 2 hs).mono ?_;rintro e w' ⟨rfl,hn1,hn2⟩)
      go_ret
      exact hpost _ hn1 hn2
    · have h3:(c.l.length:Int)<n:=by
        rcases hf with(h|h) | h
        · rw[h1] at h;cases h
        · omega
        · exact h
      clear hf
      go_enter Tryz.func156,Tryz.ntmps156
      go_wp2_with (go_at_call 155;refine(aY false 2 hs).mono ?_;rintro e w' ⟨rfl,hn1,hn2⟩)
      go_ret
      exact hpost _ hn1 hn2
theorem xh{g:Nat}{c:aF}{w:World}{n:Int}(hc:ah w g c)(hf:c.fails n=false) :
    Calls Tryz.prog 156 #[.pointer (some ⟨g,0,none⟩),.int .i64 n] w (jJ g c n w):=by
  obtain⟨A,cp,c0,c1,c2,hfr,hcp1,hcp2,hrd⟩:=hc.cells
  have hlen:(c.l.length:Int)≤1048576:=by obtain⟨_,_,_,h⟩:=hc;omega
  have hf':=hf
  simp only[aF.fails,Bool.or_eq_false_iff,decide_eq_false_iff_not] at hf
  obtain⟨⟨h1,h2⟩,h3⟩:=hf
  obtain⟨k,rfl⟩:=Int.eq_ofNat_of_zero_le (show 0≤n by omega)
  rw[h1] at c1
  have hk:k≤c.l.length:=by omega
  have hrk:=hrd.take k hk
  obtain⟨i0,hi,_,hz1,_⟩:=info_parts lQ
  obtain⟨A',hcut,hdk⟩:=gc 27 5 1 Tryz.underlying27 hi hz1 A c.l.length cp k hk
  have hd:=hdk true 5 lf w c.l hrd
  have hlt:=hc.lt
  have f0:=hfr 0
  have hpost:∀ v' w',cG w.heap.size w' v' (c.l.take k)→ay [] w w'→jJ g c k w (.returned v') (w'.setCell ⟨g,0,none⟩ (.slice A' (c.l.length-k) (cp-k))):=by
    intro v' w' h4 h5
    have hu:ay [g] w' (w'.setCell ⟨g,0,none⟩ (.slice A' (c.l.length-k) (cp-k))):=(ay.refl [g] w').setCell (p:=⟨g,0,none⟩) (.inl (by simp)) _
    have hs:=(hc.old h5).safe (m:=true) [5] (by decide)
    refine⟨_,rfl,?_,?_,(ay.refl [g] w).trans' (h5.mono (S':=[g]) (by simp)) (by simp) |>.trans hu⟩
    · rw[aF.bytesR,if_neg (by simp[hf'])]
      exact aW.upd' (aQ.hi h4 (Nat.le_refl _)) hu hs.up
    · rw[aF.bytesC,if_neg (by simp[hf'])]
      obtain⟨v,hb,_,hl⟩:=hc.old h5
      refine⟨_,by rw[gJ hb];rfl,aW.upd' (aW.old hd h5) hu hs,?_⟩
      simp only[Int.toNat_natCast,List.length_drop]
      omega
  clear hfr hrd hdk hd hi hz1 hf'
  go_enter Tryz.func156,Tryz.ntmps156
  go_wp2_with (go_at_call 192;refine(ox hrk (by simp;omega)).mono ?_;rintro e w' ⟨v',rfl,hn1,hn2⟩;have d0:=hn2.cell (p:=⟨g,0,none⟩) (by simp) c0;have g0:=hn2.froz (p:=⟨g,0,none⟩) (by simp) hlt f0)
  go_ret
  exact hpost _ _ hn1 hn2
theorem cc{g:Nat}{c:aF}{w:World}{n:Int}(hc:ah w g c) : Calls Tryz.prog 156 #[.pointer (some ⟨g,0,none⟩),.int .i64 n] w (jJ g c n w):=by
  cases hf:c.fails n with
  | true=>exact vC hc hf
  | false=>exact xh hc hf
open Go.RowKit
def eE:List Int→List Int
  | a :: b :: r=>(a*256+b) :: eE r
  | _=>[]
theorem eO:∀ xs:List Int,(eE xs).length=xs.length/2
  | []=>rfl
  | [_]=>by simp[eE]
  | a :: b :: r=>by simp only[eE,List.length_cons,eO r];omega
theorem o3:∀ (xs:List Int)(k:Nat),2*k+1<xs.length→(eE xs)[k]? = some (xs.getD (2*k) 0*256+xs.getD (2*k+1) 0)
  | [],k,h=>by simp at h
  | [_],k,h=>by simp at h
  | a :: b :: r,0,h=>by simp[eE]
  | a :: b :: r,k+1,h=>by
    have:=o3 r k (by simp at h;omega)
    simp only[eE,List.getElem?_cons_succ,this]
    rw[show 2*(k+1)=2*k+1+1 by omega,show 2*k+1+1+1=(2*k+1)+1+1 by omega]
    simp
theorem sw(xs:List Int)(k:Nat)(h:2*k+1<xs.length) : (eE xs).take (k+1)=(eE xs).take k++[xs.getD (2*k) 0*256+xs.getD (2*k+1) 0]:=by
  have hg:=o3 xs k h
  rw[List.take_add_one,hg]
  rfl
theorem ph{x y:Int}(hx:0≤x∧x<256)(hy:0≤y∧y<256) : bits .or .u16 (x*256) y=x*256+y:=by
  rw[u16_or _ _ (by omega) (by omega) hy.1 (by omega)]
  obtain⟨a,rfl⟩:=Int.eq_ofNat_of_zero_le hx.1
  obtain⟨b,rfl⟩:=Int.eq_ofNat_of_zero_le hy.1
  have h1:((a:Int)*256).toNat=2 ^ 8*a:=by omega
  rw[h1,Int.toNat_natCast,← Nat.two_pow_add_eq_or_of_lt (by omega:b<2 ^ 8) a]
  omega
def ed (xs:List Int) : List Int:=if xs.length%2=0 then eE xs else []
def Dl (xs:List Int)(w:World)(e:Ending)(w':World) : Prop:=∃ v,e = .returned v∧oZ w.heap.size w' v (ed xs)∧ay [] w w'
theorem za{m:Md}{v:Value}{xs:List Int}{w:World}(h:aW m w v xs)(hn:xs.length≤1048576) : Calls Tryz.prog 233 #[v] w (Dl xs w):=by
  have hh:=h
  obtain⟨A,c,rfl,hc1,hc2⟩:=h.shape
  by_cases ho:xs.length%2=0
  case neg =>
    have ho':((xs.length:Int)%2 != 0)=true:=by simp;omega
    clear h
    go_enter Tryz.func233,Tryz.ntmps233
    go_wp2
    go_ret
    refine⟨_,rfl,?_,ay.refl _ _⟩
    rw[ed,if_neg ho]
    exact aQ.nil ..
  case pos =>
    have ho':((xs.length:Int)%2 != 0)=false:=by simp;omega
    go_enter Tryz.func233,Tryz.ntmps233
    go_wp2
    go_loopw [3,4] (fun o i wr=>∃ j:Nat,j≤xs.length∧Hid (j%2=0)∧i = .int .i64 (j:Int)∧oZ w.heap.size wr o ((eE xs).take (j/2))∧ay [] w wr) (fun _ i _=>xs.length-(intOf i).toNat)
    case atStart=>exact⟨0,by omega,rfl,rfl,by simpa using aQ.nil ..,ay.refl _ _⟩
    case round =>
      obtain⟨j,hj,hj2,rfl,hown,hu⟩:=hrel
      by_cases hlt:j<xs.length
      · obtain⟨b,off,rfl,cw0,hr0⟩:=aW.at_ hh j hlt
        obtain⟨b',off',hbb,cw1,hr1⟩:=aW.at_ hh (j+1) (by have:=hj2.out;omega)
        injection hbb with hbb
        injection hbb with e1 e2 e3
        subst e1 e2
        clear e3
        have hlt1:j+1<xs.length:=by have:=hj2.out;omega
        obtain⟨x0,hx0⟩ : ∃ x,x=xs.getD j 0:=⟨_,rfl⟩
        obtain⟨x1,hx1⟩ : ∃ x,x=xs.getD (j+1) 0:=⟨_,rfl⟩
        rw[← hx0] at cw0 hr0
        rw[← hx1] at cw1 hr1
        have hc0:=hu.cell (by simp) cw0
        have hc1:=hu.cell (by simp) cw1
        have H0:=Lib.hid hx0
        have H1:=Lib.hid hx1
        clear h hh ho ho' hx0 hx1
        go_wp2
        have hw0:IntKind.i64.wrap ((j:Int)+1)=(j:Int)+1:=IntWalk.i64_in _ (by omega)
        have hw1:(0:Int)≤(j:Int)+1:=by omega
        have hw2:((j:Int)+1).toNat=j+1:=by omega
        have hw3:(j:Int)+1<xs.length:=by omega
        have hw4:IntKind.u16.wrap x0=x0:=by show x0%65536=x0;omega
        have hw5:IntKind.u16.wrap x1=x1:=by show x1%65536=x1;omega
        have hw6:IntKind.u16.wrap (x0*256)=x0*256:=by show(x0*256)%65536=x0*256;omega
        have hw7:=ph hr0 hr1
        have hown2:∀ W,ay [] wr W→oZ w.heap.size W u3 ((eE xs).take (j/2)):=fun W hW=>aQ.upd hown hW (bV.nil _ _ _) fun _ _ h=>h
        have hlit:=fun W=>(sT (R:=yf) (enc:=Value.int .u16) W 37 [x0*256+x1] (fun x hx=>by simp at hx;subst hx;exact⟨rfl,by omega,by omega⟩) (by simp)).rd
        have hlw:((eE xs).take (j/2)).length+[x0*256+x1].length≤4194304:=by rw[List.length_take,eO];simp;omega
        have hsz:=hu.size
        have hdone:∀ o w',oZ w.heap.size w' o ((eE xs).take (j/2)++[x0*256+x1])→oZ w.heap.size w' o ((eE xs).take ((j+2)/2)):=by
          intro o w' h
          have e:(j+2)/2=j/2+1:=by omega
          have h2:2*(j/2)=j:=by have:=hj2.out;omega
          rw[e,sw xs (j/2) (by omega),h2,← H0.out,← H1.out]
          exact h
        go_region_held3 (fun w'=>w'.cell? ⟨b,off+j,none⟩=some (.int .u8 x0)∧w'.cell? ⟨b,off+(j+1),none⟩=some (.int .u8 x1)) (first | go_keep | (go_split_ands;exact⟨(hupd [] w ((hu.alloc _).drew) (Nat.le_refl _)).cell (by simp) cw0,(hupd [] w ((hu.alloc _).drew) (Nat.le_refl _)).cell (by simp) cw1⟩)) ((refine qj Bn w.heap.size (by rfl) _ _ 40 37 (.int .u16 0) 2 (by rfl) Tryz.underlying40 wQ rfl _ _ (by rfl) (hown2 _ ((ay.refl [] wr).alloc _).drew) _ [x0*256+x1] (by rfl) (hlit _) hlw (by decide) (by simp;omega) ?_;intro v' w' hown' hupd))
        clear hlit hown2 hc0 hc1 cw0 cw1 hw0 hw1 hw2 hw3 hw4 hw5 hw6 hw7
        go_wp2
        go_roundw
        case rel=>exact⟨j+2,by omega,by show(j+2)%2=0;have:=hj2.out;omega,by go_num,hdone _ _ hown',hupd [] w ((hu.alloc _).drew) (Nat.le_refl _)⟩
        case measure=>simp[intOf];omega
      · have hj3:j=xs.length:=by omega
        have H3:=Lib.hid hj3
        clear hj3 h hh ho'
        go_wp2
        go_ret
        refine⟨_,rfl,?_,hu⟩
        rw[ed,if_pos ho]
        rw[H3.out,List.take_of_length_le (by rw[eO];omega)] at hown
        exact hown
def fq (a n:Int) : Bool:=decide (0<n)&&decide (n≤65536-a)
theorem jG{a n:Int}{w:World}(ha:0≤a∧a<65536) : Calls Tryz.prog 227 #[.int .u16 a,.int .i64 n] w fun e w'=>e = .returned (.bool (fq a n))∧w=w':=by
  have h1:IntKind.i64.wrap (65536-a)=65536-a:=IntWalk.i64_in _ (by omega)
  by_cases h:0<n
  · have hd:fq a n=decide (n≤65536-a):=by simp[fq,h]
    rw[hd]
    go_enter Tryz.func227,Tryz.ntmps227
    go_wp2
    go_ret
    exact⟨rfl,rfl⟩
  · have hd:fq a n=false:=by simp[fq,h]
    rw[hd]
    go_enter Tryz.func227,Tryz.ntmps227
    go_wp2
    go_ret
    exact⟨rfl,rfl⟩
def aF.wbad (c:aF)(n:Int) : Bool:=decide (n<0)||decide ((c.l.length:Int)<n)
def aF.wordsC (c:aF)(n:Int) : aF:=if c.wbad n then c.bytesC (-1) else c.bytesC (2*n)
def aF.wordsR (c:aF)(n:Int) : List Int:=if c.wbad n then [] else ed (c.bytesR (2*n))
def l8 (g:Nat)(c:aF)(n:Int)(w:World)(e:Ending)(w':World) : Prop:=∃ v,e = .returned v∧oZ w.heap.size w' v (c.wordsR n)∧ah w' g (c.wordsC n)∧ay [g] w w'
theorem aF.bytesR_le(c:aF)(n:Int) : (c.bytesR n).length≤c.l.length:=by
  unfold aF.bytesR
  split
  · simp
  · simp;omega
theorem ru{g:Nat}{c:aF}{w:World}{n:Int}(hc:ah w g c) :
    Calls Tryz.prog 228 #[.func (.func 156) #[.pointer (some ⟨g,0,none⟩)] #[],.int .i64 n,.int .i64 c.l.length] w (l8 g c n w):=by
  have hlen:(c.l.length:Int)≤1048576:=by obtain⟨_,_,_,h⟩:=hc;omega
  by_cases hb:c.wbad n=true
  · have hpost:∀ w',ah w' g (c.bytesC (-1))→ay [g] w w'→l8 g c n w (.returned (.slice none 0 0)) w':=fun w' h1 h2 =>
      ⟨_,rfl,by rw[aF.wordsR,if_pos hb];exact aQ.nil ..,by rw[aF.wordsC,if_pos hb];exact h1,h2⟩
    simp only[aF.wbad,Bool.or_eq_true,decide_eq_true_eq] at hb
    by_cases h1:n<0
    · clear hb
      go_enter Tryz.func228,Tryz.ntmps228
      go_wp2_with (go_at_call 156;refine(cc hc).mono ?_;rintro e w' ⟨v,rfl,_,hn1,hn2⟩)
      go_ret
      exact hpost _ hn1 hn2
    · have h2:(c.l.length:Int)<n:=by omega
      clear hb
      go_enter Tryz.func228,Tryz.ntmps228
      go_wp2_with (go_at_call 156;refine(cc hc).mono ?_;rintro e w' ⟨v,rfl,_,hn1,hn2⟩)
      go_ret
      exact hpost _ hn1 hn2
  · have hpost:∀ v w1 w',oZ w1.heap.size w' v (ed (c.bytesR (2*n)))→ah w1 g (c.bytesC (2*n))→ay [g] w w1→ay [] w1 w'→l8 g c n w (.returned v) w':=fun v w1 w' h1 h2 h3 h4 =>
      ⟨_,rfl,by rw[aF.wordsR,if_neg hb];exact h1.weaken h3.size,by rw[aF.wordsC,if_neg hb];exact h2.old h4,h3.step h4⟩
    simp only[aF.wbad,Bool.or_eq_true,decide_eq_true_eq,not_or] at hb
    obtain⟨h1,h2⟩:=hb
    have h3:IntKind.i64.wrap (2*n)=2*n:=IntWalk.i64_in _ (by omega)
    have hle:=c.bytesR_le (2*n)
    go_enter Tryz.func228,Tryz.ntmps228
    go_wp2_with (first | (go_at_call 156;refine(cc hc).mono ?_;rintro e w1 ⟨v,rfl,hr1,hn1,hn2⟩) | (go_at_call 233;refine(za hr1 (by omega)).mono ?_;rintro e w2 ⟨v2,rfl,ho,hu⟩))
    go_ret
    exact hpost _ _ _ ho hn1 hn2 hu
theorem ek{g:Nat}{c:aF}{w:World}{n:Int}(hc:ah w g c) :
    Calls Tryz.prog 202 #[.pointer (some ⟨g,0,none⟩),.int .i64 n] w (l8 g c n w):=by
  obtain⟨A,cp,c0,c1,c2,hfr,hcp1,hcp2,hrd⟩:=hc.cells
  clear hfr hrd c1 c2
  go_enter Tryz.func202,Tryz.ntmps202
  go_wp2_with (go_at_call 228;refine(ru hc).mono ?_;rintro e w' ⟨v,rfl,hn0,hn1,hn2⟩)
  go_ret
  exact⟨_,rfl,hn0,hn1,hn2⟩
theorem ea{g:Nat}{c:aF}{w:World}(hc:ah w g c) :
    Calls Tryz.prog 160 #[.pointer (some ⟨g,0,none⟩)] w fun e w'=>e = .returned (.int .i64 c.l.length)∧w=w':=by
  obtain⟨A,cp,c0,c1,c2,hfr,hcp1,hcp2,hrd⟩:=hc.cells
  clear hfr hrd c1 c2
  go_enter Tryz.func160,Tryz.ntmps160
  go_wp2
  go_ret
  exact⟨rfl,rfl⟩
theorem cw{g:Nat}{c:aF}{w:World}(hc:ah w g c) :
    Calls Tryz.prog 146 #[.pointer (some ⟨g,0,none⟩)] w fun e w'=>e = .returned (.int .i64 c.e)∧w=w':=by
  obtain⟨A,cp,c0,c1,c2,hfr,hcp1,hcp2,hrd⟩:=hc.cells
  clear hfr hrd c1 c0
  go_enter Tryz.func146,Tryz.ntmps146
  go_wp2
  go_ret
  exact⟨rfl,rfl⟩
def aF.endC (c:aF) : aF:=c.need ((c.l.length:Int)==0) 3
theorem eL{g:Nat}{c:aF}{w:World}(hc:ah w g c) :
    Calls Tryz.prog 145 #[.pointer (some ⟨g,0,none⟩)] w (C8 g c.endC w):=by
  obtain⟨A,cp,c0,c1,c2,hfr,hcp1,hcp2,hrd⟩:=hc.cells
  clear hfr hrd c1 c2
  go_enter Tryz.func145,Tryz.ntmps145
  go_wp2_with (go_at_call 155;refine(aY _ 3 hc).mono ?_;rintro e w' ⟨rfl,hn1,hn2⟩)
  go_end0
  exact⟨rfl,hn1,hn2⟩
def En (xs:List Int)(w:World)(e:Ending)(w':World) : Prop:=∃ g,e = .returned (.pointer (some ⟨g,0,none⟩))∧w.heap.size≤g∧ah w' g ⟨xs,false,0⟩∧ay [] w w'
theorem dI{m:Md}{v:Value}{xs:List Int}{w:World}(h:aW m w v xs)(hn:xs.length≤1048576) :
    Calls Tryz.prog 139 #[v] w (En xs w):=by
  go_enter Tryz.func139,Tryz.ntmps139
  go_wp2_with (go_at_call 192;refine(ox h hn).mono ?_;rintro e w' ⟨v',rfl,hn1,hn2⟩;have hr:=hn1.rd;obtain⟨A,c,rfl,_,_⟩:=hr.shape)
  go_ret
  refine⟨_,rfl,hn2.size,⟨_,?_,aW.old hr ((ay.refl [] _).alloc _),hn⟩,hn2.alloc _⟩
  exact dE ..
def aF.byteV (c:aF) : Int:=(c.bytesR 1).getD 0 0
def aF.wordV (c:aF) : Int:=(c.wordsR 1).getD 0 0
def nM (g:Nat)(k:IntKind)(hi:Int)(x:Int)(c':aF)(w:World)(e:Ending)(w':World) : Prop:=e = .returned (.int k x)∧ah w' g c'∧ay [g] w w'∧0≤x∧x<hi
theorem bJ{g:Nat}{c:aF}{w:World}(hc:ah w g c) :
    Calls Tryz.prog 154 #[.pointer (some ⟨g,0,none⟩)] w (nM g .u8 256 c.byteV (c.bytesC 1) w):=by
  have hpost:∀ w' x,x=c.byteV→ah w' g (c.bytesC 1)→ay [g] w w'→0≤x∧x<256→nM g .u8 256 c.byteV (c.bytesC 1) w (.returned (.int .u8 x)) w':=fun w' x hx h1 h2 h3=>⟨by rw[hx],h1,h2,hx▸h3⟩
  rcases hl:c.bytesR 1 with _|⟨x,r⟩
  · have hv:c.byteV=0:=by simp[aF.byteV,hl]
    have hb:=cc (n:=1) hc
    unfold jJ at hb
    rw[hl] at hb
    have HV:=Lib.hid hv
    clear hl hv
    go_enter Tryz.func154,Tryz.ntmps154
    go_wp2_with (first | (go_at_call 156;refine hb.mono ?_;rintro e w1 ⟨v,rfl,hr1,hn1,hn2⟩;obtain⟨A,cp,rfl,_,_⟩:=hr1.shape;clear hb hr1) | (refine wp_loop_once ?_))
    go_ret
    exact hpost _ _ HV.out.symm hn1 hn2 (by omega)
  · have hv:c.byteV=x:=by simp[aF.byteV,hl]
    have hb:=cc (n:=1) hc
    unfold jJ at hb
    rw[hl] at hb
    have HV:=Lib.hid hv
    clear hl hv
    go_enter Tryz.func154,Tryz.ntmps154
    go_wp2_with (first | (go_at_call 156;refine hb.mono ?_;rintro e w1 ⟨v,rfl,hr1,hn1,hn2⟩;obtain⟨A,cp,rfl,_,_⟩:=hr1.shape;obtain⟨b,off,rfl,hcell,hrng⟩:=aW.at_ hr1 0 (by simp);simp only[List.getD_cons_zero,Nat.add_zero] at hcell hrng;clear hb hr1) | (refine wp_loop_once ?_))
    go_ret
    exact hpost _ _ HV.out.symm hn1 hn2 hrng
theorem bK{g:Nat}{c:aF}{w:World}(hc:ah w g c) :
    Calls Tryz.prog 163 #[.pointer (some ⟨g,0,none⟩)] w (nM g .u16 65536 c.wordV (c.wordsC 1) w):=by
  have hpost:∀ w' x,x=c.wordV→ah w' g (c.wordsC 1)→ay [g] w w'→0≤x∧x<65536→nM g .u16 65536 c.wordV (c.wordsC 1) w (.returned (.int .u16 x)) w':=fun w' x hx h1 h2 h3=>⟨by rw[hx],h1,h2,hx▸h3⟩
  rcases hl:c.wordsR 1 with _|⟨x,r⟩
  · have hv:c.wordV=0:=by simp[aF.wordV,hl]
    have hb:=ek (n:=1) hc
    unfold l8 at hb
    rw[hl] at hb
    have HV:=Lib.hid hv
    clear hl hv
    go_enter Tryz.func163,Tryz.ntmps163
    go_wp2_with (first | (go_at_call 202;refine hb.mono ?_;rintro e w1 ⟨v,rfl,hr1,hn1,hn2⟩;obtain⟨A,cp,rfl,_,_⟩:=hr1.rd.shape;clear hb hr1) | (refine wp_loop_once ?_))
    go_ret
    exact hpost _ _ HV.out.symm hn1 hn2 (by omega)
  · have hv:c.wordV=x:=by simp[aF.wordV,hl]
    have hb:=ek (n:=1) hc
    unfold l8 at hb
    rw[hl] at hb
    have HV:=Lib.hid hv
    clear hl hv
    go_enter Tryz.func163,Tryz.ntmps163
    go_wp2_with (first | (go_at_call 202;refine hb.mono ?_;rintro e w1 ⟨v,rfl,hr1,hn1,hn2⟩;obtain⟨A,cp,rfl,_,_⟩:=hr1.rd.shape;obtain⟨b,off,rfl,hcell,hrng⟩:=fv.at_ hr1.rd 0 (by simp);simp only[List.getD_cons_zero,Nat.add_zero] at hcell hrng;clear hb hr1) | (refine wp_loop_once ?_))
    go_ret
    exact hpost _ _ HV.out.symm hn1 hn2 hrng
theorem i6{xs:List Int}{h:Int}(hh:0<h)(hx:∀ x,x∈xs→0≤x∧x<h)(i:Nat) : 0≤xs.getD i 0∧xs.getD i 0<h:=by
  rw[List.getD_eq_getElem?_getD]
  cases hg:xs[i]? with
  | none=>exact⟨Int.le_refl _,hh⟩
  | some x=>exact hx x (List.mem_of_getElem? hg)
theorem ah.rng{w:World}{g:Nat}{c:aF}(h:ah w g c) : ∀ x,x∈c.l→0≤x∧x<256:=by
  obtain⟨v,_,hr,_⟩:=h
  exact hr.rng
theorem jx{c:aF}(h:∀ x,x∈c.l→0≤x∧x<256)(n:Int) : ∀ x,x∈c.bytesR n→0≤x∧x<256:=by
  intro x hx
  unfold aF.bytesR at hx
  split at hx
  · cases hx
  · exact h x (List.mem_of_mem_take hx)
theorem ol:∀ {xs:List Int},(∀ x,x∈xs→0≤x∧x<256)→∀ x,x∈eE xs→0≤x∧x<65536
  | [],_,x,hx=>by cases hx
  | [_],_,x,hx=>by cases hx
  | a :: b :: r,h,x,hx=>by
    simp only[eE,List.mem_cons] at hx
    have ha:=h a (by simp)
    have hb:=h b (by simp)
    rcases hx with rfl|hx
    · omega
    · exact ol (fun y hy=>h y (by simp[hy])) x hx
theorem kG{xs:List Int}(h:∀ x,x∈xs→0≤x∧x<256) : ∀ x,x∈ed xs→0≤x∧x<65536:=by
  unfold ed
  split
  · exact ol h
  · intro x hx;cases hx
theorem ah.byteV{w:World}{g:Nat}{c:aF}(h:ah w g c) : 0≤c.byteV∧c.byteV<256:=i6 (by omega) (jx h.rng 1) 0
theorem ah.wordV{w:World}{g:Nat}{c:aF}(h:ah w g c) : 0≤c.wordV∧c.wordV<65536:=by
  refine i6 (by omega) ?_ 0
  unfold aF.wordsR
  split
  · intro x hx;cases hx
  · exact kG (jx h.rng _)
theorem kY(c:aF)(ok:Bool)(x:Int) : (c.need ok x).l=c.l:=by unfold aF.need;split<;>rfl
theorem jK{c:aF}(h:∀ x,x∈c.l→0≤x∧x<256)(n:Int) : ∀ x,x∈(c.bytesC n).l→0≤x∧x<256:=by
  intro x hx
  unfold aF.bytesC at hx
  split at hx
  · rw[kY] at hx;cases hx
  · exact h x (List.mem_of_mem_drop hx)
theorem dk{c:aF}(h:∀ x,x∈c.l→0≤x∧x<256)(n:Int) : ∀ x,x∈(c.wordsC n).l→0≤x∧x<256:=by
  unfold aF.wordsC
  split<;>exact jK h _
theorem dC{c:aF}(h:∀ x,x∈c.l→0≤x∧x<256) : 0≤c.wordV∧c.wordV<65536:=by
  refine i6 (by omega) ?_ 0
  unfold aF.wordsR
  split
  · intro x hx;cases hx
  · exact kG (jx h _)
open Go.RowKit
def aV:List Int→List Int
  | []=>[]
  | n :: r=>n/256 :: n%256 :: aV r
theorem aE:∀ xs:List Int,(aV xs).length=2*xs.length
  | []=>rfl
  | n :: r=>by simp only[aV,List.length_cons,aE r];omega
theorem lG:∀ xs ys:List Int,aV (xs++ys)=aV xs++aV ys
  | [],ys=>rfl
  | n :: r,ys=>by simp[aV,lG r ys]
theorem vK(xs:List Int)(k:Nat)(h:k<xs.length) : aV (xs.take (k+1))=aV (xs.take k)++[xs.getD k 0/256,xs.getD k 0%256]:=by
  have hg:xs[k]? = some (xs.getD k 0):=by simp[List.getD_eq_getElem?_getD,List.getElem?_eq_getElem h]
  rw[List.take_add_one,hg,lG]
  rfl
def Ef (xs:List Int)(w:World)(e:Ending)(w':World) : Prop:=∃ v,e = .returned v∧cG w.heap.size w' v (aV xs)∧ay [] w w'
theorem ck{m:Md}{v:Value}{xs:List Int}{w:World}(h:fv m w v xs)(hn:xs.length≤1048576) : Calls Tryz.prog 196 #[v] w (Ef xs w):=by
  have hh:=h
  obtain⟨A,c,rfl,hc1,hc2⟩:=h.shape
  go_enter Tryz.func196,Tryz.ntmps196
  go_wp2
  go_loopw [3,8] (fun o i wr=>∃ k:Nat,k≤xs.length∧i = .int .i64 (k:Int)∧cG w.heap.size wr o (aV (xs.take k))∧ay [] w wr) (fun _ i _=>xs.length-(intOf i).toNat)
  case atStart=>exact⟨0,by omega,rfl,by simpa [aV] using aQ.nil ..,ay.refl _ _⟩
  case round =>
    obtain⟨k,hk,rfl,hown,hu⟩:=hrel
    by_cases hlt:k<xs.length
    · obtain⟨b,off,rfl,cw0,hr0⟩:=fv.at_ hh k hlt
      obtain⟨x0,hx0⟩ : ∃ x,x=xs.getD k 0:=⟨_,rfl⟩
      rw[← hx0] at cw0 hr0
      have hc0:=hu.cell (by simp) cw0
      have H0:=Lib.hid hx0
      have hw1:IntKind.u8.wrap (x0/256)=x0/256:=IntWalk.u8_in _ (by omega)
      have hw2:IntKind.u8.wrap x0=x0%256:=IntKind.wrap_u8 _
      clear h hh hx0 cw0
      have hown2:∀ W,ay [] wr W→cG w.heap.size W u3 (aV (xs.take k)):=fun W hW=>aQ.upd hown hW (bV.nil _ _ _) fun _ _ h=>h
      have hlit:=fun W=>(sT (R:=lf) (enc:=Value.int .u8) W 5 [x0/256,x0%256] (fun x hx=>by simp at hx;rcases hx with rfl | rfl<;>exact⟨rfl,by omega,by omega⟩) (by simp)).rd
      have hlw:(aV (xs.take k)).length+[x0/256,x0%256].length≤4194304:=by rw[aE,List.length_take];simp;omega
      have hsz:=hu.size
      have hdone:∀ o w',cG w.heap.size w' o (aV (xs.take k)++[x0/256,x0%256])→cG w.heap.size w' o (aV (xs.take (k+1))):=by
        intro o w' h
        rw[vK xs k hlt,← H0.out]
        exact h
      go_wp2_with (at_builtin;refine oq bp w.heap.size rfl _ _ 27 5 (.int .u8 0) 1 rfl Tryz.underlying27 lQ rfl _ _ rfl (hown2 _ ((ay.refl [] wr).alloc _)) _ [x0/256,x0%256] rfl (hlit _) hlw (by decide) (by simp;omega) ?_;intro v' w' hown' hupd)
      go_roundw
      case rel=>exact⟨k+1,by omega,by go_num,hdone _ _ hown',hupd [] w (hu.alloc _) (Nat.le_refl _)⟩
      case measure=>simp[intOf];omega
    · have hj3:k=xs.length:=by omega
      have H3:=Lib.hid hj3
      clear hj3 h hh
      go_wp2
      go_ret
      refine⟨_,rfl,?_,hu⟩
      rw[H3.out,List.take_of_length_le (Nat.le_refl _)] at hown
      exact hown
open Go.RowKit
def fg (n:Int) : Int:=if n<1 then 0 else (n-1)/8+1
theorem jQ{n:Int}{w:World}(hn : -4611686018427387904≤n∧n≤4611686018427387904) : Calls Tryz.prog 194 #[.int .i64 n] w fun e w'=>e = .returned (.int .i64 (fg n))∧w=w':=by
  by_cases h:n<1
  · have hm:fg n=0:=if_pos h
    rw[hm]
    go_enter Tryz.func194,Tryz.ntmps194
    go_wp2
    go_ret
    exact⟨rfl,rfl⟩
  · have hm:fg n=(n-1)/8+1:=if_neg h
    rw[hm]
    go_enter Tryz.func194,Tryz.ntmps194
    go_wp2
    go_ret
    exact⟨rfl,rfl⟩
def fS {α:Type}(w:World)(g:Nat)(e:TypeId)(enc:α→Value)(xs:List α) : Prop:=w.heap[g]? = some (.cells (xs.map enc).toArray e (0,0))
theorem fS.cell{α:Type}{w:World}{g:Nat}{e:TypeId}{enc:α→Value}{xs:List α}(h:fS w g e enc xs)(d:α)(i:Nat)(hi:i<xs.length) : w.cell? ⟨g,i,none⟩=some (enc (xs.getD i d)):=by
  rw[bh h]
  simp[List.getD_eq_getElem?_getD,List.getElem?_eq_getElem hi]
theorem fS.froz{α:Type}{w:World}{g:Nat}{e:TypeId}{enc:α→Value}{xs:List α}(h:fS w g e enc xs)(i:Nat) : w.frozen? ⟨g,i,none⟩=false:=fa h i
theorem fS.set{α:Type}{w:World}{g:Nat}{e:TypeId}{enc:α→Value}{xs:List α}(h:fS w g e enc xs)(i:Nat)(y:α) : fS (w.setCell ⟨g,i,none⟩ (enc y)) g e enc (xs.set i y):=by
  unfold fS
  rw[gJ h]
  simp[List.map_set]
theorem fS.upd{α:Type}{w w':World}{g:Nat}{e:TypeId}{enc:α→Value}{xs:List α}{S:List Nat}(h:fS w g e enc xs)(hu:ay S w w')(hg:g∉S) : fS w' g e enc xs:=hu.blk hg h
theorem fS.own{α:Type}{R:World→α→List Value→Prop}{w:World}{g base:Nat}{e:TypeId}{enc:α→Value}{xs:List α}(h:fS w g e enc xs)(hb:base≤g)(hR:∀ x,x∈xs→R w x [enc x])(hl:xs.length≤4194304) :
    aQ base e 1 R w (.slice (some ⟨g,0,none⟩) xs.length xs.length) xs :=
  ez (enc:=enc) hR ⟨by simp,.inr ⟨g,xs.length,_,rfl,hb,h,Nat.le_refl _,by unfold maxLen;omega,by simp,by simp[List.take_of_length_le]⟩⟩
theorem uu{α:Type}(enc:α→Value)(d:α)(m:Nat) : madeCells #[enc d] m=((List.replicate m d).map enc).toArray:=by
  apply Array.ext_getElem?
  intro i
  by_cases hi:i<m
  · simp[madeCells,Nat.mod_one,hi]
  · simp[madeCells,hi]
theorem rH{P:Program}{α:Type}(enc:α→Value)(d:α)(t e:TypeId)(bytes:Nat)(ht:P.underlying t=some (.slice e))(hinfo:(P.info? e).map (fun i=>(i.zero,i.size,i.bytes))=some (some (enc d),1,bytes))(hz:(enc d).cells = #[enc d])
    (m:Nat) (hm:m≤4194304) (hby:bytes≤65536) (W:World) :
    (Instr.makeSlice t (.int .i64 (m:Int)) (.int .i64 (m:Int))).run P W = .ok (.slice (some ⟨W.heap.size,0,none⟩) m m) (W.alloc (.cells ((List.replicate m d).map enc).toArray e)):=by
  rw[← uu]
  exact run_make_row' t e (enc d) bytes ht hinfo hz .i64 .i64 m (Nat.le_trans (Nat.mul_le_mul hby hm) (by decide)) (by omega) W
theorem w8:(Tryz.prog.info? 4).map (fun i=>(i.zero,i.size,i.bytes))=some (some (.bool false),1,1):=by kernel_rfl
def dg (l:List Bool)(j:Nat) : Nat :=
  (if l.getD (8*j) false then 1 else 0)+(if l.getD (8*j+1) false then 2 else 0)+(if l.getD (8*j+2) false then 4 else 0)+(if l.getD (8*j+3) false then 8 else 0) +
  (if l.getD (8*j+4) false then 16 else 0)+(if l.getD (8*j+5) false then 32 else 0)+(if l.getD (8*j+6) false then 64 else 0)+(if l.getD (8*j+7) false then 128 else 0)
theorem kN(l:List Bool)(k i:Nat) : (l.take k).getD i false=(decide (i<k)&&l.getD i false):=by
  rw[List.getD_eq_getElem?_getD,List.getD_eq_getElem?_getD,List.getElem?_take]
  by_cases h:i<k<;>simp[h]
theorem vV(l:List Bool)(k:Nat) : dg (l.take k) (k/8)<2 ^ (k%8):=by
  have hr:k%8<8:=Nat.mod_lt _ (by decide)
  have hk:k=8*(k/8)+k%8:=by omega
  generalize k/8=q at *
  generalize k%8=r at *
  subst hk
  unfold dg
  simp only[kN]
  rcases r with _|_|_|_|_|_|_|_|r
  case succ.succ.succ.succ.succ.succ.succ.succ=>omega
  all_goals
    simp
    repeat' split
    all_goals omega
theorem lg(l:List Bool)(k j:Nat) : dg (l.take (k+1)) j=dg (l.take k) j+if j=k/8∧l.getD k false=true then 2 ^ (k%8) else 0:=by
  by_cases hj:j=k/8
  · subst hj
    have hr:k%8<8:=Nat.mod_lt _ (by decide)
    have hk:k=8*(k/8)+k%8:=by omega
    generalize k/8=q at *
    generalize k%8=r at *
    subst hk
    unfold dg
    simp only[kN]
    have e:∀ t r:Nat,decide (8*q+t<8*q+r)=decide (t<r):=fun t r=>by simp
    have e0:∀ r:Nat,decide (8*q<8*q+r)=decide (0<r):=fun r=>by simp
    simp only[Nat.add_assoc,e,e0]
    rcases r with _|_|_|_|_|_|_|_|r
    case succ.succ.succ.succ.succ.succ.succ.succ=>omega
    all_goals simp
  · have h1:∀ t,t<8→(decide (8*j+t<k+1)&&l.getD (8*j+t) false)=(decide (8*j+t<k)&&l.getD (8*j+t) false):=by
      intro t ht
      have:8*j+t<k+1↔8*j+t<k:=by omega
      simp only[this]
    have h0:=h1 0 (by omega)
    simp only[Nat.add_zero] at h0
    unfold dg
    simp only[kN,h0,h1 1 (by omega),h1 2 (by omega),h1 3 (by omega),h1 4 (by omega),h1 5 (by omega),h1 6 (by omega),h1 7 (by omega)]
    simp[hj]
theorem rS(l:List Bool)(j:Nat) : dg l j≤255:=by
  unfold dg
  repeat' split
  all_goals omega
def dO (l:List Bool) : List Int:=(List.range (fg l.length).toNat).map fun j=>(dg l j:Int)
def D4 (l:List Bool)(w:World)(e:Ending)(w':World) : Prop:=∃ v,e = .returned v∧cG w.heap.size w' v (dO l)∧ay [] w w'
theorem xr{m:Md}{v:Value}{l:List Bool}{w:World}(h:nB m w v l)(hn:l.length≤1048576) : Calls Tryz.prog 197 #[v] w (D4 l w):=by
  have hh:=h
  obtain⟨A,c,rfl,hc1,hc2⟩:=h.shape
  have hmn:0≤fg l.length∧fg l.length≤131073:=by unfold fg;split<;>omega
  obtain⟨N,hN⟩:=Int.eq_ofNat_of_zero_le hmn.1
  have hmk:=rH (P:=Tryz.prog) (Value.int .u8) 0 27 5 1 Tryz.underlying27 lQ rfl N (by omega) (by decide)
  clear h
  go_enter Tryz.func197,Tryz.ntmps197
  go_wp2_with (go_at_call 194;refine(jQ (by omega)).mono ?_;rintro e w1 ⟨rfl,rfl⟩;rw[hN])
  clear hmk
  go_loopw [4,12] (fun _ i wr=>∃ k:Nat,k≤l.length∧i = .int .i64 (k:Int)∧fS wr w.heap.size 5 (Value.int .u8) ((List.range N).map fun j=>(dg (l.take k) j:Int))∧ay [] w wr) (fun _ i _=>l.length-(intOf i).toNat)
  case atStart =>
    refine⟨0,by omega,rfl,?_,(ay.refl [] w).alloc _⟩
    have e:(List.range N).map (fun j=>(dg (l.take 0) j:Int))=List.replicate N 0:=by
      apply List.ext_getElem
      · simp
      · intro i h1 h2
        simp[dg]
    rw[e]
    have h:=dE w (.cells ((List.replicate N (0:Int)).map (Value.int .u8)).toArray 5)
    simp only[List.map_replicate,List.toArray_replicate] at h
    unfold fS
    rw[List.map_replicate,List.toArray_replicate]
    exact h
  case round =>
    obtain⟨k,hk,rfl,hrow,hu⟩:=hrel
    by_cases hlt:k<l.length
    · obtain⟨b,off,rfl,cw0⟩:=nB.at_ hh k hlt
      obtain⟨x0,hx0⟩ : ∃ x,x=l.getD k false:=⟨_,rfl⟩
      rw[← hx0] at cw0
      have hc0:=hu.cell (by simp) cw0
      have H0:=Lib.hid hx0
      clear hh hx0 cw0
      have hkN:k/8<N:=by
        have:(k:Int)/8<N:=by rw[← hN];unfold fg;split<;>omega
        omega
      cases x0 with
      | false =>
        have hrow':fS wr w.heap.size 5 (Value.int .u8) ((List.range N).map fun j=>(dg (l.take (k+1)) j:Int)):=by
          have e:(fun j=>(dg (l.take (k+1)) j:Int))=fun j=>(dg (l.take k) j:Int):=by
            funext j
            rw[lg,← H0.out]
            simp
          rw[e]
          exact hrow
        clear hrow
        go_wp2
        go_roundw
        case rel=>exact⟨k+1,by omega,by go_num,hrow',hu⟩
        case measure=>simp[intOf];omega
      | true =>
        have rE:IntKind.i64.wrap ((k:Int)/8)=(k:Int)/8:=IntWalk.i64_in _ (by omega)
        have pB:(0:Int)≤(k:Int)/8:=by omega
        have rM:(k:Int)/8<N:=by omega
        have hd4:((k:Int)/8).toNat=k/8:=by omega
        obtain⟨r,hr⟩ : ∃ r,k%8=r:=⟨_,rfl⟩
        have hr8:r<8:=by omega
        have hd5:(k:Int).tmod 8=(r:Int):=by rw[Int.tmod_eq_emod_of_nonneg (by omega)];omega
        have hsh:∀ W,(Op.shift BinOp.shl IntKind.u8 1 IntKind.i64 (r:Int)).run Tryz.prog W = .ok (.int .u8 (2 ^ r)) W:=by
          intro W
          clear hr hd5
          rcases r with _|_|_|_|_|_|_|_|r
          case succ.succ.succ.succ.succ.succ.succ.succ=>omega
          all_goals rfl
        have hbl:=vV l k
        rw[hr] at hbl
        obtain⟨x,hx⟩ : ∃ x,dg (l.take k) (k/8)=x:=⟨_,rfl⟩
        rw[hx] at hbl
        have hor:bits BinOp.or IntKind.u8 (x:Int) (2 ^ r)=((x+2 ^ r:Nat) : Int):=by
          have h2:(2:Nat) ^ r≤128:=by
            have:=Nat.pow_le_pow_right (n:=2) (by decide) (show r≤7 by omega)
            omega
          have h3:((2:Int) ^ r)=((2 ^ r:Nat) : Int):=by simp
          rw[h3,u8_or_nat _ _ (by omega) (by omega)]
          have:=Nat.two_pow_add_eq_or_of_lt hbl 1
          rw[Nat.mul_one,Nat.or_comm] at this
          omega
        have hcell:=hrow.cell 0 (k/8) (by simp;exact hkN)
        have hget:((List.range N).map fun j=>(dg (l.take k) j:Int)).getD (k/8) 0=(x:Int):=by
          rw[List.getD_eq_getElem?_getD]
          simp[hkN,hx]
        rw[hget] at hcell
        have hfro:=hrow.froz (k/8)
        have hrow2:∀ W,ay [] wr W→fS (W.setCell ⟨w.heap.size,k/8,none⟩ (.int .u8 ((x:Int)+2 ^ r))) w.heap.size 5 (Value.int .u8) ((List.range N).map fun j=>(dg (l.take (k+1)) j:Int)):=by
          intro W hW
          have h:=(fS.upd hrow hW (by simp)).set (k/8) ((x+2 ^ r:Nat) : Int)
          have hrow':((List.range N).map fun j=>(dg (l.take k) j:Int)).set (k/8) ((x+2 ^ r:Nat) : Int)=(List.range N).map fun j=>(dg (l.take (k+1)) j:Int):=by
            apply List.ext_getElem
            · simp
            · intro i h1 h2
              simp only[List.getElem_set,List.getElem_map,List.getElem_range]
              rw[lg,← H0.out,hr]
              by_cases hi:i=k/8
              · subst hi
                simp[hx]
              · rw[if_neg (by omega)]
                simp[hi]
          rw[hrow'] at h
          simpa using h
        have hcast:((x+2 ^ r:Nat) : Int)=(x:Int)+2 ^ r:=by simp
        rw[hcast] at hor
        have hwr:IntKind.u8.wrap (2 ^ r)=2 ^ r:=by
          have h2:(2:Nat) ^ r≤128:=by
            have:=Nat.pow_le_pow_right (n:=2) (by decide) (show r≤7 by omega)
            omega
          have h3:((2:Int) ^ r)=((2 ^ r:Nat) : Int):=by simp
          rw[h3]
          exact IntWalk.u8_in _ (by omega)
        clear hrow hr hx hget hbl hcast
        go_wp2_with fail
        refine nw 10 (by kernel_rfl) (by kernel_rfl) (fun w4 hu4=>?_)
        have d0:=hu4.cell (by simp) hcell
        have d1:=hu4.froz (p:=⟨w.heap.size,k/8,none⟩) (by simp) (World.block_lt_of_cell? _ _ hcell) hfro
        clear hcell hfro hc0
        simp only[List.take_succ_cons,List.take_zero,List.drop_succ_cons,List.drop_zero]
        iterate 10 still_step
        refine wpStill_nil ?_
        have h5:=hrow2 w4 hu4
        have hu6:ay [] w (w4.setCell ⟨w.heap.size,k/8,none⟩ (.int .u8 ((x:Int)+2 ^ r))):=(hu.trans hu4).setCell (.inr (Nat.le_refl _)) _
        clear hrow2 hor hwr hsh
        go_wp2
        go_roundw
        case rel=>exact⟨k+1,by omega,by go_num,h5,hu6⟩
        case measure=>simp[intOf];omega
    · have hj3:k=l.length:=by omega
      have H3:=Lib.hid hj3
      clear hj3 hh
      go_wp2
      go_ret
      rw[H3.out,List.take_of_length_le (Nat.le_refl _)] at hrow
      have ho:=hrow.own (R:=lf) (Nat.le_refl _) (fun x hx=>by
        simp only[List.mem_map,List.mem_range] at hx
        obtain⟨j,_,rfl⟩:=hx
        have:=rS l j
        exact⟨rfl,by omega,by omega⟩) (by simp;omega)
      have hlN:((List.range N).map fun j=>(dg l j:Int)).length=N:=by simp
      rw[hlN] at ho
      refine⟨_,rfl,?_,hu⟩
      unfold dO
      rw[hN]
      exact ho
def cS (b:List Int)(i:Nat) : Bool:=b.getD (i/8) 0/2 ^ (i%8)%2==1
def dv (b:List Int)(n:Int) : Option (List Bool) :=
  if 0≤n∧(b.length:Int)=fg n then
    if (List.range (8*b.length)).all (fun i=>decide ((i:Int)<n) || !cS b i) then some ((List.range n.toNat).map (cS b)) else none
  else none
def ji (b:List Int)(n:Int)(w:World)(e:Ending)(w':World) : Prop :=
  ∃ v,e = .returned (.tuple #[v,.bool (dv b n).isSome])∧DW w.heap.size w' v ((dv b n).getD [])∧ay [] w w'
theorem iX{b:List Int}{n:Int}{w w':World}(h:dv b n=none)(hu:ay [] w w') : ji b n w (.returned (.tuple #[.slice none 0 0,.bool false])) w' :=
  ⟨_,by rw[h];rfl,by rw[h];exact aQ.nil ..,hu⟩
theorem sX{m:Md}{v:Value}{b:List Int}{n:Int}{w:World}(h:aW m w v b)(hb:b.length≤1048576)(hn:n≤100000)(hn0 : -100000≤n) : Calls Tryz.prog 195 #[v,.int .i64 n] w (ji b n w):=by
  have hh:=h
  obtain⟨A,c,rfl,hc1,hc2⟩:=h.shape
  have hrng:=aW.rng h
  clear h
  by_cases h0:n<0
  · have hno:dv b n=none:=if_neg (by omega)
    have hp:∀ w',ay [] w w'→ji b n w (.returned (.tuple #[.slice none 0 0,.bool false])) w':=fun w' hu=>iX hno hu
    clear hno hh
    go_enter Tryz.func195,Tryz.ntmps195
    go_wp2
    go_ret2
    exact hp _ (ay.refl _ _)
  by_cases h1:(b.length:Int)=fg n
  case neg =>
    have hno:dv b n=none:=if_neg (by omega)
    have hp:∀ w',ay [] w w'→ji b n w (.returned (.tuple #[.slice none 0 0,.bool false])) w':=fun w' hu=>iX hno hu
    have h1':((b.length:Int)!=fg n)=true:=by simpa using h1
    clear hno hh h1
    go_enter Tryz.func195,Tryz.ntmps195
    go_wp2_with (go_at_call 194;refine(jQ (by omega)).mono ?_;rintro e w1 ⟨rfl,rfl⟩)
    go_ret2
    exact hp _ (ay.refl _ _)
  case pos =>
    have h1':((b.length:Int)!=fg n)=false:=by simpa using h1
    obtain⟨N,rfl⟩:=Int.eq_ofNat_of_zero_le (show 0≤n by omega)
    have hmk:=rH (P:=Tryz.prog) Value.bool false 41 4 1 Tryz.underlying41 w8 rfl N (by omega) (by decide)
    have H1:=Lib.hid h1
    clear h1
    go_enter Tryz.func195,Tryz.ntmps195
    go_wp2_with (go_at_call 194;refine(jQ (by omega)).mono ?_;rintro e w1 ⟨rfl,rfl⟩)
    clear hmk
    go_loopw [23] (fun i wr=>∃ k:Nat,k≤8*b.length∧i = .int .i64 (k:Int)∧fS wr w.heap.size 4 Value.bool ((List.range N).map fun j=>decide (j<k)&&cS b j)∧(∀ j,N≤j→j<k→cS b j=false)∧ay [] w wr) (fun i _=>8*b.length-(intOf i).toNat)
    case atStart =>
      refine⟨0,by omega,rfl,?_,fun j _ hj=>by omega,(ay.refl [] w).alloc _⟩
      have e:(List.range N).map (fun j=>decide (j<0)&&cS b j)=List.replicate N false:=by
        apply List.ext_getElem
        · simp
        · intro i h1 h2
          simp
      rw[e]
      have h:=dE w (.cells ((List.replicate N false).map Value.bool).toArray 4)
      simp only[List.map_replicate,List.toArray_replicate] at h
      unfold fS
      rw[List.map_replicate,List.toArray_replicate]
      exact h
    case round =>
      obtain⟨k,hk,rfl,hrow,hz,hu⟩:=hrel
      by_cases hlt:k<8*b.length
      · have hk8:k/8<b.length:=by omega
        obtain⟨bb,off,rfl,cw0,hr0⟩:=aW.at_ hh (k/8) hk8
        obtain⟨x,hx⟩ : ∃ x,b.getD (k/8) 0=x:=⟨_,rfl⟩
        rw[hx] at cw0 hr0
        have hc0:=hu.cell (by simp) cw0
        obtain⟨r,hr⟩ : ∃ r,k%8=r:=⟨_,rfl⟩
        have hr8:r<8:=by omega
        have hd4:((k:Int)/8).toNat=k/8:=by omega
        have hd5:(k:Int)%8=(r:Int):=by omega
        have hsh:∀ W,(Op.shift BinOp.shr IntKind.u8 x IntKind.i64 (r:Int)).run Tryz.prog W = .ok (.int .u8 (x/2 ^ r)) W:=by
          intro W
          clear hr hd5
          rcases r with _|_|_|_|_|_|_|_|r
          case succ.succ.succ.succ.succ.succ.succ.succ=>omega
          all_goals simp[go_sem]
        have hq:0≤x/2 ^ r∧x/2 ^ r<256:=by
          have h2:(0:Int)<2 ^ r:=Int.pow_pos (by decide)
          constructor
          · exact Int.ediv_nonneg hr0.1 (by omega)
          · exact Int.lt_of_le_of_lt (Int.ediv_le_self _ hr0.1) hr0.2
        have hand:bits BinOp.and IntKind.u8 (x/2 ^ r) 1=x/2 ^ r%2:=by
          rw[u8_and _ _ hq.1 hq.2 (by decide) (by decide)]
          have:(1:Int).toNat=1:=rfl
          rw[this,Nat.and_one_is_mod]
          omega
        have hbit:(x/2 ^ r%2==1)=cS b k:=by rw[cS,hx,hr]
        have hset:∀ W B,fS W w.heap.size 4 Value.bool ((List.range N).map fun j=>decide (j<k)&&cS b j)→B=cS b k→k<N→fS (W.setCell ⟨w.heap.size,k,none⟩ (.bool B)) w.heap.size 4 Value.bool ((List.range N).map fun j=>decide (j<k+1)&&cS b j):=by
          intro W B h hB hkN
          have h2:=h.set k B
          have e:((List.range N).map fun j=>decide (j<k)&&cS b j).set k B=(List.range N).map fun j=>decide (j<k+1)&&cS b j:=by
            apply List.ext_getElem
            · simp
            · intro i h1 h2
              simp only[List.getElem_set,List.getElem_map,List.getElem_range]
              by_cases hi:i=k
              · subst hi
                simp[hB]
              · rw[if_neg (by omega)]
                have:i<k+1↔i<k:=by omega
                simp[this]
          rw[e] at h2
          exact h2
        have hwr1:IntKind.i64.wrap ((k:Int)/8)=(k:Int)/8:=IntWalk.i64_in _ (by omega)
        have HX:=Lib.hid hx
        have HR:=Lib.hid hr
        clear hx hr cw0 hq
        by_cases hkN:k<N
        · have hkl:k<((List.range N).map fun j=>decide (j<k)&&cS b j).length:=by simpa using hkN
          have hcell:=hrow.cell false k hkl
          have hfro:=hrow.froz k
          have hset':=fun B hB=>hset wr B hrow hB hkN
          have hz':∀ j,N≤j→j<k+1→cS b j=false:=fun j h1 h2=>hz j h1 (by omega)
          have hlt2:(k:Int)<N:=by omega
          generalize hBv:cS b k=B at hbit
          have HB:=Lib.hid hBv
          have HZ:=Lib.hid hz'
          have HS:=Lib.hid hset'
          generalize ((List.range N).map fun j=>decide (j<k)&&cS b j).getD k false=B0 at hcell
          have hN8:N≤8*b.length:=by have:=H1.out;unfold fg at this;split at this<;>omega
          clear hset hset' hz hz' hrow hh hBv hkl
          cases B <;>
          · go_wp2
            go_roundw
            case rel=>exact⟨k+1,by omega,by go_num,HS.out _ HB.out.symm,HZ.out,hu.setCell (.inr (Nat.le_refl _)) _⟩
            case measure=>simp[intOf];omega
        · have hlt2:¬ (k:Int)<N:=by omega
          generalize hBv:cS b k=B at hbit
          have HB:=Lib.hid hBv
          clear hset hBv
          cases B with
          | true =>
            have hno:dv b N=none:=by
              unfold dv
              rw[if_pos ⟨by omega,H1.out⟩,if_neg]
              intro hall
              have:=List.all_eq_true.1 hall k (List.mem_range.2 (by omega))
              simp[HB.out] at this
              omega
            have hp:∀ w',ay [] w w'→ji b N w (.returned (.tuple #[.slice none 0 0,.bool false])) w':=fun w' hu=>iX hno hu
            clear hno hz hrow hh
            go_wp2
            go_ret2
            exact hp _ hu
          | false =>
            have hrow':fS wr w.heap.size 4 Value.bool ((List.range N).map fun j=>decide (j<k+1)&&cS b j):=by
              have e:(List.range N).map (fun j=>decide (j<k+1)&&cS b j)=(List.range N).map fun j=>decide (j<k)&&cS b j:=by
                apply List.map_congr_left
                intro j hj
                have hj':=List.mem_range.1 hj
                have:j<k+1↔j<k:=by omega
                simp[this]
              rw[e]
              exact hrow
            have hz':∀ j,N≤j→j<k+1→cS b j=false:=fun j h1 h2=>by
              rcases Nat.lt_or_ge j k with h3|h3
              · exact hz j h1 h3
              · obtain rfl:j=k:=by omega
                exact HB.out
            have HZ:=Lib.hid hz'
            clear hz hz' hrow hh
            go_wp2
            go_roundw
            case rel=>exact⟨k+1,by omega,by go_num,hrow',HZ.out,hu⟩
            case measure=>simp[intOf];omega
      · have hk3:k=8*b.length:=by omega
        have hN8:N≤8*b.length:=by have:=H1.out;unfold fg at this;split at this<;>omega
        have hyes:dv b N=some ((List.range N).map (cS b)):=by
          unfold dv
          rw[if_pos ⟨by omega,H1.out⟩,if_pos]
          · simp
          · simp only[List.all_eq_true,List.mem_range,Bool.or_eq_true,decide_eq_true_eq,Bool.not_eq_true']
            intro j hj
            by_cases hjN:j<N
            · exact .inl (by omega)
            · exact .inr (hz j (by omega) (by omega))
        have hfin:((List.range N).map fun j=>decide (j<k)&&cS b j)=(List.range N).map (cS b):=by
          apply List.map_congr_left
          intro j hj
          have hj':=List.mem_range.1 hj
          have:j<k:=by omega
          simp[this]
        rw[hfin] at hrow
        have ho:=hrow.own (R:=tL) (Nat.le_refl _) (fun x hx=>rfl) (by simp;omega)
        have hlN:((List.range N).map (cS b)).length=N:=by simp
        rw[hlN] at ho
        have hp:ji b N w (.returned (.tuple #[.slice (some ⟨w.heap.size,0,none⟩) N N,.bool true])) wr:=⟨_,by rw[hyes];rfl,by rw[hyes];exact ho,hu⟩
        have H3:=Lib.hid hk3
        clear hk3 hz hrow hh hyes hfin ho hlN
        go_wp2
        go_ret2
        exact hp
open Go.RowKit
theorem tE{P:Program}{kt:TypeId}{q q':IntKind}(hk:P.underlying kt=some (.int q))(w:World)(em:Bool)(n:Int) : (Instr.checkKey em 10000 kt (.int q' n)).run P w = .ok () w:=by
  rw[show(10000:Nat)=9999+1 from rfl,Instr.checkKey]
  simp[run_underlying hk,Result.andThen]
theorem mv{P:Program}{w:World}{t kt e:TypeId}{q:IntKind}(ht:P.underlying t=some (.map kt e))(hk:P.underlying kt=some (.int q)){r:Nat}{es:Array MapEntry}{clk:Nat}(hb:w.heap[r]? = some (.map es clk))
    (n:Int) (v:Value) (hno:Instr.findNow (.int q) (.int q n) es.toList 0=some none) :
    ∃ w',(Instr.mapUpdate t (.map (some r)) (.int q n) v).run P w = .ok () w'∧w'.heap[r]? = some (.map (es.push ⟨.int q n,v,clk⟩) (clk+1))∧ay [r] w w':=by
  have hlt:=ag hb
  refine⟨{ w with heap:=w.heap.setIfInBounds r (.map (es.push ⟨.int q n,v,clk⟩) (clk+1)) },?_,by simp[hlt],rfl,rfl,rfl,by simp,fun k hk1 hk2=>?_⟩
  · simp[Instr.mapUpdate,run_underlying ht,MapKept.run_getObj_map hb,tE hk,MapKept.run_findKey hk hno,MapKept.run_setObj_map _ hb,Result.andThen]
  · have:r≠k:=fun h=>hk2 (by simp[h])
    simp[Array.getElem?_setIfInBounds,this]
theorem lc{P:Program}{w:World}{t kt e:TypeId}{q:IntKind}(ht:P.underlying t=some (.map kt e))(hk:P.underlying kt=some (.int q)){r:Nat}{es:Array MapEntry}{clk:Nat}(hb:w.heap[r]? = some (.map es clk))
    (n:Int) (z:Value) (hz:(zeroValue e).run P w = .ok z w) {res:Option (Nat × Value)} (hf:Instr.findNow (.int q) (.int q n) es.toList 0=some res) (cok:Bool) :
    (Instr.lookup t (.map (some r)) (.int q n) cok).run P w = .ok (if cok then .tuple #[(res.map (·.2)).getD z,.bool res.isSome] else (res.map (·.2)).getD z) w:=by
  unfold Instr.lookup
  simp only[Sem.run_bind,run_underlying ht,MapKept.run_getObj_map hb,tE hk,MapKept.run_findKey hk hf,Result.andThen,Sem.run_pure]
  cases res with
  | none=>simp[hz,Result.andThen]
  | some p=>simp[Result.andThen]
open Go.RowKit
def jb (cs:Array Value) : Nat→List Value→Array Value
  | _,[]=>cs
  | o,v :: r=>jb (cs.setIfInBounds o v) (o+1) r
theorem lA:∀ (vs:List Value)(cs:Array Value)(o j:Nat),o+vs.length≤cs.size→(jb cs o vs)[j]? = if o≤j∧j<o+vs.length then vs[j-o]? else cs[j]?
  | [],cs,o,j,_=>by simp[jb];intro h1 h2;omega
  | v :: r,cs,o,j,h=>by
    have h':o+1+r.length≤cs.size:=by simp at h;omega
    simp only[jb]
    rw[lA r _ (o+1) j (by simpa using h')]
    by_cases hj:j=o
    · subst hj
      rw[if_neg (by omega),if_pos (by simp)]
      simp at h
      simp[Array.getElem?_setIfInBounds]
      omega
    · by_cases h2:o+1≤j∧j<o+1+r.length
      · rw[if_pos h2,if_pos (by simp;omega)]
        have:j-o=(j-(o+1))+1:=by omega
        rw[this,List.getElem?_cons_succ]
      · rw[if_neg h2,if_neg (by simp;omega),Array.getElem?_setIfInBounds,if_neg (by omega)]
theorem ly(vs:List Value)(cs:Array Value)(h:vs.length=cs.size) : jb cs 0 vs=vs.toArray:=by
  apply Array.ext_getElem?
  intro j
  rw[lA vs cs 0 j (by omega)]
  by_cases hj:j<vs.length
  · rw[if_pos (by omega)]
    simp
  · rw[if_neg (by omega)]
    simp
    rw[Array.getElem?_eq_none (by omega),List.getElem?_eq_none (by omega)]
theorem iC:∀ (vs:List Value)(w:World)(b o:Nat)(cs:Array Value)(t:TypeId)(fr:Nat × Nat),w.heap[b]? = some (.cells cs t fr)→(w.setCells b o vs).heap[b]? = some (.cells (jb cs o vs) t fr)∧ay [b] w (w.setCells b o vs)
  | [],w,b,o,cs,t,fr,h=>⟨h,ay.refl _ _⟩
  | v :: r,w,b,o,cs,t,fr,h=>by
    obtain⟨h1,h2⟩:=iC r (w.setCell ⟨b,o,none⟩ v) b (o+1) _ t fr (gJ h o v)
    exact⟨h1,((ay.refl [b] w).setCell (p:=⟨b,o,none⟩) (.inl (by simp)) v).trans h2⟩
section
variable {P:Program}{w:World}{ops:Array Oper}{rest:List Oper}{o:Oper}{a:Act}{Q:Exit→Act→World→Prop}
theorem gX(hg:o.guard=none)(t:TypeId)(x y:Operand)(ho:o.op = .store t x y)(g:Nat)(hx:a.eval x = .pointer (some ⟨g,0,none⟩))(vs:Array Value)(hy:a.eval y = .agg vs)
    (cs:Array Value) (t':TypeId) (hb:w.heap[g]? = some (.cells cs t' (0,0))) (hi:(P.info? t).map (·.size)=some vs.size) (hs:vs.size=cs.size) (h1:vs.all (·.oneCell')=true)
    (h:∀ w',w'.heap[g]? = some (.cells vs t' (0,0))→ay [g] w w'→wpList P ops Q rest (a.put o.dst undef) w') : wpList P ops Q (o :: rest) a w:=by
  obtain⟨h2,h3⟩:=iC vs.toList w g 0 cs t' (0,0) hb
  rw[ly _ _ (by simpa using hs)] at h2
  refine wpList_store_mid hg t x y ho g 0 vs hx hy (fun j hj=>?_) hi h1 (h _ (by simpa using h2) h3)
  rw[Nat.zero_add,bh hb,fa hb]
  exact⟨by rw[Array.getElem?_eq_getElem (by omega)];rfl,rfl⟩
theorem ia(hg:o.guard=none)(t:TypeId)(ho:o.op = .alloc t)(z:Value)(hz:(P.info? t).map (·.zero)=some (some z))
    (h:∀ g w',w.heap.size≤g→w'.heap[g]? = some (.cells z.cells t (0,0))→ay [] w w'→wpList P ops Q rest (a.put o.dst (.pointer (some ⟨g,0,none⟩))) w') : wpList P ops Q (o :: rest) a w:=by
  refine wpList_plain hg fun K hK=>?_
  obtain⟨i0,hi,hz0⟩:=Option.map_eq_some_iff.1 hz
  have hrun:(execOp a.eval o).run P w = .ok (.value (.pointer (some ⟨w.heap.size,0,none⟩))) (w.alloc (.cells z.cells t)):=by
    unfold execOp
    simp[go_sem,ho,Instr.alloc,zeroValue,typeInfo,hi,hz0,newVar,newRow]
  unfold Oper.wp
  rw[hrun]
  exact hK _ _ (h _ _ (Nat.le_refl _) (dE ..) ((ay.refl [] w).alloc _))
theorem Ak(hg:o.guard=none)(t:TypeId)(x:Operand)(ho:o.op = .box t x)(v:Value)(hx:a.eval x=v)
    (h:∀ g w',w.heap.size≤g→w'.heap[g]? = some (.cells v.cells t (0,0))→ay [] w w'→wpList P ops Q rest (a.put o.dst (.pointer (some ⟨g,0,none⟩))) w') : wpList P ops Q (o :: rest) a w:=by
  subst hx
  refine wpList_plain hg fun K hK=>?_
  have hrun:(execOp a.eval o).run P w = .ok (.value (.pointer (some ⟨w.heap.size,0,none⟩))) (w.alloc (.cells (a.eval x).cells t)):=by
    unfold execOp
    simp[go_sem,ho,newVar,newRow]
  unfold Oper.wp
  rw[hrun]
  exact hK _ _ (h _ _ (Nat.le_refl _) (dE ..) ((ay.refl [] w).alloc _))
end
theorem kQ{P:Program}{fn:Func}{p q:Tmp}{ty:TypeId}(h:fn.results = #[.cell p ty,.tmp q])(tmps:Array Value)(w:World)(g:Nat)(t:TypeId)(cs:Array Value)(fr:Nat × Nat)(d:TypeDesc)
    (hp:tmps.getD p undef = .pointer (some ⟨g,0,none⟩)) (hg:w.heap[g]? = some (.cells cs t fr))
    (hu:P.underlying ty=some d) (hd:(match d with | .struct _ | .array _ _=>true | _=>false)=true) (hi:(P.info? ty).map (·.size)=some cs.size) :
    (results fn tmps).run P w = .ok (.tuple #[.agg cs,tmps.getD q undef]) w:=by
  have hp':tmps[p]?.getD undef = .pointer (some ⟨g,0,none⟩):=by simpa using hp
  simp[results,h,hp',asAddr,run_loadVar_row w g t ty cs fr d hg hu hd hi]
open Go.RowKit
structure et where
  file:Int
  record:Int
  count:Int
  words:List Int
deriving DecidableEq
structure Obj where
  id:Int
  value:List Int
deriving DecidableEq
structure b7 where
  code:Int
  fail:Int
  addr:Int
  count:Int
  value:Int
  and_:Int
  or_:Int
  addr2:Int
  sub:Int
  status:Int
  events:Int
  messages:Int
  words:List Int
  bits:List Bool
  data:List Int
  recs:List et
  mei:Int
  kind:Int
  level:Int
  more:Int
  next:Int
  objects:List Obj
deriving DecidableEq
def b7.zero:b7:=⟨0,0,0,0,0,0,0,0,0,0,0,0,[],[],[],[],0,0,0,0,0,[]⟩
def B8 (x:Int) : Prop:=0≤x∧x<256
def eT (x:Int) : Prop:=0≤x∧x<65536
def bL (m:Md)(w:World)(r:et)(cs:List Value) : Prop:=∃ v,cs=[.int .u16 r.file,.int .u16 r.record,.int .u16 r.count,v]∧fv m w v r.words∧eT r.file∧eT r.record∧eT r.count
def cH (m:Md)(w:World)(o:Obj)(cs:List Value) : Prop:=∃ v,cs=[.int .u8 o.id,v]∧aW m w v o.value∧B8 o.id
abbrev pD (m:Md) (w:World) (v:Value) (l:List et) : Prop:=aT m 98 4 (bL m) w v l
abbrev pC (m:Md) (w:World) (v:Value) (l:List Obj) : Prop:=aT m 100 2 (cH m) w v l
def gC:List TypeId:=[5,37,4,98,100]
theorem bL.upd{m:Md}{w w':World}{S:List Nat}(hu:ay S w w')(hs:bV m gC S w)(r:et)(cs:List Value)(h:bL m w r cs) : bL m w' r cs:=by
  obtain⟨v,h1,h2,h3⟩:=h
  exact⟨v,h1,fv.upd' h2 hu (hs.sub (by decide)),h3⟩
theorem cH.upd{m:Md}{w w':World}{S:List Nat}(hu:ay S w w')(hs:bV m gC S w)(r:Obj)(cs:List Value)(h:cH m w r cs) : cH m w' r cs:=by
  obtain⟨v,h1,h2,h3⟩:=h
  exact⟨v,h1,aW.upd' h2 hu (hs.sub (by decide)),h3⟩
theorem pD.upd'{m:Md}{w w':World}{v:Value}{l:List et}{S:List Nat}(h:pD m w v l)(hu:ay S w w')(hs:bV m gC S w) : pD m w' v l:=aT.upd h hu (hs.sub (by decide)) (bL.upd hu hs)
theorem pC.upd'{m:Md}{w w':World}{v:Value}{l:List Obj}{S:List Nat}(h:pC m w v l)(hu:ay S w w')(hs:bV m gC S w) : pC m w' v l:=aT.upd h hu (hs.sub (by decide)) (cH.upd hu hs)
def eG (M:b7)(vw vb vd vr vo:Value) : List Value :=
  [.int .u8 M.code,.int .u8 M.fail,.int .u16 M.addr,.int .u16 M.count,.int .u16 M.value,.int .u16 M.and_,.int .u16 M.or_,.int .u16 M.addr2,.int .u16 M.sub,.int .u16 M.status,.int .u16 M.events,.int .u16 M.messages,
    vw,vb,vd,vr,.int .u8 M.mei,.int .u8 M.kind,.int .u8 M.level,.int .u8 M.more,.int .u8 M.next,vo]
structure fK (M:b7) : Prop where
  code:B8 M.code
  fail:B8 M.fail
  addr:eT M.addr
  count:eT M.count
  value:eT M.value
  and_:eT M.and_
  or_:eT M.or_
  addr2:eT M.addr2
  sub:eT M.sub
  status:eT M.status
  events:eT M.events
  messages:eT M.messages
  mei:B8 M.mei
  kind:B8 M.kind
  level:B8 M.level
  more:B8 M.more
  next:B8 M.next
def aH (m:Md)(w:World)(cs:List Value)(M:b7) : Prop :=
  ∃ vw vb vd vr vo,cs=eG M vw vb vd vr vo∧fv m w vw M.words∧nB m w vb M.bits∧aW m w vd M.data∧pD m w vr M.recs∧pC m w vo M.objects∧fK M
theorem aH.upd{m:Md}{w w':World}{cs:List Value}{M:b7}{S:List Nat}(h:aH m w cs M)(hu:ay S w w')(hs:bV m gC S w) : aH m w' cs M:=by
  obtain⟨vw,vb,vd,vr,vo,h0,h1,h2,h3,h4,h5,h6⟩:=h
  exact⟨vw,vb,vd,vr,vo,h0,fv.upd' h1 hu (hs.sub (by decide)),nB.upd' h2 hu (hs.sub (by decide)),aW.upd' h3 hu (hs.sub (by decide)),pD.upd' h4 hu hs,pC.upd' h5 hu hs,h6⟩
theorem bL.lo{k n:Nat}{w:World}(hn:n≤k)(r:et)(cs:List Value)(h:bL (.hi k) w r cs) : bL (.hi n) w r cs:=by
  obtain⟨v,h1,h2,h3⟩:=h
  exact⟨v,h1,aT.hi_le h2 hn fun _ _ q=>q,h3⟩
theorem cH.lo{k n:Nat}{w:World}(hn:n≤k)(r:Obj)(cs:List Value)(h:cH (.hi k) w r cs) : cH (.hi n) w r cs:=by
  obtain⟨v,h1,h2,h3⟩:=h
  exact⟨v,h1,aT.hi_le h2 hn fun _ _ q=>q,h3⟩
theorem aH.lo{k n:Nat}{w:World}{cs:List Value}{M:b7}(h:aH (.hi k) w cs M)(hn:n≤k) : aH (.hi n) w cs M:=by
  obtain⟨vw,vb,vd,vr,vo,h0,h1,h2,h3,h4,h5,h6⟩:=h
  exact⟨vw,vb,vd,vr,vo,h0,aT.hi_le h1 hn fun _ _ q=>q,aT.hi_le h2 hn fun _ _ q=>q,aT.hi_le h3 hn fun _ _ q=>q,aT.hi_le h4 hn (bL.lo hn),aT.hi_le h5 hn (cH.lo hn),h6⟩
theorem aH.tt{k:Nat}{w:World}{cs:List Value}{M:b7}(h:aH (.hi k) w cs M) : aH true w cs M:=by
  obtain⟨vw,vb,vd,vr,vo,h0,h1,h2,h3,h4,h5,h6⟩:=h
  exact⟨vw,vb,vd,vr,vo,h0,aT.hi_t h1 fun _ _ q=>q,aT.hi_t h2 fun _ _ q=>q,aT.hi_t h3 fun _ _ q=>q,aT.hi_t h4 fun r cs ⟨v,a,b,c⟩=>⟨v,a,aT.hi_t b fun _ _ q=>q,c⟩,aT.hi_t h5 fun r cs ⟨v,a,b,c⟩=>⟨v,a,aT.hi_t b fun _ _ q=>q,c⟩,h6⟩
theorem aH.old{m:Md}{w w':World}{cs:List Value}{M:b7}(h:aH m w cs M)(hu:ay [] w w') : aH m w' cs M:=h.upd hu (bV.nil _ _ _)
theorem aT.one{α:Type}{m:Md}{e:TypeId}{sz:Nat}{R:World→α→List Value→Prop}{w:World}{v:Value}{xs:List α}(h:aT m e sz R w v xs) : v.oneCell'=true:=by
  obtain⟨A,c,rfl,_⟩:=h
  rfl
theorem aH.one{m:Md}{w:World}{cs:Array Value}{M:b7}(h:aH m w cs.toList M) : cs.all (·.oneCell')=true:=by
  obtain⟨vw,vb,vd,vr,vo,h0,h1,h2,h3,h4,h5,h6⟩:=h
  rw[← Array.all_toList,h0]
  obtain⟨_,_,rfl,_⟩:=h1
  obtain⟨_,_,rfl,_⟩:=h2
  obtain⟨_,_,rfl,_⟩:=h3
  obtain⟨_,_,rfl,_⟩:=h4
  obtain⟨_,_,rfl,_⟩:=h5
  rfl
theorem aH.size{m:Md}{w:World}{cs:Array Value}{M:b7}(h:aH m w cs.toList M) : cs.size=22:=by
  obtain⟨vw,vb,vd,vr,vo,h0,h1,h2,h3,h4,h5,h6⟩:=h
  rw[← Array.length_toList,h0]
  rfl
def iY:Value:=.slice none 0 0
def zeroCells:List Value:=eG b7.zero iY iY iY iY iY
theorem fK.zero:fK b7.zero:=by constructor<;>exact⟨by decide,by decide⟩
theorem aH.zero(m:Md)(w:World) : aH m w zeroCells b7.zero:=⟨iY,iY,iY,iY,iY,rfl,aT.nil ..,aT.nil ..,aT.nil ..,aT.nil ..,aT.nil ..,fK.zero⟩
def ef (res:b7 × Int)(w:World)(e:Ending)(w':World) : Prop:=∃ cs,e = .returned (.tuple #[.agg cs,.int .i64 res.2])∧aH (.hi w.heap.size) w' cs.toList res.1∧ay [] w w'
def xC:Array Value:=zeroCells.toArray
theorem bv:(Tryz.prog.info? 45).map (·.size)=some 22:=by kernel_rfl
open Go.RowKit
structure WL (P:Program) (ops:Array Oper) (Q:Exit→Act→World→Prop) (l:List Oper) (a:Act) (w:World) : Prop where
  out:wpList P ops Q l a w
structure OW (P:Program) (o:Oper) (a:Act) (w:World) (K:Act→World→Prop) (Q:Exit→Act→World→Prop) : Prop where
  out:o.wp P a w K Q
def bd (o:Oper)(i:Nat) : Bool:=o.after.toList.any fun e=>Region.binds .any e&&e.on==i
def tl (ops:Array Oper)(i:Nat) : Bool:=!(i+1==ops.size&&(List.range i).all fun k=>bd (ops.getD i default) k || (List.range i).any fun m=>bd (ops.getD i default) m&&bd (ops.getD m default) k)
def wt (ops:Array Oper)(l:Array Bool)(i:Nat) : Bool:=i+1==ops.size || bd (ops.getD (ops.size-1) default) i || ((List.range ops.size).any fun m=>bd (ops.getD (ops.size-1) default) m&&bd (ops.getD m default) i&&!l.getD m true)||tl ops (ops.size-1)
theorem Cm{o:Oper}{i:Nat}(h:bd o i=true) : ∃ e∈o.after,Region.binds .any e=true∧e.on=i:=by
  unfold bd at h
  obtain⟨e,he,hb⟩:=List.any_eq_true.1 h
  simp only[Bool.and_eq_true,beq_iff_eq] at hb
  exact⟨e,by simpa using he,hb.1,hb.2⟩
def zu (P:Program)(ops:Array Oper)(Q:Exit→Act→World→Prop)(S:World→Prop) : Nat→Array Bool→Act→World→Prop
  | 0,l,a,w=>Region.ready .any ops l=[]∧Q .normal a w
  | n+1,l,a,w=>(Region.ready .any ops l=[]→Q .normal a w)∧∀ i∈Region.ready .any ops l,wpOp P ops Q i (fun a' w'=>(tl ops i=true→S w')∧zu P ops Q S n (l.setIfInBounds i true) a' w') a w
theorem uq{P:Program}{ops:Array Oper}{Q:Exit→Act→World→Prop}{S:World→Prop}:∀ (n:Nat)(l:Array Bool)(a:Act)(w:World),zu P ops Q S n l a w→wpAny P .any ops Q n l a w
  | 0,_,_,_,h=>h
  | n+1,_,_,_,h=>⟨h.1,fun i hi=>wpOp_mono (fun a' w' k=>uq n _ a' w' k.2) (h.2 i hi)⟩
theorem nj{ops:Array Oper}{l:Array Bool}{i j:Nat}(hj:j∈Region.ready .any ops l)(hi:l.getD i true=false)(h:bd (ops.getD j default) i=true) : False:=by
  obtain⟨_,oj,hoj,hall⟩:=mem_ready.1 hj
  have ho:ops.getD j default=oj:=by simp[hoj]
  rw[ho] at h
  obtain⟨e,he,hb,h1⟩:=Cm h
  have h2:=hall e he hb
  rw[h1] at h2
  rcases Nat.lt_or_ge i l.size with k|k
  · simp[k] at hi h2;rw[hi] at h2;cases h2
  · simp[Array.getElem?_eq_none k] at h2
theorem xn{ops:Array Oper}{l:Array Bool}{i j:Nat}(hne:j≠i)(hj:j∈Region.ready .any ops l)(hi:l.getD i true=false)(h:wt ops l i=true) : tl ops j=true:=by
  cases ht:tl ops j with
  | true=>rfl
  | false =>
    have hs:j+1=ops.size:=by
      unfold tl at ht
      simp only[Bool.not_eq_false',Bool.and_eq_true,beq_iff_eq] at ht
      exact ht.1
    have hsj:ops.size-1=j:=by omega
    unfold wt at h
    rw[hsj,ht,Bool.or_false,Bool.or_eq_true,Bool.or_eq_true] at h
    rcases h with(h|h) | h
    · exact absurd (by have:=beq_iff_eq.1 h;omega) hne
    · exact(nj hj hi h).elim
    · obtain⟨m,hm,hb⟩:=List.any_eq_true.1 h
      simp only[Bool.and_eq_true,Bool.not_eq_true'] at hb
      exact(nj hj hb.2 hb.1.1).elim
theorem zW{ops:Array Oper}{l:Array Bool}{i j:Nat}(hj:j∈Region.ready .any ops l)(hi:l.getD i true=false)(h:wt ops l i=true) : wt ops (l.setIfInBounds j true) i=true:=by
  unfold wt at *
  rw[Bool.or_eq_true,Bool.or_eq_true,Bool.or_eq_true] at *
  rcases h with((h|h) | h) | h
  · exact .inl (.inl (.inl h))
  · exact .inl (.inl (.inr h))
  · refine .inl (.inr ?_)
    obtain⟨m,hm,hb⟩:=List.any_eq_true.1 h
    refine List.any_eq_true.2 ⟨m,hm,?_⟩
    simp only[Bool.and_eq_true,Bool.not_eq_true'] at hb ⊢
    refine⟨hb.1,?_⟩
    by_cases q:j=m
    · subst q;exact(nj hj hi hb.1.2).elim
    · rw[getD_set_ne true q];exact hb.2
  · exact .inr h
theorem uL{P:Program}{ops:Array Oper}{Q:Exit→Act→World→Prop}{S:World→Prop}{i:Nat}{oi:Oper}{v:Value}(hi:ops[i]? = some oi)(hsel:∀ (j:Nat)(o:Oper) cs b,ops[j]? = some o→o.op≠.select cs b)(hQ:∀ c a w,Q (.panic c) (a.put oi.dst v) w→Q (.panic c) a w) :
    ∀ (n:Nat) (l:Array Bool) (a:Act) (w:World),wt ops l i=true→(∀ j oj,ops[j]? = some oj→j≠i→l.getD j true=false→(∀ e∈oj.after,Region.binds .any e=true→e.on≠i)→oi.apart ops oj=true) →
      i∈Region.ready .any ops l→YieldsIf P ops S oi v a→S w→zu P ops Q S n (l.setIfInBounds i true) (a.put oi.dst v) w→zu P ops Q S (n+1) l a w:=by
  intro n
  induction n with
  | zero =>
    intro l a w _ _ hr hy hS H
    refine⟨fun h=>(by rw[h] at hr;cases hr),fun j hj=>?_⟩
    by_cases e:j=i
    · subst e;exact hy.wpOp hi hS ⟨fun _=>hS,H⟩
    · have k:=ready_mono hj e
      rw[H.1] at k
      cases k
  | succ n ih =>
    intro l a w hwt hf hr hy hS H
    refine⟨fun h=>(by rw[h] at hr;cases hr),fun j hj=>?_⟩
    by_cases e:j=i
    · subst e;exact hy.wpOp hi hS ⟨fun _=>hS,H⟩
    · obtain⟨hun,oj,hoj,hall⟩:=mem_ready.1 hj
      have hni:∀ e∈oj.after,Region.binds .any e=true→e.on≠i:=fun e he hb heq=>by
        have h1:=hall e he hb
        have h0:=(mem_ready.1 hr).1
        rw[heq] at h1
        rcases Nat.lt_or_ge i l.size with k|k
        · simp[k] at h0 h1;rw[h0] at h1;cases h1
        · simp[Array.getElem?_eq_none k] at h1
      have hT:tl ops j=true:=xn e hj (mem_ready.1 hr).1 hwt
      have h2:=wpOp_putIf hoj (hf j oj hoj e hun hni) (fun cs b=>hsel i oi cs b hi) (fun cs b=>hsel j oj cs b hoj) hQ hy (H.2 j (ready_mono hj e))
      refine wpOp_mono (fun a' w' k=>⟨k.2.1,ih (l.setIfInBounds j true) a' w' (zW hj (mem_ready.1 hr).1 hwt) (fun m om hm hmi hmu hno=>hf m om hm hmi ?_ hno) (ready_mono hr (Ne.symm e)) k.1 (k.2.1 hT) ?_⟩) h2
      · by_cases q:j=m
        · subst q;exact hun
        · rw[getD_set_ne true q] at hmu;exact hmu
      · rw[Array.setIfInBounds_comm _ _ e]
        exact k.2.2
theorem oL{P:Program}{ops:Array Oper}{Q:Exit→Act→World→Prop}{S:World→Prop}{rs:List Nat}{n:Nat}{l:Array Bool}{a:Act}{w:World}(hr:Region.ready .any ops l=rs)(hne:rs≠[])
    (h:∀ i∈rs,wpOp P ops Q i (fun a' w'=>(tl ops i=true→S w')∧zu P ops Q S n (l.setIfInBounds i true) a' w') a w) : zu P ops Q S (n+1) l a w:=⟨fun h0=>absurd (hr▸h0) hne,hr▸h⟩
theorem xg{P:Program}{ops:Array Oper}{Q:Exit→Act→World→Prop}{S:World→Prop}{l:Array Bool}{a:Act}{w:World}(hr:Region.ready .any ops l=[])(h:Q .normal a w) : ∀ n,zu P ops Q S n l a w
  | 0=>⟨hr,h⟩
  | _+1=>⟨fun _=>h,by rw[hr];simp⟩
structure WA (P:Program) (ops:Array Oper) (Q:Exit→Act→World→Prop) (S:World→Prop) (n:Nat) (l:Array Bool) (a:Act) (w:World) : Prop where
  out:zu P ops Q S n l a w
theorem jd{P:Program}{o:Oper}{a:Act}{w:World}{K K':Act→World→Prop}{Q:Exit→Act→World→Prop}(h:OW P o a w K Q)(k:∀ a w,K a w→K' a w) : o.wp P a w K' Q:=Oper.wp_mono k h.out
theorem hY(b:Bool) : b=true∨b=false:=by cases b<;>simp
section
variable {P:Program}{Q:Exit→Act→World→Prop}{a:Act}{w:World}{K next:Act→World→Prop}{ops:Array Oper}{rest:List Oper}{o:Oper}
def mG (c f a n v an o a2 su st ev me:Int)(w b d r:Value)(mei k l mo ne:Int)(ob:Value) : Array Value :=
  #[.int .u8 c,.int .u8 f,.int .u16 a,.int .u16 n,.int .u16 v,.int .u16 an,.int .u16 o,.int .u16 a2,.int .u16 su,.int .u16 st,.int .u16 ev,.int .u16 me,w,b,d,r,.int .u8 mei,.int .u8 k,.int .u8 l,.int .u8 mo,.int .u8 ne,ob]
def mC (c:Int) : Array Value:=mG c 0 0 0 0 0 0 0 0 0 0 0 nS nS nS nS 0 0 0 0 0 nS
def mZ:Array Value:=mC 0
theorem aK{S:List Nat}{w0 w1 w2:World}(h:ay S w0 w1)(k:ay [] w1 w2) : ay S w0 w2:=ay.trans' h k (fun x hx=>by simp at hx)
def ds (d:Nat→Value) : Nat→Nat→List Value→List Value
  | _,0,t=>t
  | i,n+1,t=>d i :: ds d (i+1) n t
theorem ED{id:Nat}(h:Q .normal a w) : Exit.inBlock id Q (.exit id) a w:=by
  show(if id=id then _ else _)
  rw[if_pos rfl]
  exact h
theorem Ec{id id':Nat}(hne:id'≠id)(h:Q (.exit id') a w) : Exit.inBlock id Q (.exit id') a w:=by
  show(if id'=id then _ else _)
  rw[if_neg hne]
  exact h
theorem Ej{c:Operand}{x y:Code}(e:Bool)(hv:a.eval c = .bool e)(he:e=true)(h:x.wp P Q a w) : (Code.cond c x y).wp P Q a w:=wp_cond_true (by rw[hv,he]) h
theorem E8{c:Operand}{x y:Code}(e:Bool)(hv:a.eval c = .bool e)(he:e=false)(h:y.wp P Q a w) : (Code.cond c x y).wp P Q a w:=wp_cond_false (by rw[hv,he]) h
theorem Cn{fn:Func}{R:Ending→World→Prop}(v:Value)(hr:(results fn a.tmps).run P w = .ok v w)(hd:a.defers=[])(hR:R (.returned v) w) : bodyPost P fn R .ret a w:=bodyPost_ret hr hd hR
theorem C7{fn:Func}{R:Ending→World→Prop}(v:Value)(hr:(results fn a.tmps).run P w = .ok v w)(hd:a.defers=[])(hR:R (.returned v) w) : bodyPost P fn R .normal a w:=bodyPost_end hr hd hR
theorem lR{p:Nat→Prop}(h:∃ n,p n) : ∃ n,p n∧∀ m,p m→n≤m:=by
  obtain⟨n,hn⟩:=h
  induction n using Nat.strongRecOn with
  | _ n ih =>
    by_cases hm:∃ m,m<n∧p m
    · obtain⟨m,hlt,hp⟩:=hm
      exact ih m hlt hp
    · exact⟨n,hn,fun m hp=>by
        rcases Nat.lt_or_ge m n with hl|hl
        · exact(hm ⟨m,hl,hp⟩).elim
        · exact hl⟩
theorem lp{c:Code}{ι:Type}(I:ι→Act→World→Prop)(μ:ι→Nat)(x0:ι)(h0:I x0 a w)(round:∀ x a w,I x a w→c.wp P (Exit.then (fun a' w'=>∃ y,I y a' w'∧μ y<μ x) Q) a w) : (Code.loop c).wp P Q a w:=by
  classical
  refine wp_loop (fun a w=>∃ x,I x a w) (fun a w=>if h:∃ n,∃ x,I x a w∧μ x=n then Classical.choose (lR h) else 0) ⟨x0,h0⟩ ?_
  intro a w hx
  have hh:∃ n,∃ x,I x a w∧μ x=n:=by obtain⟨x,hx⟩:=hx;exact⟨_,x,hx,rfl⟩
  obtain⟨⟨x,hI,hm⟩,hmin⟩:=Classical.choose_spec (lR hh)
  refine Code.wp_mono ?_ (round x a w hI)
  intro e a' w' q
  cases e with
  | normal =>
    obtain⟨y,hy,hlt⟩:=q
    refine⟨⟨y,hy⟩,?_⟩
    have h':∃ n,∃ x,I x a' w'∧μ x=n:=⟨_,y,hy,rfl⟩
    simp only[dif_pos hh,dif_pos h']
    have:Classical.choose (lR h')≤μ y:=(Classical.choose_spec (lR h')).2 _ ⟨y,hy,rfl⟩
    omega
  | _=>exact q
theorem Eg(hw:Region.wanted o (yielded ops a.tmps)=true)(h:OW P o a w (WL P ops Q rest) Q) : WL P ops Q (o :: rest) a w:=by
  refine⟨?_⟩
  unfold wpList
  rw[if_pos hw]
  exact .inl (jd h fun _ _ h=>h.out)
theorem EA(hg:o.guard=none)(h:OW P o a w (WL P ops Q rest) Q) : WL P ops Q (o :: rest) a w:=Eg (by simp[Region.wanted,hg]) h
theorem Ek{N:Option Tmp}(hw:Region.wanted o (yielded ops a.tmps)=false)(hN:o.dst=N)(h:WL P ops Q rest (a.put N undef) w) : WL P ops Q (o :: rest) a w:=by
  subst hN
  refine⟨?_⟩
  unfold wpList
  rw[if_neg (by simp[hw])]
  exact h.out
theorem uE{tmps:Array Value}{j:Nat}{b e:Bool}(hg:o.guard=some (j,b))(hy:yielded ops tmps j=some e)(he:e=b) : Region.wanted o (yielded ops tmps)=true:=by
  simp[Region.wanted,hg,hy,he]
theorem fd{ops:Array Oper}(rest:List Oper) : ∀ (G:List Oper)(a:Act)(w:World),wpList P ops (Exit.then (wpList P ops Q rest) Q) G a w→wpList P ops Q (G++rest) a w
  | [],a,w,h=>h
  | o :: G,a,w,h=>by
    simp only[List.cons_append]
    unfold wpList at h ⊢
    by_cases hw:Region.wanted o (yielded ops a.tmps)=true
    · rw[if_pos hw] at h ⊢
      rcases h with h|h
      · refine .inl ?_
        unfold Oper.wp at h ⊢
        generalize (execOp a.eval o).run P w=r at h ⊢
        cases r with
        | ok n w' =>
          cases n<;>simp only[Oper.upon] at h ⊢
          case value u=>exact fd rest G _ _ h
          case skip=>exact fd rest G _ _ h
          case defer d=>exact fd rest G _ _ h
          case enter f args =>
            refine Calls.mono h fun e w'' he=>?_
            cases e with
            | returned u=>exact fd rest G _ _ he
            | panicked c=>exact he
            | outgrown=>exact he
          case row row args=>exact Rows.mono h fun u w'' he=>fd rest G _ _ he
        | halt x w' =>
          cases x<;>simp only[Oper.upon] at h ⊢
          case panic u=>exact h
      · exact .inr h
    · rw[if_neg hw] at h ⊢
      exact fd rest G _ _ h
end
section
variable {P:Program}{Q:Exit→Act→World→Prop}{a:Act}{w:World}{K:Act→World→Prop}{o:Oper}{N:Option Tmp}
theorem gi(v:Value)(hN:o.dst=N)(hr:(execOp a.eval o).run P w = .ok (.value v) w)(h:K (a.put N v) w) : OW P o a w K Q:=by
  refine OW.mk ?_
  subst hN
  unfold Oper.wp
  rw[hr]
  exact h
theorem vJ{ty:TypeId}{d:TypeDesc}(hu:P.underlying ty=some d)(w:World) : (isAgg ty).run P w = .ok d.isRow w:=by
  unfold isAgg
  rw[Sem.run_bind,run_underlying hu w]
  cases d<;>rfl
def fA (P:Program)(ty:TypeId) : Bool:=match P.underlying ty with | some d=>!d.isRow | none=>false
theorem p6{ty:TypeId}(h:fA P ty=true) : ∃ d,P.underlying ty=some d∧d.isRow=false:=by
  unfold fA at h
  split at h
  · rename_i d hd;exact⟨d,hd,by simpa using h⟩
  · cases h
theorem xp{ty:TypeId}{x:Operand}{p:Addr}{v:Value}{w:World}(ho:o.op = .load ty x)(hx:a.eval x = .pointer (some p))(hu:fA P ty=true)(hc:w.cell? p=some v) : (execOp a.eval o).run P w = .ok (.value v) w:=by
  obtain⟨d,hd,hr⟩:=p6 hu
  unfold execOp
  simp only[ho,hx,Instr.loadAt,Instr.sureAddr,Sem.run_bind,Sem.run_pure,Result.andThen_ok,loadVar,vJ hd,hr,load]
  simp[Sem.run,hc,Result.andThen]
theorem CY{ty:TypeId}{x:Operand}{p:Addr}(v:Value)(hN:o.dst=N)(ho:o.op = .load ty x)(hx:a.eval x = .pointer (some p))(hu:fA P ty=true)(hc:w.cell? p=some v)(h:K (a.put N v) w) : OW P o a w K Q :=
  gi v hN (xp ho hx hu hc) h
theorem ae{g off:Nat}{cs:Array Value}{t:TypeId}{fr:Nat × Nat}{v:Value}(hb:w.heap[g]? = some (.cells cs t fr))(hc:cs[off]? = some v) : w.cell? ⟨g,off,none⟩=some v:=(bh hb off).trans hc
theorem tU{ty:TypeId}{x:Operand}{g off:Nat}{cs:Array Value}{t:TypeId}{fr:Nat × Nat}{w:World}(sub:List Value)(ho:o.op = .load ty x)(hx:a.eval x = .pointer (some ⟨g,off,none⟩))(hb:w.heap[g]? = some (.cells cs t fr))
    (hu:(P.underlying ty).map (·.isRow)=some true) (hi:(P.info? ty).map (·.size)=some sub.length) (hs:(cs.toList.drop off).take sub.length=sub) : (execOp a.eval o).run P w = .ok (.value (.agg sub.toArray)) w:=by
  obtain⟨d,hd,hr⟩:=Option.map_eq_some_iff.1 hu
  have hc:w.rangeAt g off sub:=fun j v hj=>by
    rw[bh hb]
    have hjl:j<sub.length:=(List.getElem?_eq_some_iff.1 hj).1
    rw[← hs,List.getElem?_take,if_pos hjl,List.getElem?_drop] at hj
    simpa using hj
  unfold execOp
  simp only[ho,hx,Instr.loadAt,Instr.sureAddr,Sem.run_bind,Sem.run_pure,Result.andThen_ok,run_loadVar_mid w g off ty sub d hc hd hr hi]
theorem xd{ty:TypeId}{x:Operand}{g off:Nat}{cs:Array Value}{t:TypeId}{fr:Nat × Nat}(sub:List Value)(hN:o.dst=N)(ho:o.op = .load ty x)(hx:a.eval x = .pointer (some ⟨g,off,none⟩))(hb:w.heap[g]? = some (.cells cs t fr))
    (hu:(P.underlying ty).map (·.isRow)=some true) (hi:(P.info? ty).map (·.size)=some sub.length) (hs:(cs.toList.drop off).take sub.length=sub) (h:K (a.put N (.agg sub.toArray)) w) : OW P o a w K Q :=
  gi _ hN (tU sub ho hx hb hu hi hs) h
theorem zA{ty:TypeId}{x:Operand}{g:Nat}{cs:Array Value}{t:TypeId}{fr:Nat × Nat}{w:World}(ho:o.op = .load ty x)(hx:a.eval x = .pointer (some ⟨g,0,none⟩))(hb:w.heap[g]? = some (.cells cs t fr))
    (hu:(P.underlying ty).map (·.isRow)=some true) (hi:(P.info? ty).map (·.size)=some cs.size) : (execOp a.eval o).run P w = .ok (.value (.agg cs)) w:=by
  have:=tU (P:=P) (o:=o) (a:=a) (cs:=cs) cs.toList ho hx hb hu (by simpa using hi) (by simpa using List.take_length (l:=cs.toList))
  simpa using this
theorem Cg{ty:TypeId}{x:Operand}{g:Nat}{cs:Array Value}{t:TypeId}{fr:Nat × Nat}(hN:o.dst=N)(ho:o.op = .load ty x)(hx:a.eval x = .pointer (some ⟨g,0,none⟩))(hb:w.heap[g]? = some (.cells cs t fr))
    (hu:(P.underlying ty).map (·.isRow)=some true) (hi:(P.info? ty).map (·.size)=some cs.size) (h:K (a.put N (.agg cs)) w) : OW P o a w K Q :=
  gi _ hN (zA ho hx hb hu hi) h
theorem BC{ty:TypeId}{x y:Operand}{g off:Nat}{cs:Array Value}{t:TypeId}(v:Value)(cs':Array Value)(hN:o.dst=N)(ho:o.op = .store ty x y)(hx:a.eval x = .pointer (some ⟨g,off,none⟩))(hy:a.eval y=v)
    (hb:w.heap[g]? = some (.cells cs t (0,0))) (hlt':Nat.blt off cs.size=true) (hi:(P.info? ty).map (·.size)=some 1) (h1:v.oneCell'=true) (hcs:cs.setIfInBounds off v=cs')
    (h:∀ w',w'.heap[g]? = some (.cells cs' t (0,0))→ay [g] w w'→K (a.put N undef) w') : OW P o a w K Q:=by
  refine OW.mk ?_
  subst hN
  subst hcs
  have hlt:off<cs.size:=by simpa using hlt'
  obtain⟨i,hi1,hi2⟩:=Option.map_eq_some_iff.1 hi
  have hcell:w.cell? ⟨g,off,none⟩=some cs[off]:=by rw[bh hb];simp[hlt]
  have hfr:w.frozen? ⟨g,off,none⟩=false:=fa hb off
  have hrun:(execOp a.eval o).run P w = .ok .skip (w.setCell ⟨g,off,none⟩ v):=by
    unfold execOp
    simp only[ho,hx,hy,Instr.storeAt,Instr.sureAddr,Sem.run_bind,Sem.run_pure,Result.andThen_ok,storeVar,sizeOf,typeInfo]
    cases v<;>simp_all [Value.oneCell',Value.cells,Sem.run,Result.andThen,storeCells,store,Addr.add,program]
  unfold Oper.wp
  rw[hrun]
  exact h _ (gJ hb off v) ((ay.refl [g] w).setCell (p:=⟨g,off,none⟩) (.inl (by simp)) v)
theorem Cc{ty:TypeId}{x y:Operand}{g:Nat}{cs:Array Value}{t:TypeId}(vs:Array Value)(hN:o.dst=N)(ho:o.op = .store ty x y)(hx:a.eval x = .pointer (some ⟨g,0,none⟩))(hy:a.eval y = .agg vs)
    (hb:w.heap[g]? = some (.cells cs t (0,0))) (hi:(P.info? ty).map (·.size)=some vs.size) (hs:vs.size=cs.size) (h1:vs.all (·.oneCell')=true)
    (h:∀ w',w'.heap[g]? = some (.cells vs t (0,0))→ay [g] w w'→K (a.put N undef) w') : OW P o a w K Q:=by
  refine OW.mk ?_
  subst hN
  obtain⟨h2,h3⟩:=iC vs.toList w g 0 cs t (0,0) hb
  rw[ly _ _ (by simpa using hs)] at h2
  refine wp_store_mid ty x y ho g 0 vs hx hy (fun j hj=>?_) hi h1 (h _ (by simpa using h2) h3)
  rw[Nat.zero_add,bh hb,fa hb]
  exact⟨by rw[Array.getElem?_eq_getElem (by omega)];rfl,rfl⟩
theorem xe{t:TypeId}(cs:Array Value)(hN:o.dst=N)(ho:o.op = .alloc t)(hz:(P.info? t).bind (fun i=>i.zero.map (·.cells))=some cs)
    (h:∀ g w',w.heap.size≤g→w'.heap[g]? = some (.cells cs t (0,0))→ay [] w w'→K (a.put N (.pointer (some ⟨g,0,none⟩))) w') : OW P o a w K Q:=by
  refine OW.mk ?_
  subst hN
  obtain⟨i0,hi,hz0⟩:=Option.bind_eq_some_iff.1 hz
  obtain⟨z,hz1,rfl⟩:=Option.map_eq_some_iff.1 hz0
  have hrun:(execOp a.eval o).run P w = .ok (.value (.pointer (some ⟨w.heap.size,0,none⟩))) (w.alloc (.cells z.cells t)):=by
    unfold execOp
    simp[go_sem,ho,Instr.alloc,zeroValue,typeInfo,hi,hz1,newVar,newRow]
  unfold Oper.wp
  rw[hrun]
  exact h _ _ (Nat.le_refl _) (dE ..) ((ay.refl [] w).alloc _)
theorem Ci{t:TypeId}{x:Operand}(cs:Array Value)(hN:o.dst=N)(ho:o.op = .box t x)(hx:(a.eval x).cells=cs)
    (h:∀ g w',w.heap.size≤g→w'.heap[g]? = some (.cells cs t (0,0))→ay [] w w'→K (a.put N (.pointer (some ⟨g,0,none⟩))) w') : OW P o a w K Q:=by
  refine OW.mk ?_
  subst hx
  subst hN
  have hrun:(execOp a.eval o).run P w = .ok (.value (.pointer (some ⟨w.heap.size,0,none⟩))) (w.alloc (.cells (a.eval x).cells t)):=by
    unfold execOp
    simp[go_sem,ho,newVar,newRow]
  unfold Oper.wp
  rw[hrun]
  exact h _ _ (Nat.le_refl _) (dE ..) ((ay.refl [] w).alloc _)
theorem Cl{e:TypeId}{n:Nat}(cs:Array Value)(hN:o.dst=N)(hr:(execOp a.eval o).run P w = .ok (.value (.slice (some ⟨w.heap.size,0,none⟩) n n)) (w.alloc (.cells cs e)))
    (h:∀ g w',w.heap.size≤g→w'.heap[g]? = some (.cells cs e (0,0))→ay [] w w'→K (a.put N (.slice (some ⟨g,0,none⟩) n n)) w') : OW P o a w K Q:=by
  refine OW.mk ?_
  subst hN
  unfold Oper.wp
  rw[hr]
  exact h _ _ (Nat.le_refl _) (dE ..) ((ay.refl [] w).alloc _)
theorem Ce{t:TypeId}(hN:o.dst=N)(ho:o.op = .makeMap t none)
    (h:∀ g w',w.heap.size≤g→w'.heap[g]? = some (.map #[] 0)→ay [] w w'→K (a.put N (.map (some g))) w') : OW P o a w K Q:=by
  refine OW.mk ?_
  subst hN
  have hrun:(execOp a.eval o).run P w = .ok (.value (.map (some w.heap.size))) (w.alloc (.map #[] 0)):=by
    unfold execOp
    simp[ho,run_makeMap]
  unfold Oper.wp
  rw[hrun]
  exact h _ _ (Nat.le_refl _) (dE ..) ((ay.refl [] w).alloc _)
theorem Co{t kt e:TypeId}{q:IntKind}{m k x:Operand}{r:Nat}{es:Array MapEntry}{clk:Nat}(n:Int)(v:Value)(es':Array MapEntry)(clk':Nat)(hN:o.dst=N)(hop:o.op = .insert t m k x)
    (ht:P.underlying t=some (.map kt e)) (hk:P.underlying kt=some (.int q)) (hm:a.eval m = .map (some r)) (hb:w.heap[r]? = some (.map es clk))
    (hkv:a.eval k = .int q n) (hx:a.eval x=v) (hno:Instr.findNow (.int q) (.int q n) es.toList 0=some none) (he:es.push ⟨.int q n,v,clk⟩=es') (hc:clk+1=clk')
    (h:∀ w',w'.heap[r]? = some (.map es' clk')→ay [r] w w'→K (a.put N undef) w') : OW P o a w K Q:=by
  refine OW.mk ?_
  subst hN
  subst he
  subst hc
  obtain⟨w',hrr,h1,h2⟩:=mv ht hk hb n v hno
  have hrun:(execOp a.eval o).run P w = .ok .skip w':=by
    unfold execOp
    simp[hop,hm,hkv,hx,hrr,Result.andThen]
  unfold Oper.wp
  rw[hrun]
  exact h w' h1 h2
theorem tF{t kt e:TypeId}{q:IntKind}{m k:Operand}{cok:Bool}{r:Nat}{es:Array MapEntry}{clk:Nat}(n:Int)(z:Value)(res:Option (Nat × Value))(u:Value)(hN:o.dst=N)(hop:o.op = .lookup t m k cok)
    (ht:P.underlying t=some (.map kt e)) (hk:P.underlying kt=some (.int q)) (hm:a.eval m = .map (some r)) (hb:w.heap[r]? = some (.map es clk)) (hkv:a.eval k = .int q n)
    (hz:(zeroValue e).run P w = .ok z w) (hf:Instr.findNow (.int q) (.int q n) es.toList 0=some res) (hu:(if cok then .tuple #[(res.map (·.2)).getD z,.bool res.isSome] else (res.map (·.2)).getD z)=u)
    (h:K (a.put N u) w) : OW P o a w K Q:=by
  subst hu
  refine gi _ hN ?_ h
  unfold execOp
  simp only[hop,hm,hkv]
  simp only[Sem.run_bind,Sem.run_map,lc ht hk hb n z hz hf cok,Result.andThen,Sem.run_pure]
theorem fW{o:Oper}{ev:Operand→Value}{P:Program}{w:World}{t:TypeId}{x y:Operand}{A:Option Addr}{n c:Nat}{kl:IntKind}{k:Int}{v:Value}{e:TypeId}(ho:o.op = .slice t x (some y) none none)(ht:P.underlying t=some (.slice e))(hx:ev x = .slice A n c)(hy:ev y = .int kl k)
    (hr:(Instr.slice t (.slice A n c) (some (.int kl k)) none none).run P w = .ok v w) : (execOp ev o).run P w = .ok (.value v) w:=by
  have hu:(underlying t).run P w = .ok (.slice e) w:=run_underlying ht w
  unfold execOp
  simp only[ho,Option.map_some,Option.map_none,hx,hy,Instr.sliceAt,Sem.run_bind,hu,hr,Result.andThen,Sem.run_pure]
theorem AM{f:FuncId}{fn:Func}{opds:Array Operand}{ts:Array TypeId}(args:Array Value)(hN:o.dst=N)(hop:o.op = .call { callee:=.value (.func f),args:=opds,argTypes:=ts })
    (hf : P.funcs[f]? = some fn) (hname : (fn.name == "runtime.NumGoroutine") = false) (hb : fn.body.isSome = true) (hargs : opds.map a.eval = args)
    (h:Calls P f args w fun e w'=>∃ v,e = .returned v∧K (a.put N v) w') : OW P o a w K Q:=by
  refine OW.mk ?_
  subst hN
  have h1 : fn.name ≠ "runtime.NumGoroutine" := by simpa using hname
  obtain⟨cd,hcd⟩:=Option.isSome_iff_exists.1 hb
  have hrun:(execOp a.eval o).run P w = .ok (.enter f args) w:=by
    unfold execOp
    simp[hop,resolve,Deferred.ofValue,invoke,Act.eval,hargs,callFunc,hf,h1,hcd]
  unfold Oper.wp
  rw[hrun,Oper.upon_enter]
  refine h.mono fun e w'' hh=>?_
  obtain⟨v,rfl,h2⟩:=hh
  exact h2
theorem yx{f:FuncId}{fn:Func}{x:Operand}{opds:Array Operand}{ts:Array TypeId}(first cap args:Array Value)(hN:o.dst=N)(hop:o.op = .call { callee:=.value x,args:=opds,argTypes:=ts })
    (hx : a.eval x = .func (.func f) first cap) (hf : P.funcs[f]? = some fn) (hname : (fn.name == "runtime.NumGoroutine") = false) (hb : fn.body.isSome = true) (hargs : (first ++ opds.map a.eval) ++ cap = args)
    (h:Calls P f args w fun e w'=>∃ v,e = .returned v∧K (a.put N v) w') : OW P o a w K Q:=by
  refine OW.mk ?_
  subst hN
  have h1 : fn.name ≠ "runtime.NumGoroutine" := by simpa using hname
  obtain⟨cd,hcd⟩:=Option.isSome_iff_exists.1 hb
  have hrun:(execOp a.eval o).run P w = .ok (.enter f args) w:=by
    unfold execOp
    simp only[hop,resolve,hx,Deferred.ofValue,Sem.run_bind,Sem.run_pure,Result.andThen_ok,invoke,hargs,callFunc,program]
    simp[Sem.run,hf,h1,hcd]
  unfold Oper.wp
  rw[hrun,Oper.upon_enter]
  refine h.mono fun e w'' hh=>?_
  obtain⟨v,rfl,h2⟩:=hh
  exact h2
end
section
variable {P:Program}{ops:Array Oper}{Q:Exit→Act→World→Prop}{S:World→Prop}
structure u0 (P:Program) (ops:Array Oper) (Q:Exit→Act→World→Prop) (S:World→Prop) (fuel:Nat) (l:Array Bool) (a:Act) (w:World) : Prop where
  s:S w
  out:WA P ops Q S fuel l a w
theorem Fx{id n:Nat}{a:Act}{w:World}(S:World→Prop)(l:Array Bool)(hm:P.follows .mixedOrders=true)(hn:ops.size=n)(hl:Array.replicate n false=l)
    (h:∀ w',ay [] w w'→u0 P ops Q S n l a w') : (Code.region id ops true).wp P Q a w:=by
  subst hn
  subst hl
  exact wp_region_any hm (uq _ _ _ _ (h w.drew (ay.refl [] w).drew).out.out)
theorem Fq{i:Nat}{oi:Oper}{fuel:Nat}{l:Array Bool}{a:Act}{w:World}(l':Array Bool)(hi:ops[i]? = some oi)(hc:CO ops l l' i=true)
    (hw:Region.wanted oi (yielded ops a.tmps)=true) (h:OW P oi a w (u0 P ops Q S fuel l') Q) : WA P ops Q S (fuel+1) l a w:=by
  refine⟨?_⟩
  simp only[CO,Bool.and_eq_true,beq_iff_eq] at hc
  obtain⟨h1,h2⟩:=hc
  subst h2
  refine oL h1 (by simp) fun j hj=>?_
  obtain rfl:j=i:=by simpa using hj
  unfold wpOp
  simp only[hi]
  rw[if_pos hw]
  exact .inl (jd h fun _ _ h=>⟨fun _=>h.s,h.out.out⟩)
theorem Fa{i:Nat}{oi:Oper}{fuel:Nat}{l:Array Bool}{a:Act}{w:World}(l':Array Bool)(hi:ops[i]? = some oi)(hc:CO ops l l' i=true)(hz:tl ops i=false)
    (hw:Region.wanted oi (yielded ops a.tmps)=true) (h:OW P oi a w (WA P ops Q S fuel l') Q) : WA P ops Q S (fuel+1) l a w:=by
  refine⟨?_⟩
  simp only[CO,Bool.and_eq_true,beq_iff_eq] at hc
  obtain⟨h1,h2⟩:=hc
  subst h2
  refine oL h1 (by simp) fun j hj=>?_
  obtain rfl:j=i:=by simpa using hj
  unfold wpOp
  simp only[hi]
  rw[if_pos hw]
  exact .inl (jd h fun _ _ h=>⟨fun hT=>(by rw[hz] at hT;cases hT),h.out⟩)
theorem DT{i j:Nat}{oi oj:Oper}{fuel:Nat}{l:Array Bool}{a:Act}{w:World}(li lj:Array Bool)(hi:ops[i]? = some oi)(hj:ops[j]? = some oj)(hr:(Region.ready .any ops l==[i,j])=true)
    (hli:l.setIfInBounds i true=li) (hlj:l.setIfInBounds j true=lj) (hwi:Region.wanted oi (yielded ops a.tmps)=true) (hwj:Region.wanted oj (yielded ops a.tmps)=true)
    (h1:OW P oi a w (u0 P ops Q S fuel li) Q) (h2:OW P oj a w (u0 P ops Q S fuel lj) Q) : WA P ops Q S (fuel+1) l a w:=by
  subst hli
  subst hlj
  simp only[beq_iff_eq] at hr
  refine⟨oL hr (by simp) fun k hk=>?_⟩
  unfold wpOp
  simp at hk
  rcases hk with rfl|rfl
  · simp only[hi]
    rw[if_pos hwi]
    exact .inl (jd h1 fun _ _ h=>⟨fun _=>h.s,h.out.out⟩)
  · simp only[hj]
    rw[if_pos hwj]
    exact .inl (jd h2 fun _ _ h=>⟨fun _=>h.s,h.out.out⟩)
def CS (ops:Array Oper)(l l':Array Bool)(i:Nat) : Bool:=wt ops l i&&D5 ops l l' i
theorem ES{i:Nat}{N:Option Tmp}{oi:Oper}{v:Value}{fuel:Nat}{l:Array Bool}{a:Act}{w:World}(l':Array Bool)(hi:ops[i]? = some oi)(hN:oi.dst=N)(hc:CS ops l l' i=true)
    (hQ:∀ c a w,Q (.panic c) (a.put oi.dst v) w→Q (.panic c) a w) (hy:YieldsIf P ops S oi v a) (hS:S w) (h:zu P ops Q S fuel l' (a.put N v) w) : zu P ops Q S (fuel+1) l a w:=by
  subst hN
  simp only[CS,D5,Bool.and_eq_true,beq_iff_eq] at hc
  obtain⟨h0,⟨⟨h1,h2⟩,h3⟩,h4⟩:=hc
  subst h4
  exact uL hi (Region.noSelect_spec h1) hQ fuel l a w h0 (Region.free_spec hi h2) (by simpa using h3) hy hS h
theorem DI{i:Nat}{N:Option Tmp}{oi:Oper}{fuel:Nat}{l:Array Bool}{a:Act}{w:World}(v:Value)(l':Array Bool)(hi:ops[i]? = some oi)(hN:oi.dst=N)(hc:CS ops l l' i=true)
    (hQ:∀ c a w,Q (.panic c) (a.put oi.dst v) w→Q (.panic c) a w) (hw:Region.wanted oi (yielded ops a.tmps)=true) (hy:∀ w,S w→(execOp a.eval oi).run P w = .ok (.value v) w) (hS:S w)
    (h:WA P ops Q S fuel l' (a.put N v) w) : WA P ops Q S (fuel+1) l a w :=
  ⟨ES (v:=v) l' hi hN hc hQ (.inl ⟨hw,hy⟩) hS h.out⟩
theorem Er{i:Nat}{N:Option Tmp}{oi:Oper}{fuel:Nat}{l:Array Bool}{a:Act}{w:World}(l':Array Bool)(hi:ops[i]? = some oi)(hN:oi.dst=N)(hc:CS ops l l' i=true)
    (hQ:∀ c a w,Q (.panic c) (a.put oi.dst undef) w→Q (.panic c) a w) (hw:Region.wanted oi (yielded ops a.tmps)=false) (hS:S w)
    (h:WA P ops Q S fuel l' (a.put N undef) w) : WA P ops Q S (fuel+1) l a w :=
  ⟨ES (v:=undef) l' hi hN hc hQ (.inr ⟨hw,rfl⟩) hS h.out⟩
theorem Ew{l:Array Bool}{a:Act}{w:World}{n:Nat}(hr:(Region.ready .any ops l==[])=true)(h:Q .normal a w) : WA P ops Q S n l a w:=⟨xg (by simpa using hr) h n⟩
end
theorem b9{B:Int}:∀ x,x∈([] : List Int)→0≤x∧x<B:=fun x h=>by simp at h
theorem ax{B a:Int}{l:List Int}(h:0≤a∧a<B)(k:∀ x,x∈l→0≤x∧x<B) : ∀ x,x∈a :: l→0≤x∧x<B:=fun x hx=>by
  rcases List.mem_cons.1 hx with rfl|hx
  · exact h
  · exact k x hx
theorem CX{α:Type}{R:World→α→List Value→Prop}{enc:α→Value}{w0 w:World}{e:TypeId}{g:Nat}{cs:Array Value}{xs:List α}(hg:w0.heap.size≤g)(hcs:cs=(xs.map enc).toArray)(hR:∀ x,x∈xs→R w x [enc x])(hl:xs.length≤4194304)(hb:w.heap[g]? = some (.cells cs e (0,0))) :
    aQ w0.heap.size e 1 R w (.slice (some ⟨g,0,none⟩) xs.length xs.length) xs:=by
  subst hcs
  refine ez (enc:=enc) hR ⟨by simp,.inr ⟨g,xs.length,_,rfl,hg,hb,Nat.le_refl _,by unfold maxLen;omega,by simp,by simp[List.take_of_length_le]⟩⟩
theorem dZ{w0 w:World}{g:Nat}{cs:Array Value}{xs:List Int}(hg:w0.heap.size≤g)(hcs:cs=(xs.map (Value.int .u8)).toArray)(hx:∀ x,x∈xs→0≤x∧x<256)(hl:xs.length≤4194304)(hb:w.heap[g]? = some (.cells cs 5 (0,0))) :
    cG w0.heap.size w (.slice (some ⟨g,0,none⟩) xs.length xs.length) xs:=CX (enc:=Value.int .u8) hg hcs (fun x h=>⟨rfl,(hx x h).1,(hx x h).2⟩) hl hb
theorem iw{w0 w:World}{g:Nat}{cs:Array Value}{xs:List Int}(hg:w0.heap.size≤g)(hcs:cs=(xs.map (Value.int .u16)).toArray)(hx:∀ x,x∈xs→0≤x∧x<65536)(hl:xs.length≤4194304)(hb:w.heap[g]? = some (.cells cs 37 (0,0))) :
    oZ w0.heap.size w (.slice (some ⟨g,0,none⟩) xs.length xs.length) xs:=CX (enc:=Value.int .u16) hg hcs (fun x h=>⟨rfl,(hx x h).1,(hx x h).2⟩) hl hb
theorem aI{x y:Int}(h:(x==y)=true) : x=y:=by simpa using h
theorem aS{x y:Int}(h:(x==y)=false) : ¬ x=y:=by simpa using h
theorem aR{x y:Int}(h:(x != y)=true) : ¬ x=y:=by simpa using h
theorem aZ{x y:Int}(h:(x != y)=false) : x=y:=by simpa using h
theorem bW{x y:Bool}(h:(x&&y)=true) : x=true∧y=true:=by simpa using h
theorem fh{x y:Bool}(h:(x || y)=false) : x=false∧y=false:=by simpa using h
theorem gS:((0:Int)==0)=true:=rfl
theorem gQ:((0:Int)==1)=false:=rfl
theorem gR:((1:Int)==0)=false:=rfl
theorem gP:((1:Int)==1)=true:=rfl
theorem b8{x:Int}(h:0≤x∧x<256) : B8 x:=h
theorem cD{x:Int}(h:0≤x∧x<65536) : eT x:=h
theorem jl{G:Prop}{m:Md}{w:World}{cs:Array Value}{M:b7}(h:aH m w cs.toList M)(K:∀ Aw kw Ab kb Ad kd Ar kr Ao ko,cs=(eG M (.slice Aw M.words.length kw) (.slice Ab M.bits.length kb) (.slice Ad M.data.length kd) (.slice Ar M.recs.length kr) (.slice Ao M.objects.length ko)).toArray→fv m w (.slice Aw M.words.length kw) M.words→nB m w (.slice Ab M.bits.length kb) M.bits→aW m w (.slice Ad M.data.length kd) M.data→pD m w (.slice Ar M.recs.length kr) M.recs→pC m w (.slice Ao M.objects.length ko) M.objects→M.words.length≤kw→kw≤maxLen→M.bits.length≤kb→kb≤maxLen→M.data.length≤kd→kd≤maxLen→M.recs.length≤kr→kr≤maxLen→M.objects.length≤ko→ko≤maxLen→(0≤M.code∧M.code<256)→(0≤M.fail∧M.fail<256)→(0≤M.addr∧M.addr<65536)→(0≤M.count∧M.count<65536)→(0≤M.value∧M.value<65536)→(0≤M.and_∧M.and_<65536)→(0≤M.or_∧M.or_<65536)→(0≤M.addr2∧M.addr2<65536)→(0≤M.sub∧M.sub<65536)→(0≤M.status∧M.status<65536)→(0≤M.events∧M.events<65536)→(0≤M.messages∧M.messages<65536)→(0≤M.mei∧M.mei<256)→(0≤M.kind∧M.kind<256)→(0≤M.level∧M.level<256)→(0≤M.more∧M.more<256)→(0≤M.next∧M.next<256)→G) : G:=by
  obtain⟨vw,vb,vd,vr,vo,h0,hw,hbt,hd,hr,ho,hR⟩:=h
  obtain rfl:cs=(eG M vw vb vd vr vo).toArray:=by apply Array.toList_inj.1;simpa using h0
  clear h0
  obtain⟨Aw,kw,rfl,a1,b1⟩:=hw.shape
  obtain⟨Ab,kb,rfl,a2,b2⟩:=hbt.shape
  obtain⟨Ad,kd,rfl,a3,b3⟩:=hd.shape
  obtain⟨Ar,kr,rfl,a4,b4⟩:=hr.shape
  obtain⟨Ao,ko,rfl,a5,b5⟩:=ho.shape
  exact K Aw kw Ab kb Ad kd Ar kr Ao ko rfl hw hbt hd hr ho a1 b1 a2 b2 a3 b3 a4 b4 a5 b5 hR.code hR.fail hR.addr hR.count hR.value hR.and_ hR.or_ hR.addr2 hR.sub hR.status hR.events hR.messages hR.mei hR.kind hR.level hR.more hR.next
theorem eR{c f a n v x o y s t e g k d l m p:Int}{W:List Int}{B:List Bool}{D:List Int}{R:List et}{O:List Obj}(h:(0≤c∧c<256)∧(0≤f∧f<256)∧(0≤a∧a<65536)∧(0≤n∧n<65536)∧(0≤v∧v<65536)∧(0≤x∧x<65536)∧(0≤o∧o<65536)∧(0≤y∧y<65536)∧(0≤s∧s<65536)∧(0≤t∧t<65536)∧(0≤e∧e<65536)∧(0≤g∧g<65536)∧(0≤k∧k<256)∧(0≤d∧d<256)∧(0≤l∧l<256)∧(0≤m∧m<256)∧(0≤p∧p<256)) :
    fK ⟨c,f,a,n,v,x,o,y,s,t,e,g,W,B,D,R,k,d,l,m,p,O⟩:=by
  obtain⟨h1,h2,h3,h4,h5,h6,h7,h8,h9,b,i,j,q,r,u,w,z⟩:=h
  exact⟨h1,h2,h3,h4,h5,h6,h7,h8,h9,b,i,j,q,r,u,w,z⟩
def ob (A:Option Addr) : List Nat:=(A.map (·.block)).toList
theorem dw{α:Type}{base sz:Nat}{e:TypeId}{R:World→α→List Value→Prop}{w:World}{A:Option Addr}{n c:Nat}{xs:List α}(h:aQ base e sz R w (.slice A n c) xs) :
    A=none∨∃ g cells,A=some ⟨g,0,none⟩∧base≤g∧w.heap[g]? = some (.cells cells e (0,0)):=by
  obtain⟨cells,⟨_,ho⟩,_⟩:=h
  rcases ho with⟨hv,_⟩|⟨g,cap,cur,hv,hb,hh,_⟩
  · injection hv with h1
    exact .inl h1
  · injection hv with h1
    exact .inr ⟨g,cur,h1,hb,hh⟩
theorem jr{α:Type}{base sz:Nat}{e:TypeId}{R:World→α→List Value→Prop}{w:World}{A:Option Addr}{n c:Nat}{xs:List α}(h:aQ base e sz R w (.slice A n c) xs) : ∀ x,x∈ob A→base≤x:=by
  intro x hx
  rcases dw h with rfl|⟨g,cells,rfl,h1,h2⟩
  · simp[ob] at hx
  · simp[ob] at hx
    omega
theorem dA{α:Type}{base sz:Nat}{e:TypeId}{R:World→α→List Value→Prop}{w:World}{A:Option Addr}{n c:Nat}{xs:List α}(h:aQ base e sz R w (.slice A n c) xs) : ∀ x,x∈ob A→x<w.heap.size:=by
  intro x hx
  rcases dw h with rfl|⟨g,cells,rfl,h1,h2⟩
  · simp[ob] at hx
  · simp[ob] at hx
    have:=ag h2
    omega
theorem dF{α:Type}{base sz:Nat}{e:TypeId}{R:World→α→List Value→Prop}{w:World}{A:Option Addr}{n c:Nat}{xs:List α}(D:List TypeId)(h:aQ base e sz R w (.slice A n c) xs)(hD:D.contains e=false){m:Md}(hm:m.own=true:=by rfl) : bV m D (ob A) w:=by
  intro x hx
  rcases dw h with rfl|⟨g,cells,rfl,h1,h2⟩
  · simp[ob] at hx
  · simp[ob] at hx
    subst hx
    exact .inr ⟨hm,_,_,_,h2,.inl (by simpa using hD)⟩
theorem az{α:Type}{base sz:Nat}{e:TypeId}{R:World→α→List Value→Prop}{w W:World}{A:Option Addr}{n c g:Nat}{xs:List α}(hg:g<W.heap.size)(hs:W.heap.size≤base)(h:aQ base e sz R w (.slice A n c) xs) : g∉ob A:=fun hx=>by
  have:=jr h g hx
  omega
theorem ej{α:Type}{base sz:Nat}{e:TypeId}{R:World→α→List Value→Prop}{w W:World}{A:Option Addr}{n c g:Nat}{xs:List α}(h:aQ base e sz R w (.slice A n c) xs)(hs:w.heap.size≤W.heap.size)(hg:W.heap.size≤g) : g∉ob A:=fun hx=>by
  have:=dA h g hx
  omega
theorem aJ{α:Type}{base sz:Nat}{e t:TypeId}{R:World→α→List Value→Prop}{w:World}{A:Option Addr}{n c g:Nat}{xs:List α}{cs:Array Value}{fr:Nat × Nat}(hb:w.heap[g]? = some (.cells cs t fr))(h:aQ base e sz R w (.slice A n c) xs)(ht:(t==e)=false) : g∉ob A:=fun hx=>by
  rcases dw h with rfl|⟨g',cells,rfl,h1,h2⟩
  · simp[ob] at hx
  · simp[ob] at hx
    subst hx
    rw[hb] at h2
    injection h2 with h2
    injection h2 with _ h3
    simp[h3] at ht
theorem aq{g:Nat}{s S:List Nat}(h:g∉s)(k:g∉S) : g∉s++S:=by simp[h,k]
theorem aa{g a:Nat}{S:List Nat}(h:g≠a)(k:g∉S) : g∉a :: S:=by simp[h,k]
theorem ai{p:Nat→Prop}{s S:List Nat}(h:∀ x,x∈s→p x)(k:∀ x,x∈S→p x) : ∀ x,x∈s++S→p x:=fun x hx=>by
  rcases List.mem_append.1 hx with hx|hx
  · exact h x hx
  · exact k x hx
theorem all_cons{p:Nat→Prop}{a:Nat}{S:List Nat}(h:p a)(k:∀ x,x∈S→p x) : ∀ x,x∈a :: S→p x:=fun x hx=>by
  rcases List.mem_cons.1 hx with rfl|hx
  · exact h
  · exact k x hx
theorem aX{α:Type}{base sz:Nat}{e:TypeId}{R:World→α→List Value→Prop}{w W:World}{A:Option Addr}{n c:Nat}{xs:List α}{S:List Nat}(h:aQ base e sz R w (.slice A n c) xs)(hs:W.heap.size≤base) : ∀ x,x∈ob A→x∈S∨W.heap.size≤x:=fun x hx=>.inr (Nat.le_trans hs (jr h x hx))
theorem cZ{m:Md}{D:List TypeId}{w:World}{s S:List Nat}(h:bV m D s w)(k:bV m D S w) : bV m D (s++S) w:=fun x hx=>by
  rcases List.mem_append.1 hx with hx|hx
  · exact h x hx
  · exact k x hx
theorem ak{α:Type}{base sz:Nat}{e:TypeId}{R:World→α→List Value→Prop}{w w':World}{A:Option Addr}{n c:Nat}{xs:List α}{S:List Nat}
    (h:aQ base e sz R w (.slice A n c) xs) (hu:ay S w w') (hn:∀ x,x∈ob A→x∉S) (hR:∀ x cs,R w x cs→R w' x cs) : aQ base e sz R w' (.slice A n c) xs:=by
  obtain⟨cells,ho,hx⟩:=h
  refine⟨cells,lC ho fun g hg=>?_,fun j x hj=>?_⟩
  · rcases ho.2 with⟨hv,_⟩ | ⟨g',cap,cur,hv,hb,hh,_⟩
    · rw[hv] at hg;simp[Value.ownBlock] at hg
    · rw[hv] at hg
      have:g'=g:=by simpa [Value.ownBlock] using hg
      subst this
      injection hv with h1
      exact hu.block _ (ag hh) (hn _ (by simp[ob,h1]))
  · obtain⟨cs,hl,hr,hc⟩:=hx j x hj
    exact⟨cs,hl,hR _ _ hr,hc⟩
theorem n7{α β:Type}{base base' sz sz':Nat}{e e':TypeId}{R:World→α→List Value→Prop}{R':World→β→List Value→Prop}{w w':World}{A A':Option Addr}{n c n' c':Nat}{xs:List α}{ys:List β}
    (h:aQ base e sz R w (.slice A n c) xs) (h':aQ base' e' sz' R' w' (.slice A' n' c') ys) (hs:w'.heap.size≤base) : ∀ x,x∈ob A→x∉ob A':=fun x hx hx'=>by
  have h1:=jr h x hx
  have h2:=dA h' x hx'
  omega
theorem pS{P:Program}{Q:Exit→Act→World→Prop}{a:Act}{w:World}{K:Act→World→Prop}{o:Oper}{N:Option Tmp}{α:Type}{R:World→α→List Value→Prop}
    {s x:Operand} {t e:TypeId} {base n c:Nat} {A:Option Addr} (z:Value) (sz bytes:Nat) (hN:o.dst=N) (ho:o.op = .call { callee:=.builtin .append,args:=#[s,x],argTypes:=#[t,t] })
    (ht:P.underlying t=some (.slice e)) (hinfo:(P.info? e).map (fun i=>(i.zero,i.size,i.bytes))=some (some z,sz,bytes)) (hz:z.cells.size=sz) (hsz:0<sz)
    (xs:List α) (hs:a.eval s = .slice A n c) (HO:aQ base e sz R w (.slice A n c) xs) {m:Md} {e':TypeId} (u:Value) (ys:List α) (hx:a.eval x=u) (HY:aT m e' sz R w u ys) (hne:0<ys.length)
    (hone:∀ x cs,R w x cs→∀ v,v∈cs→v.oneCell'=true) (hRU:∀ w',ay (ob A++[]) w w'→∀ x cs,R w x cs→R w' x cs)
    (hl:xs.length+ys.length≤4611686018427387904) (hmul:(xs.length+ys.length)*bytes≤140737488355328) (hbase:base≤w.heap.size)
    (h:∀ A' c' w',aQ base e sz R w' (.slice A' (xs++ys).length c') (xs++ys)→ay (ob A++[]) w w'→(∀ g,g∈ob A'→g∈ob A∨w.heap.size≤g)→K (a.put N (.slice A' (xs++ys).length c')) w') : OW P o a w K Q:=by
  subst hN
  refine⟨?_⟩
  obtain⟨i0,hi,hz0,hz1,hz2⟩:=info_parts hinfo
  obtain⟨v',w',hr,h1,hU,hwh⟩ : ∃ v' w',(Builtin.append_ #[t,t] o.type #[.slice A n c,u]).run P w = .ok v' w'∧aQ base e sz R w' v' (xs++ys)∧ay (ob A++[]) w w'∧(v'.ownBlock=(Value.slice A n c).ownBlock∨v'.ownBlock=some w.heap.size):=by
    obtain⟨A2,c2,rfl,_,_,_,h3⟩:=HY
    obtain⟨b,off,cells,t',fr,rfl,hb,_,hc⟩:=h3 hne
    have hA:=dw HO
    have HO1:=HO
    obtain⟨cs0,ho0,hx0⟩:=HO1
    have hn:n=xs.length:=by
      rcases ho0.2 with⟨hv,h0⟩|⟨_,_,_,hv,_⟩
      · injection hv with _ h2 _;omega
      · injection hv
    -- the cells that come
    let news:=(cells.toList.drop off).take (ys.length*sz)
    have hget:∀ (j:Nat) (y:α),ys[j]? = some y→∃ cs:List Value,cs.length=sz∧R w y cs∧∀ i u,cs[i]? = some u→news[j*sz+i]? = some u:=by
      intro j y hj
      obtain⟨cs,h4,h5,h6⟩:=hc j y hj
      refine⟨cs,h4,h5,fun i u hu=>?_⟩
      have hi':i<sz:=by have:=(List.getElem?_eq_some_iff.1 hu).1;omega
      have hj':j<ys.length:=(List.getElem?_eq_some_iff.1 hj).1
      have hlt:j*sz+i<ys.length*sz:=by
        have:(j+1)*sz≤ys.length*sz:=Nat.mul_le_mul_right sz hj'
        rw[Nat.add_mul] at this
        omega
      show((cells.toList.drop off).take (ys.length*sz))[j*sz+i]? = some u
      rw[List.getElem?_take,if_pos hlt,List.getElem?_drop]
      have:=h6 i u hu
      rw[← this]
      simp[Nat.add_assoc]
    have hnl:news.length=ys.length*sz:=by
      have hlast:=hc (ys.length-1) (ys[ys.length-1]'(by omega)) (by simp)
      obtain⟨cs,h4,h5,h6⟩:=hlast
      obtain⟨u,hu⟩ : ∃ u,cs[sz-1]? = some u:=⟨cs[sz-1]'(by omega),by simp⟩
      have h7:=(Array.getElem?_eq_some_iff.1 (h6 (sz-1) u hu)).1
      show((cells.toList.drop off).take (ys.length*sz)).length=_
      rw[List.length_take,List.length_drop]
      have hcl:cells.toList.length=cells.size:=Array.length_toList
      have:(ys.length-1)*sz+sz=ys.length*sz:=by
        rw[← Nat.succ_mul]
        congr 1
        omega
      omega
    have hnews:∀ j u,news[j]? = some u→w.cell? ((⟨b,off,none⟩ : Addr).add j)=some u:=by
      intro j u hj
      have hj':j<ys.length*sz:=by have:=(List.getElem?_eq_some_iff.1 hj).1;omega
      change ((cells.toList.drop off).take (ys.length*sz))[j]? = some u at hj
      rw[List.getElem?_take,if_pos hj',List.getElem?_drop] at hj
      rw[jI _ _ _ _ rfl,bh hb]
      simpa using hj
    have hnone:∀ u,u∈news→u.oneCell'=true:=by
      intro u hu
      obtain⟨k,hk⟩:=List.getElem?_of_mem hu
      have hk':k<ys.length*sz:=by have:=(List.getElem?_eq_some_iff.1 hk).1;omega
      have hd:k/sz<ys.length:=Nat.div_lt_of_lt_mul (by rw[Nat.mul_comm];exact hk')
      obtain⟨cs,h4,h5,h6⟩:=hget (k/sz) (ys[k/sz]'hd) (by simp)
      have hm:k%sz<cs.length:=by rw[h4];exact Nat.mod_lt _ hsz
      have h7:=h6 (k%sz) (cs[k%sz]'hm) (by simp)
      rw[Nat.div_add_mod' k sz,hk] at h7
      injection h7 with h7
      exact hone _ _ h5 u (by rw[h7];simp)
    subst hn
    obtain⟨v',w',hr,hown,hg,_,hwh⟩:=run_append_own_at (P:=P) (w:=w) base t o.type e i0 z sz bytes ht hi hz0 hz1 hz2 hz hsz _ xs.length cs0 ho0 ⟨b,off,none⟩ ys.length c2 news hnl hnews hnone (by unfold maxLen;omega) hmul hbase
    have hU:ay (ob A++[]) w w':=ay.of_grown hg _ fun k hk=>.inl (by
      rcases hA with rfl|⟨g,cells,rfl,_,_⟩
      · simp[Value.ownBlock] at hk
      · simp[Value.ownBlock] at hk
        simp[ob,hk])
    refine⟨v',w',hr,⟨cs0++news,by simpa using hown,fun j y hj=>?_⟩,hU,hwh⟩
    rcases Nat.lt_or_ge j xs.length with hjx|hjx
    · rw[List.getElem?_append_left hjx] at hj
      obtain⟨cs,h4,h5,h6⟩:=hx0 j y hj
      refine⟨cs,h4,hRU w' hU _ _ h5,fun i u hu=>?_⟩
      have:=h6 i u hu
      rw[List.getElem?_append_left (List.getElem?_eq_some_iff.1 this).1]
      exact this
    · rw[List.getElem?_append_right hjx] at hj
      obtain⟨cs,h4,h5,h6⟩:=hget _ y hj
      refine⟨cs,h4,hRU w' hU _ _ h5,fun i u hu=>?_⟩
      have:=h6 i u hu
      have hle:cs0.length≤j*sz+i:=by
        rw[ho0.1]
        have:=Nat.mul_le_mul_right sz hjx
        omega
      rw[List.getElem?_append_right hle,ho0.1,← this]
      congr 1
      rw[Nat.sub_mul]
      have:=Nat.mul_le_mul_right sz hjx
      omega
  have hrun:(execOp a.eval o).run P w = .ok (.value v') w':=by
    unfold execOp
    simp only[ho,resolve,invoke,builtin,Sem.run_bind,Sem.run_pure,Result.andThen_ok,List.map_toArray,List.map_cons,List.map_nil,hs,hx,hr]
  unfold Oper.wp
  rw[hrun]
  obtain⟨A',c',rfl,_,_⟩:=h1.rd.shape
  refine h _ _ _ h1 hU fun g hg=>?_
  rcases dw h1 with rfl|⟨g',cells',rfl,_,_⟩
  · simp[ob] at hg
  · simp[ob] at hg
    subst hg
    rcases hwh with h|h
    · rcases dw HO with rfl | ⟨g2,_,rfl,_,_⟩
      · simp[Value.ownBlock] at h
      · simp[Value.ownBlock] at h;simp[ob,h]
    · simp[Value.ownBlock] at h;exact .inr (by omega)
theorem zn{P:Program}{Q:Exit→Act→World→Prop}{a:Act}{w:World}{K:Act→World→Prop}{o:Oper}{N:Option Tmp}{α:Type}{R:World→α→List Value→Prop}
    {s x:Operand} {t e:TypeId} {base n c:Nat} {A:Option Addr} (z:Value) (sz bytes:Nat) (hN:o.dst=N) (ho:o.op = .call { callee:=.builtin .append,args:=#[s,x],argTypes:=#[t,t] })
    (ht:P.underlying t=some (.slice e)) (hinfo:(P.info? e).map (fun i=>(i.zero,i.size,i.bytes))=some (some z,sz,bytes)) (hz:z.cells.size=sz) (hsz:0<sz)
    (xs:List α) (hs:a.eval s = .slice A n c) (HO:aQ base e sz R w (.slice A n c) xs) {m:Md} {e':TypeId} (u:Value) (ys:List α) (hx:a.eval x=u) (HY:aT m e' sz R w u ys) (hne:0<ys.length)
    (hone:∀ x cs,R w x cs→∀ v,v∈cs→v.oneCell'=true) (hRU:∀ w',ay (ob A++[]) w w'→∀ x cs,R w x cs→R w' x cs)
    (hl:xs.length+ys.length≤4194304) (hby:bytes≤65536) (hbase:base≤w.heap.size)
    (h:∀ A' c' w',aQ base e sz R w' (.slice A' (xs++ys).length c') (xs++ys)→ay (ob A++[]) w w'→(∀ g,g∈ob A'→g∈ob A∨w.heap.size≤g)→K (a.put N (.slice A' (xs++ys).length c')) w') : OW P o a w K Q :=
  pS z sz bytes hN ho ht hinfo hz hsz xs hs HO u ys hx HY hne hone hRU (by omega) (Nat.le_trans (Nat.mul_le_mul hl hby) (by decide)) hbase h
theorem zN{P:Program}{Q:Exit→Act→World→Prop}{a:Act}{w:World}{K:Act→World→Prop}{o:Oper}{N:Option Tmp}{α:Type}{R:World→α→List Value→Prop}
    {s x:Operand} {t e:TypeId} {base n c:Nat} {A:Option Addr} (z:Value) (sz bytes:Nat) (hN:o.dst=N) (ho:o.op = .call { callee:=.builtin .append,args:=#[s,x],argTypes:=#[t,t] })
    (ht:P.underlying t=some (.slice e)) (hinfo:(P.info? e).map (fun i=>(i.zero,i.size,i.bytes))=some (some z,sz,bytes)) (hz:z.cells.size=sz) (hsz:0<sz)
    (xs:List α) (hs:a.eval s = .slice A n c) (HO:aQ base e sz R w (.slice A n c) xs) {m:Md} {e':TypeId} (u:Value) (ys:List α) (hx:a.eval x=u) (HY:aT m e' sz R w u ys) (hne:0<ys.length)
    (hone:∀ x cs,R w x cs→∀ v,v∈cs→v.oneCell'=true) (hRU:∀ w',ay (ob A++[]) w w'→∀ x cs,R w x cs→R w' x cs)
    (hl:xs.length+ys.length≤4194304) (hby:bytes≤65536) (hbase:base≤w.heap.size)
    (h:∀ A' c' w',aQ base e sz R w' (.slice A' (xs++ys).length c') (xs++ys)→ay (ob A++[]) w w'→K (a.put N (.slice A' (xs++ys).length c')) w') : OW P o a w K Q :=
  zn z sz bytes hN ho ht hinfo hz hsz xs hs HO u ys hx HY hne hone hRU hl hby hbase fun A' c' w' h1 h2 _=>h A' c' w' h1 h2
theorem to{α:Type}{R:World→α→List Value→Prop}{w:World}{e:TypeId}{g sz:Nat}{cs:Array Value}{x:α}(hb:w.heap[g]? = some (.cells cs e (0,0)))(hs:cs.toList.length=sz)(hR:R w x cs.toList) : aT true e sz R w (.slice (some ⟨g,0,none⟩) 1 1) [x]:=by
  refine⟨_,1,rfl,Nat.le_refl _,by unfold maxLen;omega,(fun h=>by cases h),fun _=>⟨g,0,cs,e,(0,0),rfl,hb,(fun _=>⟨rfl,Nat.zero_le _⟩),fun j y hj=>?_⟩⟩
  have:j=0:=by have:=(List.getElem?_eq_some_iff.1 hj).1;simp at this;exact this
  subst this
  simp at hj
  subst hj
  exact⟨cs.toList,hs,hR,fun i u hu=>by simpa using hu⟩
theorem cH.upd8{m:Md}{w w':World}{S:List Nat}(hu:ay S w w')(hs:bV m [5] S w)(r:Obj)(cs:List Value)(h:cH m w r cs) : cH m w' r cs:=by
  obtain⟨v,h1,h2,h3⟩:=h
  exact⟨v,h1,aW.upd' h2 hu hs,h3⟩
theorem bL.upd16{m:Md}{w w':World}{S:List Nat}(hu:ay S w w')(hs:bV m [37] S w)(r:et)(cs:List Value)(h:bL m w r cs) : bL m w' r cs:=by
  obtain⟨v,h1,h2,h3⟩:=h
  exact⟨v,h1,fv.upd' h2 hu hs,h3⟩
theorem cH.ones{m:Md}{w:World}(x:Obj)(cs:List Value)(h:cH m w x cs) : ∀ v,v∈cs→v.oneCell'=true:=by
  obtain⟨v,rfl,h2,_⟩:=h
  intro u hu
  simp at hu
  rcases hu with rfl|rfl
  · rfl
  · exact aT.one h2
theorem bL.ones{m:Md}{w:World}(x:et)(cs:List Value)(h:bL m w x cs) : ∀ v,v∈cs→v.oneCell'=true:=by
  obtain⟨v,rfl,h2,_⟩:=h
  intro u hu
  simp at hu
  rcases hu with rfl|rfl|rfl|rfl
  · rfl
  · rfl
  · rfl
  · exact aT.one h2
theorem CK{P:Program}{Q:Exit→Act→World→Prop}{a:Act}{w:World}{K:Act→World→Prop}{o:Oper}{N:Option Tmp}{α:Type}{R:World→α→List Value→Prop}{enc:α→Value}(hR:AW R enc)
    {s x:Operand} {t e:TypeId} {base n c:Nat} {A:Option Addr} (z:Value) (bytes:Nat) (hN:o.dst=N) (ho:o.op = .call { callee:=.builtin .append,args:=#[s,x],argTypes:=#[t,t] })
    (ht:P.underlying t=some (.slice e)) (hinfo:(P.info? e).map (fun i=>(i.zero,i.size,i.bytes))=some (some z,1,bytes)) (hz:z.cells.size=1)
    (xs:List α) (hs:a.eval s = .slice A n c) (HO:aQ base e 1 R w (.slice A n c) xs) {m:Md} {e':TypeId} (u:Value) (ys:List α) (hx:a.eval x=u) (HY:aT m e' 1 R w u ys)
    (hl:xs.length+ys.length≤4194304) (hby:bytes≤65536) (hbase:base≤w.heap.size)
    (h:∀ A' c' w',aQ base e 1 R w' (.slice A' (xs++ys).length c') (xs++ys)→ay (ob A++[]) w w'→K (a.put N (.slice A' (xs++ys).length c')) w') : OW P o a w K Q:=by
  subst hN
  refine⟨?_⟩
  obtain⟨i0,hi,hz0,hz1,hz2⟩:=info_parts hinfo
  obtain⟨v',w',hr,h1,hU⟩ : ∃ v' w',(Builtin.append_ #[t,t] o.type #[.slice A n c,u]).run P w = .ok v' w'∧aQ base e 1 R w' v' (xs++ys)∧ay (ob A) w w':=by
    obtain⟨A2,c2,hu,hc1,hc2⟩:=HY.shape
    subst hu
    cases A2 with
    | none =>
      obtain⟨A2,c',hv,_,_,h0,h3⟩:=HY
      injection hv with e1 e2 e3
      subst e1 e3
      obtain rfl:ys=[]:=by
        rcases Nat.eq_zero_or_pos ys.length with h0|h0
        · exact List.eq_nil_of_length_eq_zero h0
        · obtain⟨b,off,cells,t,fr,hh,_⟩:=h3 h0
          cases hh
      obtain rfl:=h0 rfl
      have hn:n=xs.length:=by
        obtain⟨_,_,hv,_⟩:=HO.rd.shape
        injection hv
      exact⟨_,w,by subst hn;exact run_append_owned_none (P:=P) (w:=w) base t o.type e i0 1 ht hi _ xs.length (xs.map enc) (ew hR.cell HO),by subst hn;simpa using HO,ay.refl _ _⟩
    | some ad =>
      obtain⟨_,hnews⟩:=jc hR.cell HY
      have hmul:(xs.length+ys.length)*bytes≤140737488355328:=Nat.le_trans (Nat.mul_le_mul hl hby) (by decide)
      obtain⟨v',w',hr,hown,hg,_,_⟩:=run_append_own_at (P:=P) (w:=w) base t o.type e i0 z 1 bytes ht hi hz0 hz1 hz2 hz (by decide) _ xs.length (xs.map enc) (ew hR.cell HO) ad ys.length c2 (ys.map enc) (by simp) hnews
        (fun u hu=>by obtain⟨y,_,rfl⟩:=List.mem_map.1 hu;exact hR.one y) (by unfold maxLen;omega) hmul hbase
      refine⟨v',w',hr,ez (enc:=enc) (fun y hy=>?_) (by simpa using hown),ay.of_grown hg _ fun k hk=>.inl ?_⟩
      · rcases List.mem_append.1 hy with hy | hy
        · obtain⟨cs,h1⟩:=HO.mem y hy;exact hR.any _ _ _ _ h1
        · obtain⟨cs,h1⟩:=HY.mem y hy;exact hR.any _ _ _ _ h1
      · rcases dw HO with rfl | ⟨g,cells,rfl,_,_⟩
        · simp[Value.ownBlock] at hk
        · simp[Value.ownBlock] at hk
          simp[ob,hk]
  have hrun:(execOp a.eval o).run P w = .ok (.value v') w':=by
    unfold execOp
    simp only[ho,resolve,invoke,builtin,Sem.run_bind,Sem.run_pure,Result.andThen_ok,List.map_toArray,List.map_cons,List.map_nil,hs,hx,hr]
  unfold Oper.wp
  rw[hrun]
  obtain⟨A',c',rfl,_,_⟩:=h1.rd.shape
  exact h _ _ _ h1 (by simpa using hU)
theorem pD.old{m:Md}{w w':World}{v:Value}{l:List et}(h:pD m w v l)(hu:ay [] w w') : pD m w' v l:=h.upd' hu (bV.nil _ _ _)
theorem pC.old{m:Md}{w w':World}{v:Value}{l:List Obj}(h:pC m w v l)(hu:ay [] w w') : pC m w' v l:=h.upd' hu (bV.nil _ _ _)
theorem aT.elt{α:Type}{m:Md}{e:TypeId}{sz:Nat}{R:World→α→List Value→Prop}{w:World}{A:Option Addr}{n c:Nat}{xs:List α}(h:aT m e sz R w (.slice A n c) xs)(d:α)(j:Nat)(hj:j<xs.length) :
    ∃ b off cells t fr cs,A=some ⟨b,off,none⟩∧w.heap[b]? = some (.cells cells t fr)∧cs.length=sz∧R w (xs.getD j d) cs∧(cells.toList.drop (off+j*sz)).take sz=cs:=by
  obtain⟨A',c',hv,h1,h2,h0,h3⟩:=h
  injection hv with e1 e2 e3
  subst e1 e3
  obtain⟨b,off,cells,t,fr,rfl,hb,ht,hx⟩:=h3 (by omega)
  have hg:xs[j]? = some (xs.getD j d):=by simp[List.getD_eq_getElem?_getD,List.getElem?_eq_getElem hj]
  obtain⟨cs,h4,h5,h6⟩:=hx j _ hg
  refine⟨b,off,cells,t,fr,cs,rfl,hb,h4,h5,?_⟩
  apply List.ext_getElem?
  intro i
  rw[List.getElem?_take,List.getElem?_drop]
  by_cases hi:i<sz
  · rw[if_pos hi]
    have hi':i<cs.length:=by omega
    have:=h6 i cs[i] (by simp)
    rw[List.getElem?_eq_getElem hi',← this]
    simp
  · rw[if_neg hi,List.getElem?_eq_none (by omega)]
theorem pC.elt{m:Md}{w:World}{A:Option Addr}{n c:Nat}{xs:List Obj}(h:pC m w (.slice A n c) xs)(j:Nat)(hj:j<xs.length) :
    ∃ b off cells t fr A' c',A=some ⟨b,off,none⟩∧w.heap[b]? = some (.cells cells t fr)∧aW m w (.slice A' (xs.getD j ⟨0,[]⟩).value.length c') (xs.getD j ⟨0,[]⟩).value∧(0≤(xs.getD j ⟨0,[]⟩).id∧(xs.getD j ⟨0,[]⟩).id<256) ∧
      (cells.toList.drop (off+j*2)).take 2=[.int .u8 (xs.getD j ⟨0,[]⟩).id,.slice A' (xs.getD j ⟨0,[]⟩).value.length c']:=by
  obtain⟨b,off,cells,t,fr,cs,h1,h2,h3,⟨v,h4,h5,h6⟩,h7⟩:=aT.elt h ⟨0,[]⟩ j hj
  obtain⟨A',c',rfl,_,_⟩:=h5.shape
  exact⟨b,off,cells,t,fr,A',c',h1,h2,h5,h6,by rw[h7,h4]⟩
theorem pD.elt{m:Md}{w:World}{A:Option Addr}{n c:Nat}{xs:List et}(h:pD m w (.slice A n c) xs)(j:Nat)(hj:j<xs.length) :
    ∃ b off cells t fr A' c',A=some ⟨b,off,none⟩∧w.heap[b]? = some (.cells cells t fr)∧fv m w (.slice A' (xs.getD j ⟨0,0,0,[]⟩).words.length c') (xs.getD j ⟨0,0,0,[]⟩).words ∧
      ((0≤(xs.getD j ⟨0,0,0,[]⟩).file∧(xs.getD j ⟨0,0,0,[]⟩).file<65536)∧(0≤(xs.getD j ⟨0,0,0,[]⟩).record∧(xs.getD j ⟨0,0,0,[]⟩).record<65536)∧(0≤(xs.getD j ⟨0,0,0,[]⟩).count∧(xs.getD j ⟨0,0,0,[]⟩).count<65536)) ∧
      (cells.toList.drop (off+j*4)).take 4=[.int .u16 (xs.getD j ⟨0,0,0,[]⟩).file,.int .u16 (xs.getD j ⟨0,0,0,[]⟩).record,.int .u16 (xs.getD j ⟨0,0,0,[]⟩).count,.slice A' (xs.getD j ⟨0,0,0,[]⟩).words.length c']:=by
  obtain⟨b,off,cells,t,fr,cs,h1,h2,h3,⟨v,h4,h5,h6⟩,h7⟩:=aT.elt h ⟨0,0,0,[]⟩ j hj
  obtain⟨A',c',rfl,_,_⟩:=h5.shape
  exact⟨b,off,cells,t,fr,A',c',h1,h2,h5,h6,by rw[h7,h4]⟩
theorem C6{P:Program}{Q:Exit→Act→World→Prop}{a:Act}{w:World}{K:Act→World→Prop}{o:Oper}{N:Option Tmp}{t e:TypeId}{x ix:Operand}{A:Option Addr}{n c b off j:Nat}{k:IntKind}{i:Int}(sz:Nat)(hN:o.dst=N)(ho:o.op = .indexAddr t x ix)(ht:P.underlying t=some (.slice e))(hi:(P.info? e).map (·.size)=some sz)
    (hx:a.eval x = .slice A n c) (hix:a.eval ix = .int k i) (hj:i=j) (hlt:j<n) (hA:A=some ⟨b,off,none⟩) (h:K (a.put N (.pointer (some ⟨b,off+j*sz,none⟩))) w) : OW P o a w K Q:=by
  subst hj
  subst hA
  obtain⟨i0,hi0,hs⟩:=Option.map_eq_some_iff.1 hi
  refine gi _ hN ?_ h
  unfold execOp
  have h2:(0:Int)≤(j:Int)∧(j:Int)<(n:Int):=by omega
  simp[ho,hx,hix,Instr.indexAt,asIntOf,run_underlying ht,Result.andThen,h2,sizeOf,typeInfo,hi0,hs,jI,hlt]
theorem BR{P:Program}{Q:Exit→Act→World→Prop}{a:Act}{w:World}{K:Act→World→Prop}{o:Oper}{N:Option Tmp}{α:Type}{R:World→α→List Value→Prop}{enc:α→Value}(hR:AW R enc){ty e:TypeId}{x y:Operand}{base n c b off j:Nat}{A:Option Addr}{xs:List α}(v:α)
    (hN:o.dst=N) (ho:o.op = .store ty x y) (hx:a.eval x = .pointer (some ⟨b,off+j,none⟩)) (hy:a.eval y=enc v) (hv:∀ w,R w v [enc v]) (HO:aQ base e 1 R w (.slice A n c) xs) (hA:A=some ⟨b,off,none⟩) (hj:j<xs.length) (hi:(P.info? ty).map (·.size)=some 1)
    (h:∀ w',aQ base e 1 R w' (.slice A n c) (xs.set j v)→ay (ob A++[]) w w'→K (a.put N undef) w') : OW P o a w K Q:=by
  subst hA
  have hrow:=ew hR.cell HO
  obtain⟨hl,hh⟩:=hrow
  rcases hh with⟨hv',h0⟩|⟨g,cap,cur,hv',hb,hheap,h1,h2,h3,h4⟩
  · omega
  injection hv' with e1 e2 e3
  injection e1 with e1
  injection e1 with e4 e5
  subst e4 e5 e2
  have hjc:j<cur.size:=by rw[h3];omega
  refine BC (g:=b) (off:=0+j) (enc v) _ hN ho hx hy hheap (by simp;omega) hi (hR.one v) rfl fun w' hb' hu=>h w' ?_ (by simpa [ob] using hu)
  have:(xs.set j v).length=xs.length:=by simp
  rw[← this]
  refine ez (enc:=enc) (fun y hy=>?_) ⟨by simp,.inr ⟨b,cap,_,by rw[this,e3],hb,hb',by rw[this];exact h1,h2,by simp[h3],?_⟩⟩
  · rcases List.mem_or_eq_of_mem_set hy with hy | rfl
    · obtain⟨cs,h5⟩:=HO.mem y hy
      exact hR.any _ _ _ _ h5
    · exact hv w'
  · rw[this,List.map_set,← h4]
    simp[List.take_set]
theorem i64_in{x:Int}(h : -9223372036854775808≤x∧x≤9223372036854775807) : IntKind.i64.wrap x=x:=IntWalk.i64_in _ (by omega)
theorem rP{x:Int}(h:0≤x∧x<65536) : IntKind.u16.wrap x=x:=by show x%65536=x;omega
theorem u8_in{x:Int}(h:0≤x∧x<256) : IntKind.u8.wrap x=x:=by show x%256=x;omega
theorem tG{x y:Int}(hx:0≤x∧x≤9223372036854775807)(hy:0<y) : IntKind.i64.wrap (Int.tdiv x y)=x/y:=by
  rw[Int.tdiv_eq_ediv_of_nonneg hx.1]
  refine i64_in ⟨?_,?_⟩
  · have:=Int.ediv_nonneg hx.1 (Int.le_of_lt hy)
    omega
  · have:=Int.ediv_le_self y hx.1
    omega
theorem xL{x y:Int}(hx : -1000000≤x∧x≤1000000)(hy:0<y) : IntKind.i64.wrap (Int.tdiv x y)=Int.tdiv x y:=by
  have h : -1000000≤Int.tdiv x y∧Int.tdiv x y≤1000000:=by
    rcases Int.lt_or_le x 0 with h|h
    · obtain⟨n,rfl⟩ : ∃ n:Nat,x = -(n:Int):=⟨(-x).toNat,by omega⟩
      rw[Int.neg_tdiv,Int.tdiv_eq_ediv_of_nonneg (by omega)]
      have h1:=Int.ediv_nonneg (show(0:Int)≤n by omega) (Int.le_of_lt hy)
      have h2:=Int.ediv_le_self y (show(0:Int)≤n by omega)
      omega
    · rw[Int.tdiv_eq_ediv_of_nonneg h]
      have h1:=Int.ediv_nonneg h (Int.le_of_lt hy)
      have h2:=Int.ediv_le_self y h
      omega
  exact i64_in ⟨by omega,by omega⟩
theorem lS(x y z:Int)(h:decide (0≤y)&&(y==z)=true) : Int.fdiv x y=x/z:=by
  simp only[Bool.and_eq_true,decide_eq_true_eq,beq_iff_eq] at h
  rw[← h.2]
  exact Int.fdiv_eq_ediv_of_nonneg x h.1
theorem aC{p:Nat→Prop}:∀ x,x∈([] : List Nat)→p x:=fun x h=>by simp at h
theorem BK{p:Nat→Prop}{a b:Nat}(ha:p a)(hb:p b) : ∀ x,x∈[a,b]→p x:=fun x h=>by
  simp at h
  rcases h with rfl|rfl
  · exact ha
  · exact hb
theorem av{g:Nat}:g∉([] : List Nat):=by simp
theorem aP{m:Md}{D:List TypeId}{w:World}:bV m D [] w:=bV.nil _ _ _
theorem b6{D:List TypeId}{w:World}{g:Nat}{cs:Array Value}{t:TypeId}{fr:Nat × Nat}(h:w.heap[g]? = some (.cells cs t fr))(ht:D.contains t=false){m:Md}(hm:m.own=true:=by rfl) : bV m D [g] w:=bV.one h (by simpa using ht) hm
theorem am{m:Md}{D:List TypeId}{w:World}{g:Nat}{S:List Nat}(h:bV m D [g] w)(k:bV m D S w) : bV m D (g :: S) w:=fun s hs=>by
  simp at hs
  rcases hs with rfl|hs
  · exact h _ (by simp)
  · exact k _ hs
open Go.RowKit
theorem cz{P:Program}{m:Md}{w:World}{ev:Operand→Value}{o:Oper}{x:Operand}{src dst e:TypeId}{A:Option Addr}{n c:Nat}{xs:List Int}(ho:o.op = .convert src dst x)(hx:ev x = .slice A n c)
    (hs:P.underlying src=some (.slice e)) (he:P.underlying e=some (.int .u8)) (hd:P.underlying dst=some .string) (h:aW m w (.slice A n c) xs) : (execOp ev o).run P w = .ok (.value (.string (strOfNums xs))) w:=by
  have hr:(convert src dst (.slice A n c)).run P w = .ok (.string (strOfNums xs)) w:=by
    obtain⟨A',c',hv,h1,h2,h0,h3⟩:=h
    injection hv with e1 e2 e3
    subst e1 e2 e3
    by_cases hp:0<xs.length
    · obtain⟨b,off,cells,t,fr,rfl,hb,ht,hx⟩:=h3 hp
      refine run_convert_bytes_arg w src e hs he b off _ c xs rfl (fun i hi=>?_) dst hd
      obtain⟨cs,hl,⟨hr,_,_⟩,hc⟩:=hx i xs[i] (List.getElem?_eq_getElem hi)
      rw[bh hb,← Nat.mul_one i]
      have:=hc 0 (.int .u8 xs[i]) (by rw[hr];rfl)
      simp only[Nat.add_zero] at this
      rw[this]
      simp[List.getD_eq_getElem?_getD,List.getElem?_eq_getElem hi]
    · have hz:xs=[]:=List.eq_nil_of_length_eq_zero (by omega)
      subst hz
      cases A with
      | none=>rw[run_convert_bytes_nil w src e hs he _ _ dst hd];rfl
      | some a =>
        have hl:(loadCells a 0).run P w = .ok #[] w:=by
          have:=run_loadCells_list (P:=P) w a [] (fun j v hj=>by simp at hj)
          simpa using this
        rw[run_convert_bytes_string w src dst e _ _ c hs he hd,show([] : List Int).length=0 from rfl,run_bytesToString w _ 0 c [] (by simpa using hl)]
        rfl
  unfold execOp
  simp only[ho,hx,Sem.run_bind,hr,Result.andThen,Sem.run_pure]
theorem kL:∀ (xs ys:List Int),(∀ x,x∈xs→0≤x∧x<256)→(∀ x,x∈ys→0≤x∧x<256)→(xs.map fun n=>UInt8.ofNat n.toNat)=(ys.map fun n=>UInt8.ofNat n.toNat)→xs=ys
  | [],[],_,_,_=>rfl
  | [],_ :: _,_,_,h=>by simp at h
  | _ :: _,[],_,_,h=>by simp at h
  | x :: xs,y :: ys,hx,hy,h=>by
    simp only[List.map_cons,List.cons.injEq] at h
    obtain⟨h1,h2⟩:=h
    have h3:=kL xs ys (fun z hz=>hx z (by simp[hz])) (fun z hz=>hy z (by simp[hz])) h2
    have a:=hx x (by simp)
    have b:=hy y (by simp)
    have h4:x.toNat%256=y.toNat%256:=by
      have:=congrArg UInt8.toNat h1
      simpa [UInt8.toNat_ofNat'] using this
    have h5:x=y:=by omega
    rw[h5,h3]
theorem aW.range{m:Md}{w:World}{v:Value}{xs:List Int}(h:aW m w v xs) : ∀ x,x∈xs→0≤x∧x<256:=by
  intro x hx
  obtain⟨A,c,rfl,_,_,_,h3⟩:=h
  obtain⟨j,hj,rfl⟩:=List.getElem_of_mem hx
  obtain⟨b,off,cells,t,fr,_,_,_,h4⟩:=h3 (by omega)
  obtain⟨cs,_,⟨_,h5,h6⟩,_⟩:=h4 j xs[j] (List.getElem?_eq_getElem hj)
  exact⟨h5,h6⟩
theorem jy{m m':Md}{w w':World}{v v':Value}{xs ys:List Int}(hx:aW m w v xs)(hy:aW m' w' v' ys) : ((strOfNums xs).toList==(strOfNums ys).toList)=decide (xs=ys):=by
  rw[ByteArray.toList_eq,ByteArray.toList_eq,strOfNums_data,strOfNums_data]
  by_cases h:xs=ys
  · subst h;simp
  · rw[decide_eq_false h]
    simp only[beq_eq_false_iff_ne,ne_eq]
    intro he
    exact h (kL xs ys hx.range hy.range he)
theorem zZ{xs:List Int}{l:List UInt8}{b:ByteArray}(hb:b.data.toList=l)(h:(xs.map fun n=>UInt8.ofNat n.toNat)=l) : ((strOfNums xs).toList==b.toList)=true:=by
  rw[ByteArray.toList_eq,ByteArray.toList_eq,strOfNums_data,hb,h]
  simp
theorem eF{P:Program}{w:World}{ev:Operand→Value}{o:Oper}{x y:Operand}{t t':TypeId}{a b:ByteArray}{v:Bool}(ho:o.op = .binOp .eql t x y t')(hx:ev x = .string a)(hy:ev y = .string b)(hv:(a.toList==b.toList)=v) : (execOp ev o).run P w = .ok (.value (.bool v)) w:=by
  have hg:eqGuard .eql t x y (.string a) (.string b)=pure ():=rfl
  unfold execOp
  simp only[ho,hx,hy,hg,binOp_string_eql,Sem.run_bind,Sem.run_pure,Result.andThen,hv]
open Go.RowKit
abbrev Fr:=List (Nat × Value)
def lk:Fr→Nat→Option Value
  | [],_=>none
  | p :: F,i=>bif Nat.beq p.1 i then some p.2 else lk F i
def eg (F:Fr) : Operand→Option Value
  | .tmp i=>lk F i
  | .const v=>some v
  | .global g=>some (.pointer (some ⟨g,0,none⟩))
  | .func f=>some (.func (.func f) #[] #[])
def pn (F:Fr)(x:Operand) : Value:=(eg F x).getD undef
structure Ag (n:Nat) (D:List Deferred) (F:Fr) (a:Act) : Prop where
  sz:a.tmps.size=n
  df:a.defers=D
  at_:∀ i v,lk F i=some v→a.tmps[i]? = some v
def pt (d:Option Nat)(v:Value)(F:Fr) : Fr:=match d with | none=>F | some i=>(i,v) :: F
def eU (n:Nat)(d:Option Nat) : Bool:=match d with | none=>true | some i=>Nat.blt i n
theorem Fj{i j:Nat}(h:i≠j) : Nat.beq i j=false:=by
  cases hb:Nat.beq i j
  · rfl
  · exact absurd (Nat.eq_of_beq_eq_true hb) h
theorem ik{i:Nat}{v:Value}{F:Fr}{j:Nat}{u:Value}(h:lk ((i,v) :: F) j=some u) : (i=j∧v=u)∨(i≠j∧lk F j=some u):=by
  unfold lk at h
  by_cases hij:i=j
  · subst hij
    left
    simpa using h
  · right
    have:Nat.beq i j=false:=Fj hij
    rw[this] at h
    exact⟨hij,h⟩
section
variable {n:Nat}{D:List Deferred}{F F':Fr}{a:Act}
theorem Ag.ev(h:Ag n D F a){x:Operand}{v:Value}(hx:eg F x=some v) : a.eval x=v:=by
  cases x with
  | tmp i=>have:=h.at_ i v hx;simp[Act.eval,this]
  | const c=>exact Option.some.inj hx
  | global g=>exact Option.some.inj hx
  | func f=>exact Option.some.inj hx
theorem Ag.ov(h:Ag n D F a){x:Operand}(hx:(eg F x).isSome=true) : pn F x=a.eval x:=by
  obtain⟨v,hv⟩:=Option.isSome_iff_exists.1 hx
  rw[h.ev hv]
  simp[pn,hv]
theorem Ag.put(h:Ag n D F a){d:Option Nat}{v:Value}(hd:eU n d=true) : Ag n D (pt d v F) (a.put d v):=by
  cases d with
  | none=>exact h
  | some i =>
    have hi:i<a.tmps.size:=by rw[h.sz];simpa [eU] using hd
    refine⟨by simp[Act.put,h.sz],h.df,fun j u hj=>?_⟩
    rcases ik hj with⟨rfl,rfl⟩|⟨h1,h2⟩
    · simp[Act.put,hi]
    · simp only[Act.put]
      rw[Array.getElem?_setIfInBounds_ne h1]
      exact h.at_ _ _ h2
def nv (F:Fr) : List Nat:=F.map (·.1)
theorem BQ{F:Fr}{i:Nat}{v:Value}(h:lk F i=some v) : i∈nv F:=by
  induction F with
  | nil=>cases h
  | cons p F ih =>
    rcases ik h with⟨h1,_⟩|⟨_,h2⟩
    · simp[nv,h1]
    · have:=ih h2;simp only[nv,List.map_cons,List.mem_cons] at this ⊢;exact .inr this
theorem Ag.wk(h:Ag n D F a)(hk:(nv F').map (lk F)=(nv F').map (lk F')) : Ag n D F' a :=
  ⟨h.sz,h.df,fun i v hi=>h.at_ i v ((List.map_inj_left.1 hk i (BQ hi)).trans hi)⟩
def wA (ks:List Nat)(F:Fr) : Fr:=F.filter (fun p=>!(ks.any (Nat.beq p.1)))
end
structure GC (P:Program) (c:Code) (Q:Exit→Act→World→Prop) (n:Nat) (D:List Deferred) (F:Fr) (w:World) : Prop where
  out:∀ a,Ag n D F a→c.wp P Q a w
structure GQ (Q:Exit→Act→World→Prop) (e:Exit) (n:Nat) (D:List Deferred) (F:Fr) (w:World) : Prop where
  out:∀ a,Ag n D F a→Q e a w
structure GL (P:Program) (ops:Array Oper) (Q:Exit→Act→World→Prop) (l:List Oper) (n:Nat) (D:List Deferred) (F:Fr) (w:World) : Prop where
  out:∀ a,Ag n D F a→wpList P ops Q l a w
structure OG (P:Program) (o:Oper) (n:Nat) (D:List Deferred) (F:Fr) (w:World) (K:Fr→World→Prop) (Q:Exit→Act→World→Prop) : Prop where
  out:∀ a,Ag n D F a→∀ K':Act→World→Prop,(∀ F' w' a',K F' w'→Ag n D F' a'→K' a' w')→OW P o a w K' Q
section
variable {P:Program}{Q:Exit→Act→World→Prop}{n:Nat}{D:List Deferred}{F:Fr}{w:World}{ops:Array Oper}{rest l:List Oper}{x y c:Code}{nx:Act→World→Prop}{id:Nat}{R:Ending→World→Prop}{fn:Func}
theorem sq(h:GC P x (Exit.then (y.wp P Q) Q) n D F w) : GC P (.seq x y) Q n D F w:=⟨fun a ha=>wp_seq (h.out a ha)⟩
theorem bk(h:GC P c (Exit.inBlock id Q) n D F w) : GC P (.block id c) Q n D F w:=⟨fun a ha=>wp_block (h.out a ha)⟩
theorem go(h:GL P l.toArray Q l n D F w) : GC P (.region id l.toArray false) Q n D F w:=⟨fun a ha=>wp_region_lit (h.out a ha)⟩
theorem sk(h:GQ Q .normal n D F w) : GC P .skip Q n D F w:=⟨fun a ha=>wp_skip (h.out a ha)⟩
theorem rt(h:GQ Q .ret n D F w) : GC P .ret Q n D F w:=⟨fun a ha=>wp_ret (h.out a ha)⟩
theorem xt(h:GQ Q (.exit id) n D F w) : GC P (.exit id) Q n D F w:=⟨fun a ha=>wp_exit (h.out a ha)⟩
theorem nl(h:GQ Q .normal n D F w) : GL P ops Q [] n D F w:=⟨fun a ha=>h.out a ha⟩
theorem tn(h:GC P y Q n D F w) : GQ (Exit.then (y.wp P Q) Q) .normal n D F w:=⟨fun a ha=>h.out a ha⟩
theorem tr(h:GQ Q .ret n D F w) : GQ (Exit.then nx Q) .ret n D F w:=⟨fun a ha=>h.out a ha⟩
theorem tx(h:GQ Q (.exit id) n D F w) : GQ (Exit.then nx Q) (.exit id) n D F w:=⟨fun a ha=>h.out a ha⟩
theorem bn(h:GQ Q .normal n D F w) : GQ (Exit.inBlock id Q) .normal n D F w:=⟨fun a ha=>h.out a ha⟩
theorem br(h:GQ Q .ret n D F w) : GQ (Exit.inBlock id Q) .ret n D F w:=⟨fun a ha=>h.out a ha⟩
theorem bx(h:GQ Q .normal n D F w) : GQ (Exit.inBlock id Q) (.exit id) n D F w:=⟨fun a ha=>ED (h.out a ha)⟩
theorem DJ{id':Nat}(h:GQ Q (.exit id') n D F w)(hne:id'≠id:=by decide) : GQ (Exit.inBlock id Q) (.exit id') n D F w:=⟨fun a ha=>Ec hne (h.out a ha)⟩
theorem nt(h:GC P y Q n D F w) : GL P ops (Exit.then (y.wp P Q) Q) [] n D F w:=nl (tn h)
theorem sg(h:GL P l.toArray (Exit.then (y.wp P Q) Q) l n D F w) : GC P (.seq (.region id l.toArray false) y) Q n D F w:=sq (go h)
theorem ng(h:GL P l.toArray (Exit.then (y.wp P Q) Q) l n D F w) : GL P ops (Exit.then ((Code.seq (.region id l.toArray false) y).wp P Q) Q) [] n D F w:=nt (sg h)
theorem bM(h:GC P y Q n D F w) : GC P .skip (Exit.then (y.wp P Q) Q) n D F w:=sk (tn h)
theorem ct{c:Operand}{e:Bool}(he:e=true)(h:GC P x Q n D F w)(hv:eg F c=some (.bool e):=by kernel_rfl) : GC P (.cond c x y) Q n D F w:=⟨fun a ha=>Ej e (ha.ev hv) he (h.out a ha)⟩
theorem cf{c:Operand}{e:Bool}(he:e=false)(h:GC P y Q n D F w)(hv:eg F c=some (.bool e):=by kernel_rfl) : GC P (.cond c x y) Q n D F w:=⟨fun a ha=>E8 e (ha.ev hv) he (h.out a ha)⟩
theorem c1{c:Operand}(h:GC P x Q n D F w)(hv:eg F c=some (.bool true):=by kernel_rfl) : GC P (.cond c x y) Q n D F w:=ct rfl h hv
theorem c0{c:Operand}(h:GC P y Q n D F w)(hv:eg F c=some (.bool false):=by kernel_rfl) : GC P (.cond c x y) Q n D F w:=cf rfl h hv
theorem cb{c:Operand}(e:Bool)(ht:e=true→GC P x Q n D F w)(hf:e=false→GC P y Q n D F w)(hv:eg F c=some (.bool e):=by kernel_rfl) : GC P (.cond c x y) Q n D F w:=by
  rcases hY e with q|q
  · exact ct q (ht q) hv
  · exact cf q (hf q) hv
theorem iW(F':Fr)(h:GC P c Q n D F' w)(hk:(nv F').map (lk F)=(nv F').map (lk F'):=by kernel_rfl) : GC P c Q n D F w:=⟨fun a ha=>h.out a (ha.wk hk)⟩
def yX:Nat→List Value→Fr
  | _,[]=>[]
  | i,v :: l=>(i,v) :: yX (i+1) l
theorem rC:∀ (l:List Value)(i j:Nat)(v:Value),lk (yX i l) j=some v→i≤j∧l[j-i]? = some v
  | [],_,_,_,h=>by cases h
  | u :: l,i,j,v,h=>by
    rcases ik h with⟨h1,h2⟩|⟨_,h2⟩
    · subst h1 h2;simp
    · obtain⟨h3,h4⟩:=rC l (i+1) j v h2
      refine⟨by omega,?_⟩
      rw[show j-i=(j-(i+1))+1 from by omega]
      simpa using h4
theorem EO{args:List Value}{m:Nat}:Ag (args.length+m) [] (yX 0 args) { tmps:=args.toArray++Array.replicate m undef,defers:=[] }:=by
  refine⟨by simp,rfl,fun i v h=>?_⟩
  obtain⟨_,h2⟩:=rC _ _ _ _ h
  simp only[Nat.sub_zero] at h2
  have hi:i<args.length:=(List.getElem?_eq_some_iff.1 h2).1
  rw[Array.getElem?_append_left (by simpa using hi)]
  simpa using h2
theorem en{f:FuncId}{c:Code}{args:List Value}{w:World}(n:Nat)(hf:P.funcs[f]? = some fn)(hb:fn.body=some c)
    (h:GC P c (bodyPost P fn R) n [] (yX 0 args) w) (hn:args.length+(fn.ntmps-args.length)=n:=by kernel_rfl) : Calls P f args.toArray w R:=by
  subst hn
  exact calls_of_wp hf hb (by simpa using h.out _ (EO (args:=args) (m:=fn.ntmps-args.length)))
def gd (ops:Array Oper)(F:Fr)(j:Nat) : Option Value:=((ops[j]?).bind (·.dst)).bind (lk F)
theorem Dr{a:Act}{j:Nat}{v:Value}(ha:Ag n D F a)(h:gd ops F j=some v) : ((ops[j]?).bind (·.dst)).bind (a.tmps[·]?)=some v:=by
  unfold gd at h
  obtain⟨i,hi,h2⟩:=Option.bind_eq_some_iff.1 h
  rw[hi]
  exact ha.at_ _ _ h2
theorem EJ{a:Act}{j:Nat}{b:Bool}(ha:Ag n D F a)(h:gd ops F j=some (.bool b)) : yielded ops a.tmps j=some b:=by
  unfold yielded
  rw[Dr ha h]
def n8 (ops:Array Oper)(F:Fr)(g:Option (Nat × Bool)) : Bool × Bool:=match g with
  | none=>(true,true)
  | some p=>match gd ops F p.1 with
    | some (.bool c)=>(true,c==p.2)
    | some _=>(true,false)
    | none=>(false,false)
theorem fU{a:Act}{o:Oper}{b:Bool}(ha:Ag n D F a)(h:n8 ops F o.guard=(true,b)) : Region.wanted o (yielded ops a.tmps)=b:=by
  unfold n8 at h
  unfold Region.wanted
  cases hg:o.guard with
  | none=>rw[hg] at h;simpa using h
  | some p =>
    rw[hg] at h
    obtain⟨j,c⟩:=p
    simp only at h ⊢
    cases hv:gd ops F j with
    | none=>rw[hv] at h;simp at h
    | some v =>
      rw[hv] at h
      unfold yielded
      rw[Dr ha hv]
      cases v<;>simp at h ⊢<;>first | exact h | (subst h;rfl) | (rw[← h];simp)
theorem L0{d:Option Tmp}{op:Op}{t:TypeId}{s:String}{af:Array Edge}(h:OG P ⟨d,op,t,s,af,none⟩ n D F w (GL P ops Q rest n D) Q) : GL P ops Q (⟨d,op,t,s,af,none⟩ :: rest) n D F w :=
  ⟨fun a ha=>(EA rfl (h.out a ha (WL P ops Q rest) fun _ _ a' k ha'=>⟨k.out a' ha'⟩)).out⟩
theorem L1{d:Option Tmp}{op:Op}{t:TypeId}{s:String}{af:Array Edge}{j:Nat}{b:Bool}(h:OG P ⟨d,op,t,s,af,some (j,b)⟩ n D F w (GL P ops Q rest n D) Q)(hg:gd ops F j=some (.bool b):=by kernel_rfl) : GL P ops Q (⟨d,op,t,s,af,some (j,b)⟩ :: rest) n D F w :=
  ⟨fun a ha=>(Eg (uE rfl (EJ ha hg) rfl) (h.out a ha (WL P ops Q rest) fun _ _ a' k ha'=>⟨k.out a' ha'⟩)).out⟩
def ns (F:Fr)(x:Operand) : Bool:=(eg F x).isSome
def jY (F:Fr) : Op→Bool
  | .move x | .assign x | .nilCheck x | .unOp _ _ x | .convert _ _ x | .makeInterface _ x | .fieldAddr _ x _ | .field _ x _ | .extract x _ | .box _ x | .load _ x=>ns F x
  | .pick c x y=>ns F c&&ns F x&&ns F y
  | .binOp _ _ x y _ | .store _ x y | .indexAddr _ x y | .index _ x y | .makeSlice _ x y=>ns F x&&ns F y
  | .build _ ps | .buildSlice _ _ ps=>ps.toList.all fun p=>ns F p.2
  | .makeFunc _ p q=>p.toList.all (ns F)&&q.toList.all (ns F)
  | .slice _ x l h m=>ns F x&&l.all (ns F)&&h.all (ns F)&&m.all (ns F)
  | .call c=>(match c.callee with | .builtin _=>true | .value f=>ns F f | _=>false)&&c.args.toList.all (ns F)
  | _=>false
theorem j9{a:Act}{o:Oper}(ha:Ag n D F a)(h:jY F o.op=true) : execOp (pn F) o=execOp a.eval o:=by
  refine execOp_congr o (fun cs b e=>by rw[e] at h;cases h) fun x hx=>ha.ov ?_
  obtain⟨dst,op,type,pos,after,guard⟩:=o
  have hall:∀ (ps:Array Operand),ps.toList.all (ns F)=true→x∈ps→(eg F x).isSome=true:=fun ps hp hm=>by
    have:=List.all_eq_true.1 hp x (by simpa using hm)
    exact this
  cases op<;>simp only[jY,Op.operands,Bool.and_eq_true] at h hx<;>try contradiction
  case build t ps =>
    simp at hx
    obtain⟨i,hp⟩:=hx
    exact List.all_eq_true.1 h (i,x) (by simpa using hp)
  case buildSlice t m ps =>
    simp at hx
    obtain⟨i,hp⟩:=hx
    exact List.all_eq_true.1 h (i,x) (by simpa using hp)
  case makeFunc f p q =>
    rcases Array.mem_append.1 hx with hx|hx
    · exact hall _ h.1 hx
    · exact hall _ h.2 hx
  case slice t y lo hi mx =>
    obtain⟨⟨⟨h1,h2⟩,h3⟩,h4⟩:=h
    simp only[ns] at h1
    cases lo<;>cases hi<;>cases mx<;>simp[ns] at hx h2 h3 h4<;>(try rcases hx with rfl | rfl | rfl | rfl)<;>(try rcases hx with rfl | rfl | rfl)<;>(try rcases hx with rfl | rfl)<;>(try subst hx)<;>assumption
  case call c =>
    simp only[Call.operands] at hx
    rcases Array.mem_append.1 hx with hx|hx
    · revert h hx
      cases c.callee<;>intro h hx<;>simp at hx h
      subst hx
      exact h.1
    · exact hall _ h.2 hx
  all_goals (simp only[ns,Bool.and_eq_true] at h;simp at hx;(try rcases hx with rfl | rfl | rfl)<;>(try rcases hx with rfl | rfl)<;>(try subst hx)<;>first | exact h | exact h.1 | exact h.2 | exact h.1.1 | exact h.1.2)
def vo (P:Program)(w:World)(F:Fr)(o:Oper) : Value:=match (execOp (pn F) o).run P w with
  | .ok (.value v) _=>v
  | _=>undef
def tw (P:Program)(ops:Array Oper)(w:World)(F:Fr)(o:Oper) : Fr:=bif (n8 ops F o.guard).2 then pt o.dst (vo P w F o) F else pt o.dst undef F
def rn (P:Program)(ops:Array Oper)(w:World) : Nat→List Oper→Fr→Fr
  | 0,_,F=>F
  | _+1,[],F=>F
  | k+1,o :: l,F=>rn P ops w k l (tw P ops w F o)
def sc (P:Program)(ops:Array Oper)(w:World)(n:Nat) : Nat→List Oper→Fr→List ((Bool × Bool) × Result Next)
  | 0,_,_=>[]
  | _+1,[],_=>[((false,false),.ok .skip w)]
  | k+1,o :: l,F=>(((n8 ops F o.guard).1,eU n o.dst&&(bif (n8 ops F o.guard).2 then jY F o.op else true)),bif (n8 ops F o.guard).2 then (execOp (pn F) o).run P w else .ok .skip w) :: sc P ops w n k l (tw P ops w F o)
def sQ (P:Program)(ops:Array Oper)(w:World) : Nat→List Oper→Fr→List ((Bool × Bool) × Result Next)
  | 0,_,_=>[]
  | _+1,[],_=>[((true,true),.ok .skip w)]
  | k+1,o :: l,F=>((true,true),bif (n8 ops F o.guard).2 then .ok (.value (vo P w F o)) w else .ok .skip w) :: sQ P ops w k l (tw P ops w F o)
theorem Pl(k:Nat)(h:GL P ops Q (l.drop k) n D (rn P ops w k l F) w)(hc:sc P ops w n k l F=sQ P ops w k l F:=by kernel_rfl) : GL P ops Q l n D F w:=by
  induction k generalizing l F with
  | zero=>exact h
  | succ k ih =>
    cases l with
    | nil=>simp[sc,sQ] at hc
    | cons o l =>
      simp only[sc,sQ,List.cons.injEq,Prod.mk.injEq,Bool.and_eq_true] at hc
      obtain⟨⟨⟨h1,h2,h3⟩,h4⟩,h5⟩:=hc
      have h6:=ih (l:=l) (F:=tw P ops w F o) (by simpa [rn] using h) h5
      refine⟨fun a ha=>?_⟩
      cases hon:(n8 ops F o.guard).2 with
      | true =>
        rw[hon] at h3 h4
        simp only[cond_true] at h3 h4
        have hw:Region.wanted o (yielded ops a.tmps)=true:=fU ha (Prod.ext h1 hon)
        have hst:tw P ops w F o=pt o.dst (vo P w F o) F:=by simp[tw,hon]
        rw[hst] at h6
        exact(Eg hw (gi (N:=o.dst) (vo P w F o) rfl (by rw[← j9 ha h3];exact h4) ⟨h6.out _ (ha.put h2)⟩)).out
      | false =>
        have hw:Region.wanted o (yielded ops a.tmps)=false:=fU ha (Prod.ext h1 hon)
        have hst:tw P ops w F o=pt o.dst undef F:=by simp[tw,hon]
        rw[hst] at h6
        exact(Ek (N:=o.dst) hw rfl ⟨h6.out _ (ha.put h2)⟩).out
theorem aA(k:Nat)(h:GL P l.toArray (Exit.then (y.wp P Q) Q) (l.drop k) n D (rn P l.toArray w k l F) w)(hc:sc P l.toArray w n k l F=sQ P l.toArray w k l F:=by kernel_rfl) : GC P (.seq (.region id l.toArray false) y) Q n D F w:=sg (Pl k h hc)
theorem aU(k:Nat)(h:GL P l.toArray (Exit.then (y.wp P Q) Q) (l.drop k) n D (rn P l.toArray w k l F) w)(hc:sc P l.toArray w n k l F=sQ P l.toArray w k l F:=by kernel_rfl) : GL P ops (Exit.then ((Code.seq (.region id l.toArray false) y).wp P Q) Q) [] n D F w:=ng (Pl k h hc)
theorem al(k:Nat)(h:GC P y Q n D (rn P ops w k l F) w)(hc:sc P ops w n k l F=sQ P ops w k l F:=by kernel_rfl)(hd:l.drop k=[]:=by kernel_rfl) : GL P ops (Exit.then (y.wp P Q) Q) l n D F w:=Pl k (by rw[hd];exact nt h) hc
theorem aB(k:Nat)(h:GC P y Q n D (rn P l.toArray w k l F) w)(hc:sc P l.toArray w n k l F=sQ P l.toArray w k l F:=by kernel_rfl)(hd:l.drop k=[]:=by kernel_rfl) : GC P (.seq (.region id l.toArray false) y) Q n D F w:=sg (al k h hc hd)
theorem dK(k:Nat)(h:GC P y Q n D (rn P l.toArray w k l F) w)(hc:sc P l.toArray w n k l F=sQ P l.toArray w k l F:=by kernel_rfl)(hd:l.drop k=[]:=by kernel_rfl) : GL P ops (Exit.then ((Code.seq (.region id l.toArray false) y).wp P Q) Q) [] n D F w:=ng (al k h hc hd)
theorem t4(h:GQ Q .ret n D F w) : GL P ops (Exit.then (Code.ret.wp P Q) Q) [] n D F w:=nt (rt h)
theorem bQ(h:GQ Q .ret n D F w) : GC P .ret (Exit.then nx Q) n D F w:=rt (tr h)
theorem bl(j:Nat)(e:Bool)(ht:e=true→GL P ops Q l n D ((j,.bool true) :: F) w)(hf:e=false→GL P ops Q l n D ((j,.bool false) :: F) w)(hv:lk F j=some (.bool e):=by kernel_rfl) : GL P ops Q l n D F w:=by
  refine⟨fun a ha=>?_⟩
  have key:∀ b,e=b→Ag n D ((j,.bool b) :: F) a:=fun b hb=>⟨ha.sz,ha.df,fun i v hi=>by
    rcases ik hi with⟨rfl,rfl⟩|⟨_,h2⟩
    · rw[← hb];exact ha.at_ _ _ hv
    · exact ha.at_ _ _ h2⟩
  rcases hY e with q|q
  · exact(ht q).out a (key _ q)
  · exact(hf q).out a (key _ q)
theorem sy(j:Nat){e b:Bool}(q:e=b)(h:GL P ops Q l n D ((j,.bool b) :: F) w)(hv:lk F j=some (.bool e):=by kernel_rfl) : GL P ops Q l n D F w:=by
  subst q
  refine⟨fun a ha=>h.out a ⟨ha.sz,ha.df,fun i v hi=>?_⟩⟩
  rcases ik hi with⟨rfl,rfl⟩|⟨_,h2⟩
  · exact ha.at_ _ _ hv
  · exact ha.at_ _ _ h2
theorem cu(k:Nat)(ks:List Nat)(j:Nat)(r:Bool)(h:∀ K:Act→World→Prop,(∀ a,Ag n D ((j,.bool r) :: wA ks F) a→K a w)→GL P ops (Exit.then K Q) (l.take k) n D F w)
    (hk:GL P ops Q (l.drop k) n D ((j,.bool r) :: wA ks F) w) : GL P ops Q l n D F w:=by
  refine⟨fun a ha=>?_⟩
  have:=fd (P:=P) (Q:=Q) (ops:=ops) (l.drop k) (l.take k) a w ((h (wpList P ops Q (l.drop k)) fun a' ha'=>hk.out a' ha').out a ha)
  rwa [List.take_append_drop] at this
theorem ce{K:Act→World→Prop}{j:Nat}{r:Bool}{F0:Fr}(hK:∀ a,Ag n D ((j,.bool r) :: F0) a→K a w)(t:Bool)(hr:r=t)(hk:(nv ((j,.bool t) :: F0)).map (lk F)=(nv ((j,.bool t) :: F0)).map (lk ((j,.bool t) :: F0)):=by kernel_rfl) : GL P ops (Exit.then K Q) [] n D F w:=by
  subst hr
  exact⟨fun a ha=>hK a (ha.wk hk)⟩
theorem js{α:Type}(k:Nat)(l:List α) : (l.take k).drop k=[]:=by simp
theorem s8(k:Nat)(ks:List Nat)(j i:Nat)(e f:Bool)(h:∀ K:Act→World→Prop,(∀ a,Ag n D ((j,.bool f) :: wA ks F) a→K a w)→e=false→GL P ops (Exit.then K Q) (l.take k) n D ((i,.bool false) :: F) w)
    (hk:GL P ops Q (l.drop k) n D ((j,.bool (e || f)) :: wA ks F) w) (hv:lk F i=some (.bool e):=by kernel_rfl) (hc:sc P ops w n k (l.take k) ((i,.bool true) :: F)=sQ P ops w k (l.take k) ((i,.bool true) :: F):=by kernel_rfl)
    (hm:(nv ((j,.bool true) :: wA ks F)).map (lk (rn P ops w k (l.take k) ((i,.bool true) :: F)))=(nv ((j,.bool true) :: wA ks F)).map (lk ((j,.bool true) :: wA ks F)):=by kernel_rfl) : GL P ops Q l n D F w :=
  cu k ks j (e || f) (fun K hK=>bl i e (fun q=>Pl k (by rw[js];exact ce hK true (by rw[q];rfl) hm) hc) (fun q=>h K (fun a ha=>hK a (by rw[q];exact ha)) q) hv) hk
theorem ij(k:Nat)(ks:List Nat)(j i:Nat)(e f:Bool)(h:∀ K:Act→World→Prop,(∀ a,Ag n D ((j,.bool f) :: wA ks F) a→K a w)→e=true→GL P ops (Exit.then K Q) (l.take k) n D ((i,.bool true) :: F) w)
    (hk:GL P ops Q (l.drop k) n D ((j,.bool (e&&f)) :: wA ks F) w) (hv:lk F i=some (.bool e):=by kernel_rfl) (hc:sc P ops w n k (l.take k) ((i,.bool false) :: F)=sQ P ops w k (l.take k) ((i,.bool false) :: F):=by kernel_rfl)
    (hm:(nv ((j,.bool false) :: wA ks F)).map (lk (rn P ops w k (l.take k) ((i,.bool false) :: F)))=(nv ((j,.bool false) :: wA ks F)).map (lk ((j,.bool false) :: wA ks F)):=by kernel_rfl) : GL P ops Q l n D F w :=
  cu k ks j (e&&f) (fun K hK=>bl i e (fun q=>h K (fun a ha=>hK a (by rw[q];exact ha)) q) (fun q=>Pl k (by rw[js];exact ce hK false (by rw[q];rfl) hm) hc) hv) hk
theorem jZ{ι:Type}(G:ι→Fr)(J:ι→World→Prop)(μ:ι→Nat)(x0:ι)(h0:J x0 w)(round:∀ x w,J x w→GC P c (Exit.then (fun a' w'=>∃ y,Ag n D (G y) a'∧J y w'∧μ y<μ x) Q) n D (G x) w)
    (hk:(nv (G x0)).map (lk F)=(nv (G x0)).map (lk (G x0)):=by kernel_rfl) : GC P (.loop c) Q n D F w:=by
  refine⟨fun a ha=>lp (fun x a w=>Ag n D (G x) a∧J x w) μ x0 ⟨ha.wk hk,h0⟩ fun x a w hI=>?_⟩
  refine wp_mono ((round x w hI.2).out a hI.1) fun e a' w' q=>?_
  cases e with
  | normal=>obtain⟨y,h1,h2,h3⟩:=q;exact⟨y,⟨h1,h2⟩,h3⟩
  | _=>exact q
theorem fD{ι:Type}{G:ι→Fr}{J:ι→World→Prop}{μ:ι→Nat}{x:ι}(y:ι)(h:J y w)(hm:μ y<μ x)(hk:(nv (G y)).map (lk F)=(nv (G y)).map (lk (G y)):=by kernel_rfl) : GQ (Exit.then (fun a' w'=>∃ y,Ag n D (G y) a'∧J y w'∧μ y<μ x) Q) .normal n D F w :=
  ⟨fun a ha=>⟨y,ha.wk hk,h,hm⟩⟩
theorem DO{ι:Type}(G:ι→Fr)(J:ι→World→Prop)(hy:∀ i w,J i w→GC P y Q n D (G i) w)(hx:GC P x (Exit.then (fun a' w'=>∃ i,Ag n D (G i) a'∧J i w') Q) n D F w) : GC P (.seq x y) Q n D F w :=
  sq ⟨fun a ha=>wp_mono (hx.out a ha) fun e a' w' q=>by
    cases e with
    | normal=>obtain⟨i,h1,h2⟩:=q;exact(hy i w' h2).out a' h1
    | _=>exact q⟩
theorem jn{ι:Type}{G:ι→Fr}{J:ι→World→Prop}(i:ι)(h:J i w)(hk:(nv (G i)).map (lk F)=(nv (G i)).map (lk (G i)):=by kernel_rfl) : GQ (Exit.then (fun a' w'=>∃ i,Ag n D (G i) a'∧J i w') Q) .normal n D F w:=⟨fun a ha=>⟨i,ha.wk hk,h⟩⟩
theorem EX{ι:Type}{x1 x2 x3:Code}(G:ι→Fr)(J:ι→World→Prop)(hy:∀ i w,J i w→GC P y Q n D (G i) w)(k:(∀ (i:ι){F':Fr}{w':World}(_:J i w')(_:(nv (G i)).map (lk F')=(nv (G i)).map (lk (G i)):=by kernel_rfl),GC P y Q n D F' w')→GC P (.seq x1 (.seq x2 (.seq x3 y))) Q n D F w) : GC P (.seq x1 (.seq x2 (.seq x3 y))) Q n D F w :=
  k fun i _ w' h hk=>⟨fun a ha=>(hy i w' h).out a (ha.wk hk)⟩
end
section
variable {P:Program}{Q:Exit→Act→World→Prop}{n:Nat}{D:List Deferred}{F:Fr}{w:World}{K:Fr→World→Prop}{d:Option Tmp}{op:Op}{t:TypeId}{s:String}{af:Array Edge}{gu:Option (Nat × Bool)}
theorem eQ{a b:Bool}(h:(a&&b)=true) : a=true∧b=true:=by simpa using h
theorem Oe(v0 v:Value)(he:v0=v)(h:K (pt d v F) w)(hr:(execOp (pn F) ⟨d,op,t,s,af,gu⟩).run P w = .ok (.value v0) w:=by kernel_rfl)(hs:(jY F op&&eU n d)=true:=by kernel_rfl) : OG P ⟨d,op,t,s,af,gu⟩ n D F w K Q:=by
  subst he
  have hs:=eQ hs
  exact⟨fun a ha K' hK=>gi _ rfl (by rw[← j9 ha hs.1];exact hr) (hK _ _ _ h (ha.put hs.2))⟩
theorem Oi(x:Int)(h:K (pt d (.int .i64 x) F) w)(hb : -9223372036854775808≤x∧x≤9223372036854775807:=by omega)(hr:(execOp (pn F) ⟨d,op,t,s,af,gu⟩).run P w = .ok (.value (.int .i64 (IntKind.i64.wrap x))) w:=by kernel_rfl)(hs:(jY F op&&eU n d)=true:=by kernel_rfl) : OG P ⟨d,op,t,s,af,gu⟩ n D F w K Q :=
  Oe _ _ (congrArg (Value.int .i64) (IntWalk.i64_in _ (by omega))) h hr hs
theorem F1(x:Int)(h:K (pt d (.int .u16 x) F) w)(hb:0≤x∧x<65536:=by omega)(hr:(execOp (pn F) ⟨d,op,t,s,af,gu⟩).run P w = .ok (.value (.int .u16 (IntKind.u16.wrap x))) w:=by kernel_rfl)(hs:(jY F op&&eU n d)=true:=by kernel_rfl) : OG P ⟨d,op,t,s,af,gu⟩ n D F w K Q :=
  Oe _ _ (congrArg (Value.int .u16) (rP hb)) h hr hs
theorem jv(v:Value)(hr:(execOp (pn F) ⟨d,op,t,s,af,gu⟩).run P w = .ok (.value v) w)(h:K (pt d v F) w)(hs:(jY F op&&eU n d)=true:=by kernel_rfl) : OG P ⟨d,op,t,s,af,gu⟩ n D F w K Q:=Oe v v rfl h hr hs
theorem jO{ty:TypeId}{x:Operand}{p:Addr}{v:Value}(hc:w.cell? p=some v)(h:K (pt d v F) w)(hx:eg F x=some (.pointer (some p)):=by kernel_rfl)(hs:(fA P ty&&eU n d)=true:=by kernel_rfl) : OG P ⟨d,.load ty x,t,s,af,gu⟩ n D F w K Q :=
  ⟨fun a ha K' hK=>CY v rfl rfl (ha.ev hx) (eQ hs).1 hc (hK _ _ _ h (ha.put (eQ hs).2))⟩
theorem iH{ty ty':TypeId}{x:Operand}{b:Nat}{cs:Array Value}{fr:Nat × Nat}(B:w.heap[b]? = some (.cells cs ty' fr))(off:Nat)(h:K (pt d (cs.getD off undef) F) w)(hx:eg F x=some (.pointer (some ⟨b,off,none⟩)):=by kernel_rfl)(hs:(fA P ty&&eU n d)=true:=by kernel_rfl)(hl:Nat.blt off cs.size=true:=by kernel_rfl) : OG P ⟨d,.load ty x,t,s,af,gu⟩ n D F w K Q :=
  jO (ae B (by
    have:off<cs.size:=by simpa using hl
    simp[Array.getD,this])) h hx hs
theorem Dj{ty ty':TypeId}{x:Operand}{b:Nat}{cs:Array Value}{fr:Nat × Nat}(B:w.heap[b]? = some (.cells cs ty' fr))(off k:Nat)(h:K (pt d (.agg ((cs.toList.drop off).take k).toArray) F) w)(hx:eg F x=some (.pointer (some ⟨b,off,none⟩)):=by kernel_rfl)
    (hs:((P.underlying ty).map (·.isRow),(P.info? ty).map (·.size),eU n d)=(some true,some ((cs.toList.drop off).take k).length,true):=by kernel_rfl) : OG P ⟨d,.load ty x,t,s,af,gu⟩ n D F w K Q:=by
  simp only[Prod.mk.injEq] at hs
  exact⟨fun a ha K' hK=>xd _ rfl rfl (ha.ev hx) B hs.1 hs.2.1 (by simp[List.take_take]) (hK _ _ _ h (ha.put hs.2.2))⟩
theorem cM{ty ty':TypeId}{x:Operand}{b:Nat}{cs:Array Value}{fr:Nat × Nat}(B:w.heap[b]? = some (.cells cs ty' fr))(h:K (pt d (.agg cs) F) w)(hz:(P.info? ty).map (·.size)=some cs.size:=by kernel_rfl)(hx:eg F x=some (.pointer (some ⟨b,0,none⟩)):=by kernel_rfl)
    (hs:((P.underlying ty).map (·.isRow),eU n d)=(some true,true):=by kernel_rfl) : OG P ⟨d,.load ty x,t,s,af,gu⟩ n D F w K Q:=by
  simp only[Prod.mk.injEq] at hs
  exact⟨fun a ha K' hK=>Cg rfl rfl (ha.ev hx) B hs.1 hz (hK _ _ _ h (ha.put hs.2))⟩
theorem cA{ty t':TypeId}{x y:Operand}{b:Nat}{cs:Array Value}(B:w.heap[b]? = some (.cells cs t' (0,0)))(off:Nat)(cs':Array Value)(h:∀ w',w'.heap[b]? = some (.cells cs' t' (0,0))→ay [b] w w'→K (pt d undef F) w')
    (hx:eg F x=some (.pointer (some ⟨b,off,none⟩)):=by kernel_rfl) (hl:Nat.blt off cs.size=true:=by kernel_rfl) (hs:((P.info? ty).map (·.size),(ns F y&&eU n d)&&(pn F y).oneCell')=(some 1,true):=by kernel_rfl) (hc:cs.setIfInBounds off (pn F y)=cs':=by kernel_rfl) : OG P ⟨d,.store ty x y,t,s,af,gu⟩ n D F w K Q:=by
  simp only[Prod.mk.injEq] at hs
  have h2:=eQ hs.2
  have h3:=eQ h2.1
  exact⟨fun a ha K' hK=>BC (pn F y) cs' rfl rfl (ha.ev hx) (ha.ov h3.1).symm B hl hs.1 h2.2 hc fun w' hB hu=>hK _ _ _ (h w' hB hu) (ha.put h3.2)⟩
theorem rL{ty t':TypeId}{x y:Operand}{b:Nat}{cs:Array Value}(B:w.heap[b]? = some (.cells cs t' (0,0)))(vs:Array Value)(h:∀ w',w'.heap[b]? = some (.cells vs t' (0,0))→ay [b] w w'→K (pt d undef F) w')
    (hz:(P.info? ty).map (·.size)=some vs.size:=by kernel_rfl) (h1:vs.all (·.oneCell')=true:=by kernel_rfl) (hv:vs.size=cs.size:=by kernel_rfl) (hx:eg F x=some (.pointer (some ⟨b,0,none⟩)):=by kernel_rfl) (hy:eg F y=some (.agg vs):=by kernel_rfl) (hs:eU n d=true:=by kernel_rfl) : OG P ⟨d,.store ty x y,t,s,af,gu⟩ n D F w K Q :=
  ⟨fun a ha K' hK=>Cc vs rfl rfl (ha.ev hx) (ha.ev hy) B hz hv h1 fun w' hB hu=>hK _ _ _ (h w' hB hu) (ha.put hs)⟩
theorem Bv{ty:TypeId}(cs:Array Value)(h:∀ g w',w.heap.size≤g→w'.heap[g]? = some (.cells cs ty (0,0))→ay [] w w'→K (pt d (.pointer (some ⟨g,0,none⟩)) F) w')
    (hz:(P.info? ty).bind (fun i=>i.zero.map (·.cells))=some cs:=by kernel_rfl) (hs:eU n d=true:=by kernel_rfl) : OG P ⟨d,.alloc ty,t,s,af,gu⟩ n D F w K Q :=
  ⟨fun a ha K' hK=>xe cs rfl rfl hz fun g w' hg hB hu=>hK _ _ _ (h g w' hg hB hu) (ha.put hs)⟩
theorem cX{ty:TypeId}{x:Operand}(cs:Array Value)(h:∀ g w',w.heap.size≤g→w'.heap[g]? = some (.cells cs ty (0,0))→ay [] w w'→K (pt d (.pointer (some ⟨g,0,none⟩)) F) w')
    (hz:(pn F x).cells=cs:=by kernel_rfl) (hs:(ns F x&&eU n d)=true:=by kernel_rfl) : OG P ⟨d,.box ty x,t,s,af,gu⟩ n D F w K Q :=
  ⟨fun a ha K' hK=>Ci cs rfl rfl (by rw[← ha.ov (eQ hs).1];exact hz) fun g w' hg hB hu=>hK _ _ _ (h g w' hg hB hu) (ha.put (eQ hs).2)⟩
theorem dX{e:TypeId}{m:Nat}(cs:Array Value)(h:∀ g w',w.heap.size≤g→w'.heap[g]? = some (.cells cs e (0,0))→ay [] w w'→K (pt d (.slice (some ⟨g,0,none⟩) m m) F) w')
    (hr:(execOp (pn F) ⟨d,op,t,s,af,gu⟩).run P w = .ok (.value (.slice (some ⟨w.heap.size,0,none⟩) m m)) (w.alloc (.cells cs e)):=by kernel_rfl) (hs:(jY F op&&eU n d)=true:=by kernel_rfl) : OG P ⟨d,op,t,s,af,gu⟩ n D F w K Q :=
  ⟨fun a ha K' hK=>Cl cs rfl (by rw[← j9 ha (eQ hs).1];exact hr) fun g w' hg hB hu=>hK _ _ _ (h g w' hg hB hu) (ha.put (eQ hs).2)⟩
theorem zT{ty:TypeId}(h:∀ g w',w.heap.size≤g→w'.heap[g]? = some (.map #[] 0)→ay [] w w'→K (pt d (.map (some g)) F) w')(hs:eU n d=true:=by kernel_rfl) : OG P ⟨d,.makeMap ty none,t,s,af,gu⟩ n D F w K Q :=
  ⟨fun a ha K' hK=>Ce rfl rfl fun g w' hg hB hu=>hK _ _ _ (h g w' hg hB hu) (ha.put hs)⟩
def oU (P:Program)(ty:TypeId) : Option IntKind:=match P.underlying ty with | some (.map kt _)=>(match P.underlying kt with | some (.int q)=>some q | _=>none) | _=>none
def mc (P:Program)(ty:TypeId) : IntKind:=(oU P ty).getD .i64
theorem l0{ty:TypeId}(h:(oU P ty).isSome=true) : oU P ty=some (mc P ty):=by
  obtain⟨q,hq⟩:=Option.isSome_iff_exists.1 h
  simp[mc,hq]
def Bj (P:Program)(ty:TypeId) : TypeId:=match P.underlying ty with | some (.map _ e)=>e | _=>0
theorem jk{ty:TypeId}{q:IntKind}(h:oU P ty=some q) : ∃ kt,P.underlying ty=some (.map kt (Bj P ty))∧P.underlying kt=some (.int q):=by
  unfold oU at h
  unfold Bj
  split at h
  · rename_i kt e he
    split at h
    · rename_i q' hq
      refine⟨kt,by simp[he],?_⟩
      rw[hq]
      simpa using h
    · cases h
  · cases h
theorem ip{ty:TypeId}{m k x:Operand}{r:Nat}{es:Array MapEntry}{clk:Nat}(B:w.heap[r]? = some (.map es clk))(z:Int)(h:∀ w',w'.heap[r]? = some (.map (es.push ⟨.int (mc P ty) z,pn F x,clk⟩) (clk+1))→ay [r] w w'→K (pt d undef F) w')
    (hq:(oU P ty).isSome=true:=by kernel_rfl) (hm:eg F m=some (.map (some r)):=by kernel_rfl) (hk:eg F k=some (.int (mc P ty) z):=by kernel_rfl) (hs:(ns F x&&eU n d)=true:=by kernel_rfl)
    (hn:Instr.findNow (.int (mc P ty)) (.int (mc P ty) z) es.toList 0=some none:=by kernel_rfl) : OG P ⟨d,.insert ty m k x,t,s,af,gu⟩ n D F w K Q:=by
  obtain⟨kt,h1,h2⟩:=jk (l0 hq)
  exact⟨fun a ha K' hK=>Co z (pn F x) _ _ rfl rfl h1 h2 (ha.ev hm) B (ha.ev hk) (ha.ov (eQ hs).1).symm hn rfl rfl fun w' hB hu=>hK _ _ _ (h w' hB hu) (ha.put (eQ hs).2)⟩
theorem D9{es:Array MapEntry}{q:IntKind}{x:Int}{r:Option (Nat × Value)}(l:Array MapEntry)(h:Instr.findNow (.int q) (.int q x) l.toList 0=some r)(he:es=l:=by kernel_rfl) : Instr.findNow (.int q) (.int q x) es.toList 0=some r:=he▸h
theorem DM{es:Array MapEntry}{q:IntKind}{x:Int}(l:Array MapEntry)(h:Instr.findNow (.int q) (.int q x) l.toList 0=some none)(he:es=l:=by kernel_rfl) : Instr.findNow (.int q) (.int q x) es.toList 0=some none:=he▸h
theorem p8{ty:TypeId}{m k:Operand}{c:Bool}{r:Nat}{es:Array MapEntry}{clk:Nat}(B:w.heap[r]? = some (.map es clk))(x:Int)(z:Value)(res:Option (Nat × Value))(h:K (pt d (if c then .tuple #[(res.map (·.2)).getD z,.bool res.isSome] else (res.map (·.2)).getD z) F) w)
    (hf:Instr.findNow (.int (mc P ty)) (.int (mc P ty) x) es.toList 0=some res:=by kernel_rfl) (hq:(oU P ty).isSome=true:=by kernel_rfl) (hm:eg F m=some (.map (some r)):=by kernel_rfl) (hk:eg F k=some (.int (mc P ty) x):=by kernel_rfl) (hs:eU n d=true:=by kernel_rfl)
    (hz:(zeroValue (Bj P ty)).run P w = .ok z w:=by kernel_rfl) : OG P ⟨d,.lookup ty m k c,t,s,af,gu⟩ n D F w K Q:=by
  obtain⟨kt,h1,h2⟩:=jk (l0 hq)
  exact⟨fun a ha K' hK=>tF x z res _ rfl rfl h1 h2 (ha.ev hm) B (ha.ev hk) hz hf rfl (hK _ _ _ h (ha.put hs))⟩
def pE (P:Program)(ty:TypeId) : Option TypeId:=match P.underlying ty with | some (.slice e)=>some e | _=>none
theorem ep{ty e:TypeId}(h:pE P ty=some e) : P.underlying ty=some (.slice e):=by
  unfold pE at h
  split at h
  · rename_i e' he;rw[he];simpa using h
  · cases h
def Bw (F:Fr)(x:Operand) : Option (Option Addr × Nat):=match eg F x with | some (.slice A m _)=>some (A,m) | _=>none
def A8 (F:Fr)(x:Operand) : Option Int:=match eg F x with | some (.int _ i)=>some i | _=>none
theorem rl{x:Operand}{A:Option Addr}{m:Nat}(h:Bw F x=some (A,m)) : ∃ c,eg F x=some (.slice A m c):=by
  unfold Bw at h
  split at h
  · rename_i A' m' c he
    simp only[Option.some.injEq,Prod.mk.injEq] at h
    exact⟨c,by rw[he,h.1,h.2]⟩
  · cases h
theorem na{x:Operand}{i:Int}(h:A8 F x=some i) : ∃ k,eg F x=some (.int k i):=by
  unfold A8 at h
  split at h
  · rename_i k i' he
    exact⟨k,by rw[he];simpa using h⟩
  · cases h
theorem CZ{ty:TypeId}{x ix:Operand}{b off:Nat}(sz m j:Nat)(i:Int)(hj:i=j){A:Option Addr}(hA:A=some ⟨b,off,none⟩)(hlt:j<m)(h:K (pt d (.pointer (some ⟨b,off+j*sz,none⟩)) F) w)
    (hx:Bw F x=some (A,m):=by kernel_rfl) (hi:A8 F ix=some i:=by kernel_rfl) (hs:(((pE P ty).bind P.info?).map (·.size),eU n d)=(some sz,true):=by kernel_rfl) : OG P ⟨d,.indexAddr ty x ix,t,s,af,gu⟩ n D F w K Q:=by
  simp only[Prod.mk.injEq] at hs
  obtain⟨c,hx⟩:=rl hx
  obtain⟨k,hi⟩:=na hi
  cases he:pE P ty with
  | none=>rw[he] at hs;simp at hs
  | some e =>
    rw[he] at hs
    exact⟨fun a ha K' hK=>C6 sz rfl rfl (ep he) hs.1 (ha.ev hx) (ha.ev hi) hj hlt hA (hK _ _ _ h (ha.put hs.2))⟩
theorem jC{ty:TypeId}{x ix:Operand}{b off:Nat}(sz m j:Nat){A:Option Addr}(hA:A=some ⟨b,off,none⟩)(hlt:j<m)(h:K (pt d (.pointer (some ⟨b,off+j*sz,none⟩)) F) w)
    (hx:Bw F x=some (A,m):=by kernel_rfl) (hi:A8 F ix=some (j:Int):=by kernel_rfl) (hs:(((pE P ty).bind P.info?).map (·.size),eU n d)=(some sz,true):=by kernel_rfl) : OG P ⟨d,.indexAddr ty x ix,t,s,af,gu⟩ n D F w K Q:=CZ sz m j _ rfl hA hlt h hx hi hs
theorem EL{ty:TypeId}{x ix:Operand}{b off:Nat}(m j:Nat)(i:Int)(hj:i=j){A:Option Addr}(hA:A=some ⟨b,off,none⟩)(hlt:j<m)(h:K (pt d (.pointer (some ⟨b,off+j,none⟩)) F) w)
    (hx:Bw F x=some (A,m):=by kernel_rfl) (hi:A8 F ix=some i:=by kernel_rfl) (hs:(((pE P ty).bind P.info?).map (·.size),eU n d)=(some 1,true):=by kernel_rfl) : OG P ⟨d,.indexAddr ty x ix,t,s,af,gu⟩ n D F w K Q:=CZ 1 m j _ hj hA hlt (by rwa [Nat.mul_one]) hx hi hs
theorem lW{ty:TypeId}{x ix:Operand}{b off:Nat}(m j:Nat){A:Option Addr}(hA:A=some ⟨b,off,none⟩)(hlt:j<m)(h:K (pt d (.pointer (some ⟨b,off+j,none⟩)) F) w)
    (hx:Bw F x=some (A,m):=by kernel_rfl) (hi:A8 F ix=some (j:Int):=by kernel_rfl) (hs:(((pE P ty).bind P.info?).map (·.size),eU n d)=(some 1,true):=by kernel_rfl) : OG P ⟨d,.indexAddr ty x ix,t,s,af,gu⟩ n D F w K Q:=EL m j _ rfl hA hlt h hx hi hs
theorem EI{α:Type}{R:World→α→List Value→Prop}{enc:α→Value}(hR:AW R enc){ty e:TypeId}{x y:Operand}{base m c b off j:Nat}{A:Option Addr}{xs:List α}(HO:aQ base e 1 R w (.slice A m c) xs)(hA:A=some ⟨b,off,none⟩)(hj:j<xs.length)(v:α)(hv:∀ w,R w v [enc v])
    (h:∀ w',aQ base e 1 R w' (.slice A m c) (xs.set j v)→ay (ob A++[]) w w'→K (pt d undef F) w') (hx:eg F x=some (.pointer (some ⟨b,off+j,none⟩)):=by kernel_rfl) (hy:eg F y=some (enc v):=by kernel_rfl) (hs:((P.info? ty).map (·.size),eU n d)=(some 1,true):=by kernel_rfl) : OG P ⟨d,.store ty x y,t,s,af,gu⟩ n D F w K Q:=by
  simp only[Prod.mk.injEq] at hs
  exact⟨fun a ha K' hK=>BR hR v rfl rfl (ha.ev hx) (ha.ev hy) hv HO hA hj hs.1 fun w' hO hu=>hK _ _ _ (h w' hO hu) (ha.put hs.2)⟩
def nJ (P:Program)(ty:TypeId) : Option (Option Value × Nat × Nat):=((pE P ty).bind P.info?).map fun i=>(i.zero,i.size,i.bytes)
theorem dj{α:Type}{R:World→α→List Value→Prop}{enc:α→Value}(hR:AW R enc){x y:Operand}{e:TypeId}{base m c:Nat}{A:Option Addr}{xs ys:List α}{mm:Md}{e' ty:TypeId}{u:Value}(z:Value)(bytes:Nat)(HO:aQ base e 1 R w (.slice A m c) xs)(HY:aT mm e' 1 R w u ys)
    (hl:xs.length+ys.length≤4194304) (hbase:base≤w.heap.size) (h:∀ A' c' w',aQ base e 1 R w' (.slice A' (xs++ys).length c') (xs++ys)→ay (ob A++[]) w w'→K (pt d (.slice A' (xs++ys).length c') F) w')
    (hx:eg F x=some (.slice A m c):=by kernel_rfl) (hy:eg F y=some u:=by kernel_rfl) (he:pE P ty=some e:=by kernel_rfl) (hs:(nJ P ty,z.cells.size,eU n d&&Nat.ble bytes 65536)=(some (some z,1,bytes),1,true):=by kernel_rfl) : OG P ⟨d,.call { callee:=.builtin .append,args:=#[x,y],argTypes:=#[ty,ty] },t,s,af,gu⟩ n D F w K Q:=by
  simp only[Prod.mk.injEq] at hs
  have h2:=eQ hs.2.2
  exact⟨fun a ha K' hK=>CK hR z bytes rfl rfl (ep he) (by have:=hs.1;unfold nJ at this;rw[he] at this;exact this) hs.2.1 xs (ha.ev hx) HO u ys (ha.ev hy) HY hl (by simpa using h2.2) hbase fun A' c' w' hO hu=>hK _ _ _ (h A' c' w' hO hu) (ha.put h2.1)⟩
theorem mA{α:Type}{R:World→α→List Value→Prop}{x y:Operand}{e:TypeId}{base m c:Nat}{A:Option Addr}{xs ys:List α}{mm:Md}{e' ty:TypeId}{u:Value}(z:Value)(sz bytes:Nat)(HO:aQ base e sz R w (.slice A m c) xs)(HY:aT mm e' sz R w u ys)(hne:0<ys.length)
    (hone:∀ x cs,R w x cs→∀ v,v∈cs→v.oneCell'=true) (hRU:∀ w',ay (ob A++[]) w w'→∀ x cs,R w x cs→R w' x cs)
    (hl:xs.length+ys.length≤4194304) (hbase:base≤w.heap.size) (h:∀ A' c' w',aQ base e sz R w' (.slice A' (xs++ys).length c') (xs++ys)→ay (ob A++[]) w w'→K (pt d (.slice A' (xs++ys).length c') F) w')
    (hx:eg F x=some (.slice A m c):=by kernel_rfl) (hy:eg F y=some u:=by kernel_rfl) (he:pE P ty=some e:=by kernel_rfl) (hs:(nJ P ty,z.cells.size,(eU n d&&Nat.ble bytes 65536)&&Nat.blt 0 sz)=(some (some z,sz,bytes),sz,true):=by kernel_rfl) : OG P ⟨d,.call { callee:=.builtin .append,args:=#[x,y],argTypes:=#[ty,ty] },t,s,af,gu⟩ n D F w K Q:=by
  simp only[Prod.mk.injEq] at hs
  have h2:=eQ hs.2.2
  have h3:=eQ h2.1
  exact⟨fun a ha K' hK=>zN z sz bytes rfl rfl (ep he) (by have:=hs.1;unfold nJ at this;rw[he] at this;exact this) hs.2.1 (by simpa using h2.2) xs (ha.ev hx) HO u ys (ha.ev hy) HY hne hone hRU hl (by simpa using h3.2) hbase fun A' c' w' hO hu=>hK _ _ _ (h A' c' w' hO hu) (ha.put h3.1)⟩
def BW (P : Program) (f : FuncId) : Option (Bool × Bool) := (P.funcs[f]?).map fun fn => (fn.name == "runtime.NumGoroutine", fn.body.isSome)
theorem jU {f : FuncId} (h : BW P f = some (false, true)) : ∃ fn, P.funcs[f]? = some fn ∧ (fn.name == "runtime.NumGoroutine") = false ∧ fn.body.isSome = true := by
  obtain⟨fn,h1,h2⟩:=Option.map_eq_some_iff.1 h
  simp only[Prod.mk.injEq] at h2
  exact⟨fn,h1,h2.1,h2.2⟩
theorem lK{a:Act}(ha:Ag n D F a) : ∀ {l:List Operand}{vs:List Value},l.map (eg F)=vs.map some→l.map a.eval=vs
  | [],vs,h=>by cases vs with | nil=>rfl | cons _ _=>cases h
  | x :: l,vs,h=>by
    cases vs with
    | nil=>cases h
    | cons v vs =>
      injection h with h1 h2
      simp[ha.ev h1,lK ha h2]
theorem Oc{f:FuncId}{opds:Array Operand}{ts:Array TypeId}{args:Array Value}(h:Calls P f args w fun e w'=>∃ v,e = .returned v∧K (pt d v F) w')
    (ha:opds.toList.map (eg F)=args.toList.map some:=by kernel_rfl) (hf:BW P f=some (false,true):=by kernel_rfl) (hs:eU n d=true:=by kernel_rfl) : OG P ⟨d,.call { callee:=.value (.func f),args:=opds,argTypes:=ts },t,s,af,gu⟩ n D F w K Q:=by
  obtain⟨fn,h1,h2,h3⟩:=jU hf
  exact⟨fun a hag K' hK=>AM args rfl rfl h1 h2 h3 (by apply Array.toList_inj.1;rw[Array.toList_map];exact lK hag ha) (h.mono fun e w' hh=>by
    obtain⟨v,rfl,hk⟩:=hh
    exact⟨v,rfl,hK _ _ _ hk (hag.put hs)⟩)⟩
theorem aG{ops:Array Oper}{rest:List Oper}{f:FuncId}{opds:Array Operand}{ts:Array TypeId}{args:Array Value}(h:Calls P f args w fun e w'=>∃ v,e = .returned v∧(GL P ops Q rest n D) (pt d v F) w')(ha:opds.toList.map (eg F)=args.toList.map some:=by kernel_rfl)(hf:BW P f=some (false,true):=by kernel_rfl)(hs:eU n d=true:=by kernel_rfl) : GL P ops Q (⟨d,.call { callee:=.value (.func f),args:=opds,argTypes:=ts },t,s,af,none⟩ :: rest) n D F w:=L0 (Oc h ha hf hs)
theorem aD{ops:Array Oper}{rest:List Oper}{ty ty':TypeId}{x:Operand}{b:Nat}{cs:Array Value}{fr:Nat × Nat}(B:w.heap[b]? = some (.cells cs ty' fr))(off:Nat)(h:(GL P ops Q rest n D) (pt d (cs.getD off undef) F) w)(hx:eg F x=some (.pointer (some ⟨b,off,none⟩)):=by kernel_rfl)(hs:(fA P ty&&eU n d)=true:=by kernel_rfl)(hl:Nat.blt off cs.size=true:=by kernel_rfl) : GL P ops Q (⟨d,.load ty x,t,s,af,none⟩ :: rest) n D F w:=L0 (iH B off h hx hs hl)
theorem aN{ops:Array Oper}{rest:List Oper}{ty t':TypeId}{x y:Operand}{b:Nat}{cs:Array Value}(B:w.heap[b]? = some (.cells cs t' (0,0)))(vs:Array Value)(h:∀ w',w'.heap[b]? = some (.cells vs t' (0,0))→ay [b] w w'→(GL P ops Q rest n D) (pt d undef F) w')(hz:(P.info? ty).map (·.size)=some vs.size:=by kernel_rfl)(h1:vs.all (·.oneCell')=true:=by kernel_rfl)(hv:vs.size=cs.size:=by kernel_rfl)(hx:eg F x=some (.pointer (some ⟨b,0,none⟩)):=by kernel_rfl)(hy:eg F y=some (.agg vs):=by kernel_rfl)(hs:eU n d=true:=by kernel_rfl) : GL P ops Q (⟨d,.store ty x y,t,s,af,none⟩ :: rest) n D F w:=L0 (rL B vs h hz h1 hv hx hy hs)
theorem aO{ops:Array Oper}{rest:List Oper}{ty:TypeId}(cs:Array Value)(h:∀ g w',w.heap.size≤g→w'.heap[g]? = some (.cells cs ty (0,0))→ay [] w w'→(GL P ops Q rest n D) (pt d (.pointer (some ⟨g,0,none⟩)) F) w')(hz:(P.info? ty).bind (fun i=>i.zero.map (·.cells))=some cs:=by kernel_rfl)(hs:eU n d=true:=by kernel_rfl) : GL P ops Q (⟨d,.alloc ty,t,s,af,none⟩ :: rest) n D F w:=L0 (Bv cs h hz hs)
theorem bD{ops:Array Oper}{rest:List Oper}(x:Int)(h:(GL P ops Q rest n D) (pt d (.int .i64 x) F) w)(hb : -9223372036854775808≤x∧x≤9223372036854775807:=by omega)(hr:(execOp (pn F) ⟨d,op,t,s,af,none⟩).run P w = .ok (.value (.int .i64 (IntKind.i64.wrap x))) w:=by kernel_rfl)(hs:(jY F op&&eU n d)=true:=by kernel_rfl) : GL P ops Q (⟨d,op,t,s,af,none⟩ :: rest) n D F w:=L0 (Oi x h hb hr hs)
theorem gk{f:FuncId}{x:Operand}{opds:Array Operand}{ts:Array TypeId}{args:Array Value}(first cap:Array Value)(h:Calls P f args w fun e w'=>∃ v,e = .returned v∧K (pt d v F) w')
    (hx:eg F x=some (.func (.func f) first cap):=by kernel_rfl) (ha:first.toList.map some++(opds.toList.map (eg F)++cap.toList.map some)=args.toList.map some:=by kernel_rfl) (hf:BW P f=some (false,true):=by kernel_rfl) (hs:eU n d=true:=by kernel_rfl) : OG P ⟨d,.call { callee:=.value x,args:=opds,argTypes:=ts },t,s,af,gu⟩ n D F w K Q:=by
  obtain⟨fn,h1,h2,h3⟩:=jU hf
  have hall:∀ {l:List (Option Value)} {vs:List Value},l=vs.map some→∀ y,y∈l→y.isSome=true:=by
    intro l vs e y hy
    subst e
    obtain⟨v,_,rfl⟩:=List.mem_map.1 hy
    rfl
  refine⟨fun a hag K' hK=>yx first cap args rfl rfl (hag.ev hx) h1 h2 h3 ?_ (h.mono fun e w' hh=>by
    obtain⟨v,rfl,hk⟩:=hh
    exact⟨v,rfl,hK _ _ _ hk (hag.put hs)⟩)⟩
  have hm:opds.toList.map (eg F)=(opds.toList.map a.eval).map some:=by
    rw[List.map_map]
    refine List.map_congr_left fun y hy=>?_
    have:=hall ha (eg F y) (by simp only[List.mem_append,List.mem_map];exact .inr (.inl ⟨y,hy,rfl⟩))
    obtain⟨v,hv⟩:=Option.isSome_iff_exists.1 this
    simp[hag.ev hv,hv]
  rw[hm,← List.map_append,← List.map_append] at ha
  apply Array.toList_inj.1
  have hinj:=(List.map_inj_right (fun x y (h:some x=some y)=>Option.some.inj h)).1 ha
  simpa using hinj
end
section
variable {P:Program}{f:FuncId}{args:Array Value}{w:World}{K:Value→World→Prop}{v:Value}{A1 A2 A3 A4 A5 A6:World→Prop}
theorem mq(h:Calls P f args w fun e w'=>e = .returned v∧w=w')(k:K v w) : Calls P f args w fun e w'=>∃ v,e = .returned v∧K v w':=h.mono fun _ _ ⟨h1,h2⟩=>⟨v,h1,h2▸k⟩
theorem m1(h:Calls P f args w fun e w'=>e = .returned v∧A1 w')(k:∀ w',A1 w'→K v w') : Calls P f args w fun e w'=>∃ v,e = .returned v∧K v w':=h.mono fun _ w' ⟨h0,h1⟩=>⟨_,h0,k w' h1⟩
theorem m2(h:Calls P f args w fun e w'=>e = .returned v∧A1 w'∧A2 w')(k:∀ w',A1 w'→A2 w'→K v w') : Calls P f args w fun e w'=>∃ v,e = .returned v∧K v w':=h.mono fun _ w' ⟨h0,h1,h2⟩=>⟨_,h0,k w' h1 h2⟩
theorem m3(h:Calls P f args w fun e w'=>e = .returned v∧A1 w'∧A2 w'∧A3 w')(k:∀ w',A1 w'→A2 w'→A3 w'→K v w') : Calls P f args w fun e w'=>∃ v,e = .returned v∧K v w':=h.mono fun _ w' ⟨h0,h1,h2,h3⟩=>⟨_,h0,k w' h1 h2 h3⟩
theorem m4(h:Calls P f args w fun e w'=>e = .returned v∧A1 w'∧A2 w'∧A3 w'∧A4 w')(k:∀ w',A1 w'→A2 w'→A3 w'→A4 w'→K v w') : Calls P f args w fun e w'=>∃ v,e = .returned v∧K v w':=h.mono fun _ w' ⟨h0,h1,h2,h3,h4⟩=>⟨_,h0,k w' h1 h2 h3 h4⟩
variable {α β:Type}{V:α→Value}{V2:α→β→Value}{B1 B2 B3 B4 B5 B6:α→World→Prop}{E1 E2 E3 E4 E5 E6 E7:α→β→World→Prop}
theorem e1(h:Calls P f args w fun e w'=>∃ x,e = .returned (V x)∧B1 x w')(k:∀ x w',B1 x w'→K (V x) w') : Calls P f args w fun e w'=>∃ v,e = .returned v∧K v w':=h.mono fun _ w' ⟨x,h0,h1⟩=>⟨_,h0,k x w' h1⟩
theorem e2(h:Calls P f args w fun e w'=>∃ x,e = .returned (V x)∧B1 x w'∧B2 x w')(k:∀ x w',B1 x w'→B2 x w'→K (V x) w') : Calls P f args w fun e w'=>∃ v,e = .returned v∧K v w':=h.mono fun _ w' ⟨x,h0,h1,h2⟩=>⟨_,h0,k x w' h1 h2⟩
theorem e3(h:Calls P f args w fun e w'=>∃ x,e = .returned (V x)∧B1 x w'∧B2 x w'∧B3 x w')(k:∀ x w',B1 x w'→B2 x w'→B3 x w'→K (V x) w') : Calls P f args w fun e w'=>∃ v,e = .returned v∧K v w':=h.mono fun _ w' ⟨x,h0,h1,h2,h3⟩=>⟨_,h0,k x w' h1 h2 h3⟩
theorem e4(h:Calls P f args w fun e w'=>∃ x,e = .returned (V x)∧B1 x w'∧B2 x w'∧B3 x w'∧B4 x w')(k:∀ x w',B1 x w'→B2 x w'→B3 x w'→B4 x w'→K (V x) w') : Calls P f args w fun e w'=>∃ v,e = .returned v∧K v w':=h.mono fun _ w' ⟨x,h0,h1,h2,h3,h4⟩=>⟨_,h0,k x w' h1 h2 h3 h4⟩
theorem e5(h:Calls P f args w fun e w'=>∃ x,e = .returned (V x)∧B1 x w'∧B2 x w'∧B3 x w'∧B4 x w'∧B5 x w')(k:∀ x w',B1 x w'→B2 x w'→B3 x w'→B4 x w'→B5 x w'→K (V x) w') : Calls P f args w fun e w'=>∃ v,e = .returned v∧K v w':=h.mono fun _ w' ⟨x,h0,h1,h2,h3,h4,h5⟩=>⟨_,h0,k x w' h1 h2 h3 h4 h5⟩
theorem e6(h:Calls P f args w fun e w'=>∃ x,e = .returned (V x)∧B1 x w'∧B2 x w'∧B3 x w'∧B4 x w'∧B5 x w'∧B6 x w')(k:∀ x w',B1 x w'→B2 x w'→B3 x w'→B4 x w'→B5 x w'→B6 x w'→K (V x) w') : Calls P f args w fun e w'=>∃ v,e = .returned v∧K v w':=h.mono fun _ w' ⟨x,h0,h1,h2,h3,h4,h5,h6⟩=>⟨_,h0,k x w' h1 h2 h3 h4 h5 h6⟩
theorem Bz(h:Calls P f args w fun e w'=>∃ x y,e = .returned (V2 x y)∧E1 x y w'∧E2 x y w')(k:∀ x y w',E1 x y w'→E2 x y w'→K (V2 x y) w') : Calls P f args w fun e w'=>∃ v,e = .returned v∧K v w':=h.mono fun _ w' ⟨x,y,h0,h1,h2⟩=>⟨_,h0,k x y w' h1 h2⟩
theorem D8(h:Calls P f args w fun e w'=>∃ x y,e = .returned (V2 x y)∧E1 x y w'∧E2 x y w'∧E3 x y w')(k:∀ x y w',E1 x y w'→E2 x y w'→E3 x y w'→K (V2 x y) w') : Calls P f args w fun e w'=>∃ v,e = .returned v∧K v w':=h.mono fun _ w' ⟨x,y,h0,h1,h2,h3⟩=>⟨_,h0,k x y w' h1 h2 h3⟩
theorem Fv(h:Calls P f args w fun e w'=>∃ x y,e = .returned (V2 x y)∧E1 x y w'∧E2 x y w'∧E3 x y w'∧E4 x y w')(k:∀ x y w',E1 x y w'→E2 x y w'→E3 x y w'→E4 x y w'→K (V2 x y) w') : Calls P f args w fun e w'=>∃ v,e = .returned v∧K v w':=h.mono fun _ w' ⟨x,y,h0,h1,h2,h3,h4⟩=>⟨_,h0,k x y w' h1 h2 h3 h4⟩
theorem CB(h:Calls P f args w fun e w'=>∃ x y,e = .returned (V2 x y)∧E1 x y w'∧E2 x y w'∧E3 x y w'∧E4 x y w'∧E5 x y w'∧E6 x y w')(k:∀ x y w',E1 x y w'→E2 x y w'→E3 x y w'→E4 x y w'→E5 x y w'→E6 x y w'→K (V2 x y) w') : Calls P f args w fun e w'=>∃ v,e = .returned v∧K v w':=h.mono fun _ w' ⟨x,y,h0,h1,h2,h3,h4,h5,h6⟩=>⟨_,h0,k x y w' h1 h2 h3 h4 h5 h6⟩
theorem F4(h:Calls P f args w fun e w'=>∃ x y,e = .returned (V2 x y)∧E1 x y w'∧E2 x y w'∧E3 x y w'∧E4 x y w'∧E5 x y w'∧E6 x y w'∧E7 x y w')(k:∀ x y w',E1 x y w'→E2 x y w'→E3 x y w'→E4 x y w'→E5 x y w'→E6 x y w'→E7 x y w'→K (V2 x y) w') : Calls P f args w fun e w'=>∃ v,e = .returned v∧K v w':=h.mono fun _ w' ⟨x,y,h0,h1,h2,h3,h4,h5,h6,h7⟩=>⟨_,h0,k x y w' h1 h2 h3 h4 h5 h6 h7⟩
variable {γ:Type}{mm:Md}{base:Nat}{te:TypeId}{sz:Nat}{RR:World→γ→List Value→Prop}{xs:List γ}{C1 C2 C3 C4:Value→World→Prop}{U:Value→Value}
theorem fC(h:Calls P f args w fun e w'=>∃ v,e = .returned (U v)∧aQ base te sz RR w' v xs∧C1 v w')(k:∀ A c w',aQ base te sz RR w' (.slice A xs.length c) xs→xs.length≤c→c≤maxLen→C1 (.slice A xs.length c) w'→K (U (.slice A xs.length c)) w') : Calls P f args w fun e w'=>∃ v,e = .returned v∧K v w':=h.mono fun _ w' ⟨v,h0,hO,h1⟩=>by
  obtain⟨A,c,rfl,h5,h6⟩:=hO.rd.shape
  exact⟨_,h0,k A c w' hO h5 h6 h1⟩
theorem tS(h:Calls P f args w fun e w'=>∃ v,e = .returned (U v)∧aQ base te sz RR w' v xs∧C1 v w'∧C2 v w')(k:∀ A c w',aQ base te sz RR w' (.slice A xs.length c) xs→xs.length≤c→c≤maxLen→C1 (.slice A xs.length c) w'→C2 (.slice A xs.length c) w'→K (U (.slice A xs.length c)) w') : Calls P f args w fun e w'=>∃ v,e = .returned v∧K v w':=h.mono fun _ w' ⟨v,h0,hO,h1,h2⟩=>by
  obtain⟨A,c,rfl,h5,h6⟩:=hO.rd.shape
  exact⟨_,h0,k A c w' hO h5 h6 h1 h2⟩
theorem w6(h:Calls P f args w fun e w'=>∃ v,e = .returned (U v)∧aT mm te sz RR w' v xs∧C1 v w'∧C2 v w')(k:∀ A c w',aT mm te sz RR w' (.slice A xs.length c) xs→xs.length≤c→c≤maxLen→C1 (.slice A xs.length c) w'→C2 (.slice A xs.length c) w'→K (U (.slice A xs.length c)) w') : Calls P f args w fun e w'=>∃ v,e = .returned v∧K v w':=h.mono fun _ w' ⟨v,h0,hO,h1,h2⟩=>by
  obtain⟨A,c,rfl,h5,h6⟩:=hO.shape
  exact⟨_,h0,k A c w' hO h5 h6 h1 h2⟩
end
structure GA (P:Program) (ops:Array Oper) (Q:Exit→Act→World→Prop) (S:World→Prop) (fuel:Nat) (l:Array Bool) (n:Nat) (D:List Deferred) (F:Fr) (w:World) : Prop where
  out:∀ a,Ag n D F a→WA P ops Q S fuel l a w
structure GH (P:Program) (ops:Array Oper) (Q:Exit→Act→World→Prop) (S:World→Prop) (fuel:Nat) (l:Array Bool) (n:Nat) (D:List Deferred) (F:Fr) (w:World) : Prop where
  s:S w
  out:GA P ops Q S fuel l n D F w
section
variable {P:Program}{Q:Exit→Act→World→Prop}{n:Nat}{D:List Deferred}{F:Fr}{w:World}{ops:Array Oper}{S:World→Prop}{fuel:Nat}{l:Array Bool}{id:Nat}
theorem bi(hS:S w)(h:S w→GA P ops Q S fuel l n D F w) : GH P ops Q S fuel l n D F w:=⟨hS,h hS⟩
theorem Rg(k:Nat)(S:World→Prop)(h:∀ w',ay [] w w'→GH P ops Q S k (Array.replicate k false) n D F w')(hn:ops.size=k:=by kernel_rfl)(hm:P.follows .mixedOrders=true:=by kernel_rfl) : GC P (.region id ops true) Q n D F w:=by
  subst hn
  exact⟨fun a ha=>Fx S _ hm rfl rfl fun w' hu=>⟨(h w' hu).s,(h w' hu).out.out a ha⟩⟩
theorem R0(i:Nat){o:Oper}(hi:ops[i]? = some o)(h:OG P o n D F w (GH P ops Q S fuel (l.setIfInBounds i true) n D) Q)(hc:(Region.ready .any ops l==[i])=true:=by kernel_rfl)(hw:n8 ops F o.guard=(true,true):=by kernel_rfl) : GA P ops Q S (fuel+1) l n D F w :=
  ⟨fun a ha=>Fq (l.setIfInBounds i true) hi (by simp only[CO,hc,Bool.true_and];simp) (fU ha hw) (h.out a ha _ fun F' w' a' k ha'=>⟨k.s,k.out.out a' ha'⟩)⟩
theorem Fh(i:Nat){o:Oper}(hi:ops[i]? = some o)(h:OG P o n D F w (GA P ops Q S fuel (l.setIfInBounds i true) n D) Q)(hc:(Region.ready .any ops l==[i])=true:=by kernel_rfl)(hz:tl ops i=false:=by kernel_rfl)(hw:n8 ops F o.guard=(true,true):=by kernel_rfl) : GA P ops Q S (fuel+1) l n D F w :=
  ⟨fun a ha=>Fa (l.setIfInBounds i true) hi (by simp only[CO,hc,Bool.true_and];simp) hz (fU ha hw) (h.out a ha _ fun F' w' a' k ha'=>k.out a' ha')⟩
theorem R2(i j:Nat){o o':Oper}(hi:ops[i]? = some o)(hj:ops[j]? = some o')(h1:OG P o n D F w (GH P ops Q S fuel (l.setIfInBounds i true) n D) Q)(h2:OG P o' n D F w (GH P ops Q S fuel (l.setIfInBounds j true) n D) Q)(hc:(Region.ready .any ops l==[i,j])=true:=by kernel_rfl)
    (hw:(n8 ops F o.guard,n8 ops F o'.guard)=((true,true),(true,true)):=by kernel_rfl) : GA P ops Q S (fuel+1) l n D F w:=by
  simp only[Prod.mk.injEq] at hw
  exact⟨fun a ha=>DT _ _ hi hj hc rfl rfl (fU ha hw.1) (fU ha hw.2) (h1.out a ha _ fun F' w' a' k ha'=>⟨k.s,k.out.out a' ha'⟩) (h2.out a ha _ fun F' w' a' k ha'=>⟨k.s,k.out.out a' ha'⟩)⟩
def ib (ops:Array Oper)(i:Nat) : Oper:=(ops[i]?).getD default
def BL (ops:Array Oper)(l:Array Bool)(i:Nat) : Bool:=(ops[i]?).isSome&&(wt ops l i&&Region.noSelect ops&&Region.free .any ops l i&&(Region.ready .any ops l).contains i)
theorem qB{i:Nat}(h:BL ops l i=true) : ops[i]? = some (ib ops i)∧CS ops l (l.setIfInBounds i true) i=true:=by
  have:=eQ h
  obtain⟨o,ho⟩:=Option.isSome_iff_exists.1 this.1
  have h2:=this.2
  simp only[Bool.and_eq_true] at h2
  exact⟨by simp[ib,ho],by simp only[CS,D5,h2.1.1.1,h2.1.1.2,h2.1.2,h2.2,Bool.true_and,Bool.and_true];simp⟩
theorem Rr(i:Nat)(hS:S w)(v:Value)(hy:∀ w',S w'→(execOp (pn F) (ib ops i)).run P w' = .ok (.value v) w')(h:GA P ops Q S fuel (l.setIfInBounds i true) n D (pt (ib ops i).dst v F) w)
    (hc:((BL ops l i,n8 ops F (ib ops i).guard),(eU n (ib ops i).dst&&jY F (ib ops i).op))=((true,(true,true)),true):=by kernel_rfl) (hQ:∀ c a w,Q (.panic c) (a.put (ib ops i).dst v) w→Q (.panic c) a w:=by exact fun _ _ _ h=>h) : GA P ops Q S (fuel+1) l n D F w:=by
  simp only[Prod.mk.injEq] at hc
  obtain⟨h1,h2⟩:=qB hc.1.1
  have h3:=eQ hc.2
  exact⟨fun a ha=>DI v _ h1 rfl h2 hQ (fU ha hc.1.2) (fun w' hs=>by rw[← j9 ha h3.2];exact hy w' hs) hS (h.out _ (ha.put h3.1))⟩
theorem Rt(i:Nat)(hS:S w)(h:GA P ops Q S fuel (l.setIfInBounds i true) n D (pt (ib ops i).dst (vo P w F (ib ops i)) F) w)(hy:∀ w',(execOp (pn F) (ib ops i)).run P w' = .ok (.value (vo P w F (ib ops i))) w':=by intro _;kernel_rfl)
    (hc:((BL ops l i,n8 ops F (ib ops i).guard),(eU n (ib ops i).dst&&jY F (ib ops i).op))=((true,(true,true)),true):=by kernel_rfl) (hQ:∀ c a w',Q (.panic c) (a.put (ib ops i).dst (vo P w F (ib ops i))) w'→Q (.panic c) a w':=by exact fun _ _ _ h=>h) : GA P ops Q S (fuel+1) l n D F w:=by
  simp only[Prod.mk.injEq] at hc
  obtain⟨h1,h2⟩:=qB hc.1.1
  have h3:=eQ hc.2
  exact⟨fun a ha=>DI _ _ h1 rfl h2 (fun c a w' q=>by exact hQ c a w' q) (fU ha hc.1.2) (fun w' hs=>by rw[← j9 ha h3.2];exact hy w') hS (h.out _ (ha.put h3.1))⟩
theorem Ro(i:Nat)(hS:S w)(h:GA P ops Q S fuel (l.setIfInBounds i true) n D (pt (ib ops i).dst undef F) w)(hc:((BL ops l i,n8 ops F (ib ops i).guard),eU n (ib ops i).dst)=((true,(true,false)),true):=by kernel_rfl)
    (hQ:∀ c a w,Q (.panic c) (a.put (ib ops i).dst undef) w→Q (.panic c) a w:=by exact fun _ _ _ h=>h) : GA P ops Q S (fuel+1) l n D F w:=by
  simp only[Prod.mk.injEq] at hc
  obtain⟨h1,h2⟩:=qB hc.1.1
  exact⟨fun a ha=>Er _ h1 rfl h2 (fun c a w' q=>by exact hQ c a w' q) (fU ha hc.1.2) hS (h.out _ (ha.put hc.2))⟩
def EQ (P:Program)(F:Fr)(o:Oper) : Option Value × Bool:=match o.op with
  | .load ty x=>(eg F x,fA P ty)
  | _=>(none,false)
theorem Rl(i:Nat)(hS:S w){p:Addr}{v:Value}(hl:∀ w',S w'→w'.cell? p=some v)(h:GA P ops Q S fuel (l.setIfInBounds i true) n D (pt (ib ops i).dst v F) w)(hx:EQ P F (ib ops i)=(some (.pointer (some p)),true):=by kernel_rfl)
    (hc:((BL ops l i,n8 ops F (ib ops i).guard),(eU n (ib ops i).dst&&jY F (ib ops i).op))=((true,(true,true)),true):=by kernel_rfl) (hQ:∀ c a w,Q (.panic c) (a.put (ib ops i).dst v) w→Q (.panic c) a w:=by exact fun _ _ _ h=>h) : GA P ops Q S (fuel+1) l n D F w:=by
  simp only[Prod.mk.injEq] at hc
  obtain⟨h1,h2⟩:=qB hc.1.1
  have h3:=eQ hc.2
  obtain⟨ty,x,h4,h5,h6⟩ : ∃ ty x,(ib ops i).op = .load ty x∧eg F x=some (.pointer (some p))∧fA P ty=true:=by
    unfold EQ at hx
    split at hx
    · rename_i ty x hop
      simp only[Prod.mk.injEq] at hx
      exact⟨ty,x,hop,hx.1,hx.2⟩
    · simp at hx
  exact⟨fun a ha=>DI v _ h1 rfl h2 hQ (fU ha hc.1.2) (fun w' hs=>xp h4 (ha.ev h5) h6 (hl w' hs)) hS (h.out _ (ha.put h3.1))⟩
theorem re(h:GQ Q .normal n D F w)(hr:(Region.ready .any ops l==[])=true:=by kernel_rfl) : GA P ops Q S fuel l n D F w:=⟨fun a ha=>Ew hr (h.out a ha)⟩
theorem zv(j:Nat)(e:Bool)(ht:e=true→GA P ops Q S fuel l n D ((j,.bool true) :: F) w)(hf:e=false→GA P ops Q S fuel l n D ((j,.bool false) :: F) w)(hv:lk F j=some (.bool e):=by kernel_rfl) : GA P ops Q S fuel l n D F w:=by
  refine⟨fun a ha=>?_⟩
  have key:∀ b,e=b→Ag n D ((j,.bool b) :: F) a:=fun b hb=>⟨ha.sz,ha.df,fun i v hi=>by
    rcases ik hi with⟨rfl,rfl⟩|⟨_,h2⟩
    · rw[← hb];exact ha.at_ _ _ hv
    · exact ha.at_ _ _ h2⟩
  rcases hY e with q|q
  · exact(ht q).out a (key _ q)
  · exact(hf q).out a (key _ q)
end
def DR (rs:Array ResultVar)(F:Fr) : Option Value:=match rs.toList with
  | []=>some (.tuple #[])
  | [.tmp i]=>lk F i
  | [.tmp i,.tmp j]=>(lk F i).bind fun u=>(lk F j).map fun v=>.tuple #[u,v]
  | [.tmp i,.tmp j,.tmp k]=>(lk F i).bind fun u=>(lk F j).bind fun v=>(lk F k).map fun x=>.tuple #[u,v,x]
  | _=>none
section
variable {P:Program}{n:Nat}{F:Fr}{w:World}{D:List Deferred}{fn:Func}{R:Ending→World→Prop}
theorem tH{a:Act}(ha:Ag n D F a){v:Value}(h:DR fn.results F=some v) : (results fn a.tmps).run P w = .ok v w:=by
  obtain⟨rs,hrs⟩ : ∃ rs,fn.results=rs:=⟨_,rfl⟩
  rw[hrs] at h
  have hg:∀ {i v},lk F i=some v→a.tmps[i]?.getD undef=v:=fun h=>by rw[ha.at_ _ _ h];rfl
  obtain⟨l⟩:=rs
  unfold DR at h
  simp only at h
  split at h
  · simp[results,hrs]
    simpa using h
  · simp[results,hrs,hg h]
  · obtain⟨u,h1,h2⟩:=Option.bind_eq_some_iff.1 h
    obtain⟨x,h3,rfl⟩:=Option.map_eq_some_iff.1 h2
    simp[results,hrs,hg h1,hg h3]
  · obtain⟨u,h1,h2⟩:=Option.bind_eq_some_iff.1 h
    obtain⟨x,h3,h4⟩:=Option.bind_eq_some_iff.1 h2
    obtain⟨y,h5,rfl⟩:=Option.map_eq_some_iff.1 h4
    simp[results,hrs,hg h1,hg h3,hg h5]
  · cases h
theorem rr(v:Value)(h:R (.returned v) w)(hv:DR fn.results F=some v:=by kernel_rfl) : GQ (bodyPost P fn R) .ret n [] F w:=⟨fun a ha=>Cn v (tH ha hv) ha.df h⟩
theorem rm(v:Value)(h:R (.returned v) w)(hv:DR fn.results F=some v:=by kernel_rfl) : GQ (bodyPost P fn R) .normal n [] F w:=⟨fun a ha=>C7 v (tH ha hv) ha.df h⟩
def CN (P:Program)(rs:Array ResultVar)(F:Fr) : Option (Option Value × Option Value × Option Bool × Option Nat):=match rs.toList with
  | [.cell p ty,.tmp q]=>some (lk F p,lk F q,(P.underlying ty).map fun d=>(match d with | .struct _ | .array _ _=>true | _=>false),(P.info? ty).map (·.size))
  | _=>none
def Bi (P:Program)(rs:Array ResultVar)(F:Fr) : Option (Option Value × Option Bool × Option Nat):=match rs.toList with
  | [.cell p ty]=>some (lk F p,(P.underlying ty).map fun d=>(match d with | .struct _ | .array _ _=>true | _=>false),(P.info? ty).map (·.size))
  | _=>none
theorem lV{a:Act}(ha:Ag n D F a){g:Nat}{cs:Array Value}{t:TypeId}{fr:Nat × Nat}{k:Nat}{u:Value}(B:w.heap[g]? = some (.cells cs t fr))(hz:some k=some cs.size)(hc:CN P fn.results F=some (some (.pointer (some ⟨g,0,none⟩)),some u,some true,some k)) :
    (results fn a.tmps).run P w = .ok (.tuple #[.agg cs,u]) w:=by
  obtain⟨rs,hrs⟩ : ∃ rs,fn.results=rs:=⟨_,rfl⟩
  rw[hrs] at hc
  obtain⟨l⟩:=rs
  unfold CN at hc
  simp only at hc
  split at hc
  · simp only[Option.some.injEq,Prod.mk.injEq] at hc
    obtain⟨h1,h2,h3,h4⟩:=hc
    obtain⟨dd,h5,h6⟩:=Option.map_eq_some_iff.1 h3
    have h7:=kQ (P:=P) hrs a.tmps w g t cs fr dd (by simp[ha.at_ _ _ h1]) B h5 (by cases dd<;>first | rfl | exact h6) (h4.trans hz)
    have h8:=ha.at_ _ _ h2
    rw[h7]
    simp[h8]
  · cases hc
theorem eA{g:Nat}{cs:Array Value}{t:TypeId}{fr:Nat × Nat}(B:w.heap[g]? = some (.cells cs t fr))(u:Value)(h:R (.returned (.tuple #[.agg cs,u])) w)(hc:CN P fn.results F=some (some (.pointer (some ⟨g,0,none⟩)),some u,some true,some cs.size):=by kernel_rfl) : GQ (bodyPost P fn R) .ret n [] F w :=
  ⟨fun a ha=>bodyPost_ret (lV ha B rfl hc) ha.df h⟩
theorem Dv{g:Nat}{cs:Array Value}{t:TypeId}{fr:Nat × Nat}{k:Nat}(B:w.heap[g]? = some (.cells cs t fr))(h:R (.returned (.agg cs)) w)(hz:some k=some cs.size)(hc:Bi P fn.results F=some (some (.pointer (some ⟨g,0,none⟩)),some true,some k)) : GQ (bodyPost P fn R) .ret n [] F w:=by
  obtain⟨rs,hrs⟩ : ∃ rs,fn.results=rs:=⟨_,rfl⟩
  rw[hrs] at hc
  obtain⟨l⟩:=rs
  unfold Bi at hc
  simp only at hc
  split at hc
  · simp only[Option.some.injEq,Prod.mk.injEq] at hc
    obtain⟨h1,h3,h4⟩:=hc
    obtain⟨dd,h5,h6⟩:=Option.map_eq_some_iff.1 h3
    refine⟨fun a ha=>bodyPost_ret ?_ ha.df h⟩
    have hp:=ha.at_ _ _ h1
    simp[results,hrs,hp,asAddr,run_loadVar_row w g t _ cs fr dd B h5 (by cases dd<;>first | rfl | exact h6) (h4.trans hz)]
  · cases hc
end
section
variable {S:List Nat}{a b c w w':World}{x y:Nat}{o:Go.Obj}
theorem lr{n:Nat}:n≤n:=Nat.le_refl _
theorem le{i j k:Nat}(h:i≤j)(h2:j≤k) : i≤k:=Nat.le_trans h h2
theorem im(h:x∈S:=by simp) : x∈S∨a.heap.size≤x:=.inl h
theorem il{A:Option Addr}(h:∀ x,x∈ob A→x∈S:=by intro x hx;simp[hx]) : ∀ x,x∈ob A→x∈S∨a.heap.size≤x:=fun x hx=>.inl (h x hx)
theorem nr(h:a.heap.size≤x) : x∈S∨a.heap.size≤x:=.inr h
theorem ni(h:a.heap.size≤y)(h2:y≤x) : x∈S∨a.heap.size≤x:=.inr (Nat.le_trans h h2)
theorem ac{p:Nat→Prop}{a:Nat}{S:List Nat}(h:p a)(k:∀ x,x∈S→p x) : ∀ x,x∈a :: S→p x:=all_cons h k
theorem ut{S':List Nat}(h:ay S a b)(k:ay S' b c)(hS:∀ x,x∈S'→x∈S∨a.heap.size≤x) : ay S a c:=h.trans' k hS
theorem u1(h:ay S a b)(k:ay [x] b c)(hx:x∈S∨a.heap.size≤x) : ay S a c:=h.trans' k fun y hy=>by simp at hy;subst hy;exact hx
theorem uz(h:ay [] a b)(k:ay S b c) : ay S a c:=(h.mono fun _ hx=>by cases hx).trans' k fun _ hy=>.inl hy
theorem ud(h:ay [] a b)(k:ay (x :: S) b c)(hx:a.heap.size≤x) : ay S a c:=(h.mono fun _ hx=>by cases hx).trans' k fun _ hy=>(List.mem_cons.1 hy).elim (fun e=>.inr (e▸hx)) .inl
theorem ue(h:ay [] a b)(k:ay (y :: x :: S) b c)(hx:a.heap.size≤x) : ay (y :: S) a c:=(h.mono fun _ hx=>by cases hx).trans' k fun _ hy=>(List.mem_cons.1 hy).elim (fun e=>.inl (e▸List.mem_cons_self ..)) fun hy=>(List.mem_cons.1 hy).elim (fun e=>.inr (e▸hx)) fun hy=>.inl (List.mem_cons_of_mem _ hy)
theorem us(h:ay [x] a b)(k:ay S b c) : ay (x :: S) a c:=(h.mono fun _ hy=>.inl (by rw[List.mem_singleton] at hy;rw[hy];exact List.mem_cons_self ..)).trans' k fun _ hy=>.inl (List.mem_cons_of_mem _ hy)
theorem ui(h:ay [x] a b)(k:ay S b c)(hx:x∈S:=by simp) : ay S a c:=(h.mono fun _ hy=>.inl (by rw[List.mem_singleton] at hy;rw[hy];exact hx)).trans' k fun _ hy=>.inl hy
theorem ub(h:ay [] w w')(B:w.heap[x]? = some o) : w'.heap[x]? = some o:=h.blk (by simp) B
theorem bf(h:ay [y] w w')(hn:x≠y)(B:w.heap[x]? = some o) : w'.heap[x]? = some o:=h.blk (by simpa using hn) B
theorem nb{i j k l:Nat}(h:i<j)(h2:j≤k)(h3:k≤l) : i≠l:=by omega
theorem gT:(∀ {α:Type}(a:α),(a=a)=True)∧(∀ p,(True∨p)=True)∧(∀ p,(p∨True)=True)∧(∀ p,(p∨False)=p)∧(∀ p,(False∨p)=p):=⟨eq_self,true_or,or_true,or_false,false_or⟩
theorem co:(∀ {α:Type}(a b:List α),(a++b).length=a.length+b.length)∧(∀ {α:Type}(a:α)(b:List α),(a :: b).length=b.length+1)∧(∀ {α:Type},([] : List α).length=0):=⟨fun a b=>List.length_append,fun a b=>List.length_cons,List.length_nil⟩
theorem bs:((∀ b,(true&&b)=b)∧(∀ b,(false&&b)=false)∧(∀ b,(b&&true)=b)∧(∀ b,(b&&false)=false))∧((∀ b,(true || b)=true)∧(∀ b,(false || b)=b)∧(∀ b,(b || true)=true)∧(∀ b,(b || false)=b))∧((!true)=false∧(!false)=true∧((false=true)=False)):=by
  refine⟨⟨?_,?_,?_,?_⟩,⟨?_,?_,?_,?_⟩,?_,?_,?_⟩<;>simp
theorem bC:(((∀ b,(true&&b)=b)∧(∀ b,(false&&b)=false)∧(∀ b,(b&&true)=b)∧(∀ b,(b&&false)=false))∧((∀ b,(true || b)=true)∧(∀ b,(false || b)=b)∧(∀ b,(b || true)=true)∧(∀ b,(b || false)=b))∧((!true)=false∧(!false)=true∧((false=true)=False)))∧(∀ {α:Type}{h:Decidable True}(a b:α),@ite α True h a b=a)∧(∀ {α:Type}{h:Decidable False}(a b:α),@ite α False h a b=b)∧(∀ {h:Decidable True},@decide True h=true)∧(∀ {h:Decidable False},@decide False h=false):=⟨bs,fun a b=>if_pos trivial,fun a b=>if_neg id,by simp,by simp⟩
end
section
variable {P:Program}{Q:Exit→Act→World→Prop}{n:Nat}{D:List Deferred}{F:Fr}{w:World}{K:Fr→World→Prop}{d:Option Tmp}{t:TypeId}{s:String}{af:Array Edge}{gu:Option (Nat × Bool)}
theorem wb{ty ty':TypeId}{x:Operand}{b off:Nat}{cs:Array Value}{fr:Nat × Nat}(sub:List Value)(B:w.heap[b]? = some (.cells cs ty' fr))(hs:(cs.toList.drop off).take sub.length=sub)(h:K (pt d (.agg sub.toArray) F) w)(hx:eg F x=some (.pointer (some ⟨b,off,none⟩)):=by kernel_rfl)
    (hc:((P.underlying ty).map (·.isRow),(P.info? ty).map (·.size),eU n d)=(some true,some sub.length,true):=by kernel_rfl) : OG P ⟨d,.load ty x,t,s,af,gu⟩ n D F w K Q:=by
  simp only[Prod.mk.injEq] at hc
  exact⟨fun a ha K' hK=>xd _ rfl rfl (ha.ev hx) B hc.1 hc.2.1 hs (hK _ _ _ h (ha.put hc.2.2))⟩
theorem cR{o:Oper}{ev:Operand→Value}(v0:Value){v:Value}(hr:(execOp ev o).run P w = .ok (.value v0) w)(he:v0=v) : (execOp ev o).run P w = .ok (.value v) w:=by subst he;exact hr
theorem ie{o:Oper}{ev:Operand→Value}{ty:TypeId}{x:Operand}{g off:Nat}{cs:Array Value}{t:TypeId}{fr:Nat × Nat}{w:World}(sub:List Value)(ho:o.op = .load ty x)(hx:ev x = .pointer (some ⟨g,off,none⟩))(hb:w.heap[g]? = some (.cells cs t fr))
    (hu:(P.underlying ty).map (·.isRow)=some true) (hi:(P.info? ty).map (·.size)=some sub.length) (hs:(cs.toList.drop off).take sub.length=sub) : (execOp ev o).run P w = .ok (.value (.agg sub.toArray)) w:=by
  obtain⟨d,hd,hr⟩:=Option.map_eq_some_iff.1 hu
  have hc:w.rangeAt g off sub:=fun j v hj=>by
    rw[bh hb]
    have hjl:j<sub.length:=(List.getElem?_eq_some_iff.1 hj).1
    rw[← hs,List.getElem?_take,if_pos hjl,List.getElem?_drop] at hj
    simpa using hj
  unfold execOp
  simp only[ho,hx,Instr.loadAt,Instr.sureAddr,Sem.run_bind,Sem.run_pure,Result.andThen_ok,run_loadVar_mid w g off ty sub d hc hd hr hi]
end
section
variable {P:Program}{n:Nat}{F:Fr}{w:World}{fn:Func}{R:Ending→World→Prop}
theorem ke(k:Nat){g:Nat}{cs:Array Value}{t:TypeId}{fr:Nat × Nat}(hz:cs.size=k)(B:w.heap[g]? = some (.cells cs t fr))(u:Value)(h:R (.returned (.tuple #[.agg cs,u])) w)(hc:CN P fn.results F=some (some (.pointer (some ⟨g,0,none⟩)),some u,some true,some k):=by kernel_rfl) : GQ (bodyPost P fn R) .ret n [] F w :=
  ⟨fun a ha=>bodyPost_ret (lV ha B (by rw[hz]) hc) ha.df h⟩
theorem CT{g:Nat}{cs:Array Value}{t:TypeId}{fr:Nat × Nat}(B:w.heap[g]? = some (.cells cs t fr))(h:R (.returned (.agg cs)) w)(hc:Bi P fn.results F=some (some (.pointer (some ⟨g,0,none⟩)),some true,some cs.size):=by kernel_rfl) : GQ (bodyPost P fn R) .ret n [] F w:=Dv B h rfl hc
theorem EC(k:Nat){g:Nat}{cs:Array Value}{t:TypeId}{fr:Nat × Nat}(hz:cs.size=k)(B:w.heap[g]? = some (.cells cs t fr))(h:R (.returned (.agg cs)) w)(hc:Bi P fn.results F=some (some (.pointer (some ⟨g,0,none⟩)),some true,some k):=by kernel_rfl) : GQ (bodyPost P fn R) .ret n [] F w :=
  Dv (k:=k) B h (by rw[hz]) hc
end
section
variable {C:Prop}{α β γ δ ε ζ η:Type}
theorem pr{α β:Type}{C:Prop}(x:α × β)(k:∀ a b,x=(a,b)→C) : C:=k x.1 x.2 rfl
theorem wo{α:Type}{C:Prop}(x:Option α)(hn:x=none→C)(hs:∀ l,x=some l→C) : C:=by
  cases h:x with
  | none=>exact hn h
  | some l=>exact hs l h
theorem xc{P1 P2:α→Prop}(h:∃ x,P1 x∧P2 x)(k:∀ x,P1 x→P2 x→C) : C:=let ⟨x,h1,h2⟩:=h;k x h1 h2
theorem DG{P1 P2:α→β→Prop}(h:∃ x y,P1 x y∧P2 x y)(k:∀ x y,P1 x y→P2 x y→C) : C:=let ⟨x,y,h1,h2⟩:=h;k x y h1 h2
theorem kf{P1 P2 P3:α→β→Prop}(h:∃ x y,P1 x y∧P2 x y∧P3 x y)(k:∀ x y,P1 x y→P2 x y→P3 x y→C) : C:=let ⟨x,y,h1,h2,h3⟩:=h;k x y h1 h2 h3
theorem BA{P1 P2 P3 P4 P5:α→β→γ→δ→ε→ζ→η→Prop}(h:∃ a b c d e f g,P1 a b c d e f g∧P2 a b c d e f g∧P3 a b c d e f g∧P4 a b c d e f g∧P5 a b c d e f g)(k:∀ a b c d e f g,P1 a b c d e f g→P2 a b c d e f g→P3 a b c d e f g→P4 a b c d e f g→P5 a b c d e f g→C) : C :=
  let ⟨a,b,c,d,e,f,g,h1,h2,h3,h4,h5⟩:=h;k a b c d e f g h1 h2 h3 h4 h5
theorem ab{w:World}{g:Nat}{c:aF}(h:ah w g c)(k:∀ x,x=c→ah w g x→C) : C:=k c rfl h
end
theorem aT.len{α:Type}{m:Md}{e:TypeId}{sz:Nat}{R:World→α→List Value→Prop}{w:World}{v:Value}{xs:List α}(h:aT m e sz R w v xs) : xs.length≤9223372036854775807:=by
  obtain⟨_,_,_,h1,h2⟩:=h.shape
  unfold maxLen at h2
  omega
theorem cB{m:Md}{w:World}{A:Option Addr}{n c b off:Nat}{xs:List Int}(h:aW m w (.slice A n c) xs)(hA:A=some ⟨b,off,none⟩)(j:Nat)(hj:j<xs.length) : w.cell? ⟨b,off+j,none⟩=some (.int .u8 (xs.getD j 0)):=by
  obtain⟨b',o',h1,h2,_⟩:=aW.at_ h j hj
  rw[hA] at h1
  cases h1
  exact h2
section
variable {P:Program}{w w':World}
theorem uc{p:Addr}{v:Value}(h:ay [] w w')(hc:w.cell? p=some v) : w'.cell? p=some v:=h.cell (by simp) hc
theorem BE{b o n:Nat}{cs:Array Value}{t:TypeId}{fr:Nat × Nat}{sub:List Value}{v:Value}(hb:w.heap[b]? = some (.cells cs t fr))(hs:(cs.toList.drop o).take n=sub)(i:Nat)(hv:sub[i]? = some v)(hi:i<n) : w.cell? ⟨b,o+i,none⟩=some v:=by
  rw[bh hb,← Array.getElem?_toList,← List.getElem?_drop,← hv,← hs,List.getElem?_take,if_pos hi]
def E9 (P:Program)(F:Fr)(o:Oper) : Option (Option Addr × Nat) × Option Int × Option Nat:=match o.op with
  | .indexAddr ty x ix=>(Bw F x,A8 F ix,((pE P ty).bind P.info?).map (·.size))
  | _=>(none,none,none)
theorem Ri{n:Nat}{D:List Deferred}{F:Fr}{Q:Exit→Act→World→Prop}{ops:Array Oper}{S:World→Prop}{fuel:Nat}{l:Array Bool}(i:Nat)(hS:S w)(sz m j:Nat)(z:Int)(hj:z=j){A:Option Addr}{b off:Nat}(hA:A=some ⟨b,off,none⟩)(hlt:j<m)
    (h:GA P ops Q S fuel (l.setIfInBounds i true) n D (pt (ib ops i).dst (.pointer (some ⟨b,off+j*sz,none⟩)) F) w) (hx:E9 P F (ib ops i)=(some (A,m),some z,some sz):=by kernel_rfl)
    (hc:((BL ops l i,n8 ops F (ib ops i).guard),(eU n (ib ops i).dst&&jY F (ib ops i).op))=((true,(true,true)),true):=by kernel_rfl) (hQ:∀ c a w',Q (.panic c) (a.put (ib ops i).dst (.pointer (some ⟨b,off+j*sz,none⟩))) w'→Q (.panic c) a w':=by exact fun _ _ _ h=>h) : GA P ops Q S (fuel+1) l n D F w:=by
  simp only[Prod.mk.injEq] at hc
  obtain⟨h1,h2⟩:=qB hc.1.1
  have h3:=eQ hc.2
  obtain⟨ty,x,ix,h4,h5,h6,h7⟩ : ∃ ty x ix,(ib ops i).op = .indexAddr ty x ix∧Bw F x=some (A,m)∧A8 F ix=some z∧((pE P ty).bind P.info?).map (·.size)=some sz:=by
    unfold E9 at hx
    split at hx
    · rename_i ty x ix hop
      simp only[Prod.mk.injEq] at hx
      exact⟨ty,x,ix,hop,hx.1,hx.2.1,hx.2.2⟩
    · simp at hx
  obtain⟨c,h5⟩:=rl h5
  obtain⟨k,h6⟩:=na h6
  cases he:pE P ty with
  | none=>rw[he] at h7;simp at h7
  | some e =>
    rw[he] at h7
    refine⟨fun a ha=>DI _ _ h1 rfl h2 (fun c a w' q=>hQ c a w' q) (fU ha hc.1.2) (fun w' hs=>?_) hS (h.out _ (ha.put h3.1))⟩
    subst hj
    subst hA
    obtain⟨i0,hi0,hsz⟩:=Option.map_eq_some_iff.1 h7
    have hx':=ha.ev h5
    have hi':=ha.ev h6
    unfold execOp
    have h8:(0:Int)≤(j:Int)∧(j:Int)<(m:Int):=by omega
    have hi0':P.info? e=some i0:=hi0
    simp[h4,hx',hi',Instr.indexAt,asIntOf,run_underlying (ep he),Result.andThen,h8,sizeOf,typeInfo,hi0',hsz,jI,hlt]
theorem yJ{n:Nat}{D:List Deferred}{F:Fr}{Q:Exit→Act→World→Prop}{ops:Array Oper}{S:World→Prop}{fuel:Nat}{l:Array Bool}(i:Nat)(hS:S w)(m j:Nat)(z:Int)(hj:z=j){A:Option Addr}{b off:Nat}(hA:A=some ⟨b,off,none⟩)(hlt:j<m)
    (h:GA P ops Q S fuel (l.setIfInBounds i true) n D (pt (ib ops i).dst (.pointer (some ⟨b,off+j,none⟩)) F) w) (hx:E9 P F (ib ops i)=(some (A,m),some z,some 1):=by kernel_rfl)
    (hc:((BL ops l i,n8 ops F (ib ops i).guard),(eU n (ib ops i).dst&&jY F (ib ops i).op))=((true,(true,true)),true):=by kernel_rfl) (hQ:∀ c a w',Q (.panic c) (a.put (ib ops i).dst (.pointer (some ⟨b,off+j,none⟩))) w'→Q (.panic c) a w':=by exact fun _ _ _ h=>h) : GA P ops Q S (fuel+1) l n D F w :=
  Ri i hS 1 m j z hj hA hlt (by rwa [Nat.mul_one]) hx hc (by rw[Nat.mul_one];exact hQ)
end
open Go.RowKit
def iA (q:IntKind)(xs:List Int) : Array MapEntry:=(xs.zipIdx.map fun p=>(⟨.int q p.1,.bool true,p.2⟩ : MapEntry)).toArray
theorem vR(q:IntKind)(xs:List Int)(x:Int) : iA q (xs++[x])=(iA q xs).push ⟨.int q x,.bool true,xs.length⟩:=by
  simp[iA,List.zipIdx_append]
theorem qK(q:IntKind)(n:Int) : ∀ (xs:List Int)(i j:Nat),∃ res,Instr.findNow (.int q) (.int q n) ((xs.zipIdx j).map fun p=>(⟨.int q p.1,.bool true,p.2⟩ : MapEntry)) i=some res∧res.isSome=decide (n∈xs)∧∀ p,res=some p→p.2 = .bool true
  | [],i,j=>⟨none,rfl,by simp,fun p h=>by cases h⟩
  | x :: xs,i,j=>by
    by_cases h:n=x
    · subst h
      exact⟨some (i,.bool true),by simp[Instr.findNow,Instr.sameNow],by simp,fun p hp=>by cases hp;rfl⟩
    · obtain⟨res,h1,h2,h3⟩:=qK q n xs (i+1) (j+1)
      refine⟨res,?_,?_,h3⟩
      · have:(n==x)=false:=by simpa using h
        simp only[List.zipIdx_cons,List.map_cons,Instr.findNow,Instr.sameNow,this,if_true]
        exact h1
      · rw[h2];simp[h]
theorem ou(q:IntKind)(n:Int)(xs:List Int) : ∃ res,Instr.findNow (.int q) (.int q n) (iA q xs).toList 0=some res∧res.isSome=decide (n∈xs)∧∀ p,res=some p→p.2 = .bool true:=by
  simpa [iA] using qK q n xs 0 0
theorem xF{q:IntKind}{n:Int}{xs:List Int}(h:n∉xs) : Instr.findNow (.int q) (.int q n) (iA q xs).toList 0=some none:=by
  obtain⟨res,h1,h2,_⟩:=ou q n xs
  rw[h1]
  cases res with
  | none=>rfl
  | some p=>simp[h] at h2
theorem BY{P:Program}{Q:Exit→Act→World→Prop}{a:Act}{w:World}{K:Act→World→Prop}{o:Oper}{N:Option Tmp}{t kt e:TypeId}{q:IntKind}{m k x:Operand}{r:Nat}{xs:List Int}{clk:Nat}(n:Int)(hN:o.dst=N)(hop:o.op = .mapUpdate t m k x)
    (ht:P.underlying t=some (.map kt e)) (hk:P.underlying kt=some (.int q)) (hm:a.eval m = .map (some r)) (hb:w.heap[r]? = some (.map (iA q xs) clk))
    (hkv:a.eval k = .int q n) (hx:a.eval x = .bool true) (hno:n∉xs) (hclk:clk=xs.length)
    (h:∀ w',w'.heap[r]? = some (.map (iA q (xs++[n])) (clk+1))→ay [r] w w'→K (a.put N undef) w') : OW P o a w K Q:=by
  refine OW.mk ?_
  subst hN
  obtain⟨w',hrr,h1,h2⟩:=mv ht hk hb n (.bool true) (xF hno)
  have hrun:(execOp a.eval o).run P w = .ok .skip w':=by
    unfold execOp
    simp[hop,hm,hkv,hx,hrr,Result.andThen]
  unfold Oper.wp
  rw[hrun]
  refine h w' ?_ h2
  rw[h1,vR,hclk]
theorem Dz{P:Program}{Q:Exit→Act→World→Prop}{a:Act}{w:World}{K:Act→World→Prop}{o:Oper}{N:Option Tmp}{t kt e:TypeId}{q:IntKind}{m k:Operand}{r:Nat}{es:Array MapEntry}{clk:Nat}(n:Int)(xs:List Int)(hN:o.dst=N)(hop:o.op = .lookup t m k false)
    (ht:P.underlying t=some (.map kt e)) (hk:P.underlying kt=some (.int q)) (hm:a.eval m = .map (some r)) (hb:w.heap[r]? = some (.map es clk)) (hes:es=iA q xs) (hkv:a.eval k = .int q n)
    (hz:(zeroValue e).run P w = .ok (.bool false) w) (h:K (a.put N (.bool (decide (n∈xs)))) w) : OW P o a w K Q:=by
  subst hes
  obtain⟨res,h1,h2,h3⟩:=ou q n xs
  refine tF (res:=res) n (.bool false) _ hN hop ht hk hm hb hkv hz h1 ?_ h
  cases res with
  | none=>simp at h2;simp[h2]
  | some p=>simp at h2;simp[h2,h3 p rfl]
section
variable {P:Program}{Q:Exit→Act→World→Prop}{n:Nat}{D:List Deferred}{F:Fr}{w:World}{K:Fr→World→Prop}{d:Option Tmp}{t:TypeId}{s:String}{af:Array Edge}{gu:Option (Nat × Bool)}
theorem DL{ty:TypeId}{m k:Operand}{r:Nat}{es:Array MapEntry}{clk:Nat}(B:w.heap[r]? = some (.map es clk))(x:Int)(xs:List Int)(h:K (pt d (.bool (decide (x∈xs))) F) w)(hq:(oU P ty).isSome=true:=by kernel_rfl)(hm:eg F m=some (.map (some r)):=by kernel_rfl)
    (hk:eg F k=some (.int (mc P ty) x):=by kernel_rfl) (he:es=iA (mc P ty) xs:=by kernel_rfl) (hs:eU n d=true:=by kernel_rfl) (hz:(zeroValue (Bj P ty)).run P w = .ok (.bool false) w:=by kernel_rfl) : OG P ⟨d,.lookup ty m k false,t,s,af,gu⟩ n D F w K Q:=by
  obtain⟨kt,h1,h2⟩:=jk (l0 hq)
  exact⟨fun a ha K' hK=>Dz x xs rfl rfl h1 h2 (ha.ev hm) B he (ha.ev hk) hz (hK _ _ _ h (ha.put hs))⟩
theorem EP{ty:TypeId}{q:IntKind}{m k x:Operand}{r:Nat}{xs:List Int}{clk:Nat}(B:w.heap[r]? = some (.map (iA q xs) clk))(z:Int)(hno:z∉xs)(hclk:clk=xs.length)(h:∀ w',w'.heap[r]? = some (.map (iA q (xs++[z])) (clk+1))→ay [r] w w'→K (pt d undef F) w')
    (hq:oU P ty=some q:=by kernel_rfl) (hm:eg F m=some (.map (some r)):=by kernel_rfl) (hk:eg F k=some (.int q z):=by kernel_rfl) (hx:eg F x=some (.bool true):=by kernel_rfl) (hs:eU n d=true:=by kernel_rfl) : OG P ⟨d,.mapUpdate ty m k x,t,s,af,gu⟩ n D F w K Q:=by
  obtain⟨kt,h1,h2⟩:=jk hq
  exact⟨fun a ha K' hK=>BY z rfl rfl h1 h2 (ha.ev hm) B (ha.ev hk) (ha.ev hx) hno hclk fun w' hB hu=>hK _ _ _ (h w' hB hu) (ha.put hs)⟩
end
def Dt (q:IntKind)(xs:List Int)(w:World)(e:Ending)(w':World) : Prop:=∃ r clk,e = .returned (.map (some r))∧w.heap.size≤r∧w'.heap[r]? = some (.map (iA q xs) clk)∧ay [] w w'
theorem kI{xs:List Int}(h:xs.Nodup)(k:Nat)(hk:k<xs.length) : xs.getD k 0∉xs.take k:=by
  intro hm
  obtain⟨i,hi,he⟩:=List.getElem_of_mem hm
  have hik:i<k:=by simp at hi;omega
  rw[List.getElem_take] at he
  have hg:xs.getD k 0=xs[k]:=by simp[List.getD_eq_getElem?_getD,List.getElem?_eq_getElem hk]
  rw[hg] at he
  have:=(List.getElem_inj h).1 he
  omega
theorem nd{α:Type}(xs:List α)(d:α)(k:Nat)(hk:k<xs.length) : xs.take (k+1)=xs.take k++[xs.getD k d]:=by
  rw[List.take_succ_eq_append_getElem hk,List.getD_eq_getElem?_getD,List.getElem?_eq_getElem hk]
  rfl
theorem zj{A:Option Addr}{c:Nat}{xs:List Int}{w:World}(h:aW true w (.slice A xs.length c) xs)(hn:xs.length≤1048576)(hnd:xs.Nodup) :
    Calls Tryz.prog 191 #[.slice A xs.length c] w (Dt .u8 xs w):=by
 refine en 17 Tryz.func191 rfl<|aA 1<|ng<|L0<|zT fun a i e j l=>al 1<|sq<|sq<|?_
 refine go<|al 3<|bk<|?_
 refine jZ (fun x=>[(2,.map none),(3,.map (some a)),(7,.slice A xs.length c),(8,vI ((xs.length:Nat) : Int)),(9,vI ((x:Nat) : Int))]) (fun(x:Nat) w'=>ay [a] i w'∧w'.heap[a]? = some (.map (iA .u8 (xs.take x)) x)∧(x≤xs.length)) (fun x=>xs.length-x) 0 ⟨ay.refl _ _,j,(by(try dsimp only);omega)⟩ ?_
 rintro k m ⟨f,n,o⟩
 refine iW [(2,.map none),(3,.map (some a)),(7,.slice A xs.length c),(8,vI ((xs.length:Nat) : Int)),(9,vI ((k:Nat) : Int))] ?_
 have b:m.heap[a]? = some (.map (iA .u8 (xs.take k)) k):=n
 have D:k≤xs.length:=o
 refine aB 1<|sq<|?_
 have g:=ud l f e
 refine cb ((decide (((k:Nat) : Int)<((xs.length:Nat) : Int)))) (fun d=>?_) (fun d=>?_)
 have q:=of_decide_eq_true d
 refine bM<|sq<|bk<|sg<|?_
 refine kf (aW.at_ (aW.upd' h g aP) k (by omega)) fun r s t u E=>L0<|lW xs.length k t (by omega)<|L0<|jO (p:=⟨r,s+k,none⟩) (v:=vB (xs.getD k 0)) u<|al 1<|go<|Pl 2<|L0<|EP b (xs.getD k 0) (kI hnd k (by omega)) (by simp;omega) fun y z B=>?_
 have C:y.heap[a]? = some (.map (iA .u8 (xs.take (k+1))) (k+1)):=by rw[nd xs 0 k (by omega)];exact z
 refine nl<|bn<|tn<|go<|bD (((k:Nat) : Int)+1)<|Pl 1<|nl<|?_
 exact fD (k+1) ⟨(u1 f B im),C,(by(try dsimp only);omega)⟩ (by omega)
 have q:=of_decide_eq_false d
 refine xt<|tx<|tx<|bx<|tn<|aB 2<|rt<|rr (.map (some a))<|?_
 have hk:k=xs.length:=by omega
 rw[hk,List.take_length] at b
 exact⟨a,_,rfl,e,b,g⟩
theorem Bg{A:Option Addr}{c:Nat}{xs:List Int}{w:World}(h:fv true w (.slice A xs.length c) xs)(hn:xs.length≤1048576)(hnd:xs.Nodup) :
    Calls Tryz.prog 229 #[.slice A xs.length c] w (Dt .u16 xs w):=by
 refine en 17 Tryz.func229 rfl<|aA 1<|ng<|L0<|zT fun a i e j l=>al 1<|sq<|sq<|?_
 refine go<|al 3<|bk<|?_
 refine jZ (fun x=>[(2,.map none),(3,.map (some a)),(7,.slice A xs.length c),(8,vI ((xs.length:Nat) : Int)),(9,vI ((x:Nat) : Int))]) (fun(x:Nat) w'=>ay [a] i w'∧w'.heap[a]? = some (.map (iA .u16 (xs.take x)) x)∧(x≤xs.length)) (fun x=>xs.length-x) 0 ⟨ay.refl _ _,j,(by(try dsimp only);omega)⟩ ?_
 rintro k m ⟨f,n,o⟩
 refine iW [(2,.map none),(3,.map (some a)),(7,.slice A xs.length c),(8,vI ((xs.length:Nat) : Int)),(9,vI ((k:Nat) : Int))] ?_
 have b:m.heap[a]? = some (.map (iA .u16 (xs.take k)) k):=n
 have D:k≤xs.length:=o
 refine aB 1<|sq<|?_
 have g:=ud l f e
 refine cb ((decide (((k:Nat) : Int)<((xs.length:Nat) : Int)))) (fun d=>?_) (fun d=>?_)
 have q:=of_decide_eq_true d
 refine bM<|sq<|bk<|sg<|?_
 refine kf (fv.at_ (fv.upd' h g aP) k (by omega)) fun r s t u E=>L0<|lW xs.length k t (by omega)<|L0<|jO (p:=⟨r,s+k,none⟩) (v:=vW (xs.getD k 0)) u<|al 1<|go<|Pl 2<|L0<|EP b (xs.getD k 0) (kI hnd k (by omega)) (by simp;omega) fun y z B=>?_
 have C:y.heap[a]? = some (.map (iA .u16 (xs.take (k+1))) (k+1)):=by rw[nd xs 0 k (by omega)];exact z
 refine nl<|bn<|tn<|go<|bD (((k:Nat) : Int)+1)<|Pl 1<|nl<|?_
 exact fD (k+1) ⟨(u1 f B im),C,(by(try dsimp only);omega)⟩ (by omega)
 have q:=of_decide_eq_false d
 refine xt<|tx<|tx<|bx<|tn<|aB 2<|rt<|rr (.map (some a))<|?_
 have hk:k=xs.length:=by omega
 rw[hk,List.take_length] at b
 exact⟨a,_,rfl,e,b,g⟩
open Go.RowKit
def bS (v:Value)(w:World)(e:Ending)(w':World) : Prop:=e = .returned v∧ay [] w w'
def DS (w:World)(g:Nat)(cs:Array Value) : Prop:=w.heap[g]? = some (.cells cs 45 (0,0))∧cs.size=22
def mD (c:aF)(most:Int) : aF:=((c.wordsC 1).wordsC 1).need (decide (1≤(c.wordsC 1).wordV)&&decide ((c.wordsC 1).wordV≤most)) 5
def d7 (c:aF)(most:Int) : aF:=(mD c most).need (fq c.wordV (c.wordsC 1).wordV) 7
def iZ (c:aF) : aF:=(c.bytesC 1).need (decide (1≤c.byteV)&&decide (c.byteV≤250)) 5
def pZ (c:aF) : aF:=((c.wordsC 1).wordsC 1).need ((c.wordsC 1).wordV==0 || (c.wordsC 1).wordV==65280) 6
def zt (c:aF) : Int:=(d7 c 1968).byteV
def DF (c:aF) : Int:=(c.wordsC 1).wordV
def qC (c:aF) : aF:=((d7 c 1968).bytesC 1).need (zt c==fg (DF c)) 5
def Ca (c:aF) : Option (List Bool):=dv ((qC c).bytesR (zt c)) (DF c)
def DD (c:aF) : aF:=((qC c).bytesC (zt c)).need (Ca c).isSome 6
def fO (most c:Int)(C:aF) : aF × b7:=(d7 C most,{ b7.zero with code:=c,addr:=C.wordV,count:=(C.wordsC 1).wordV })
def iy (c:Int)(C:aF) : aF × b7:=((iZ C).bytesC C.byteV,{ b7.zero with code:=c,data:=(iZ C).bytesR C.byteV })
def fE (c:Int)(C:aF) : aF × b7:=(pZ C,{ b7.zero with code:=c,addr:=C.wordV,value:=(C.wordsC 1).wordV })
def pf (c:Int)(C:aF) : aF × b7:=(DD C,{ b7.zero with code:=c,addr:=C.wordV,count:=DF C,bits:=(Ca C).getD [] })
def bt (dir c:Int)(C:aF) : Option (aF × b7) :=
  if c==1 || c==2 then (if dir==0 then some (fO 2000 c C) else some (iy c C))
  else if c==5 then some (fE c C)
  else if c==15 then (if dir==0 then some (pf c C) else some (fO 1968 c C))
  else none
def bI (c:aF)(a most:Int) : aF:=((c.wordsC 1).need (decide (1≤c.wordV)&&decide (c.wordV≤most)) 5).need (fq a c.wordV) 7
def cK (c:aF)(n:Int) : aF:=(c.bytesC 1).need (c.byteV==2*n) 5
def kV (n hi:Int) : Bool:=n%2==0&&decide (2≤n)&&decide (n≤hi)
def ms (C:aF) : aF:=(C.bytesC 1).need (kV C.byteV 250) 5
def uJ (c:aF) : aF:=(c.wordsC 1).need (kV c.wordV 64) 5
def BD (c:aF) : aF:=((uJ c).wordsC 1).need (2+2*(uJ c).wordV==c.wordV) 5
def gz (C:aF) : aF:=(bI (C.wordsC 1) C.wordV 125).wordsC 1
def uh (C:aF) : aF:=bI (gz C) (bI (C.wordsC 1) C.wordV 125).wordV 121
def d6 (most c:Int)(C:aF) : aF × b7:=(bI (C.wordsC 1) C.wordV most,{ b7.zero with code:=c,addr:=C.wordV,count:=(C.wordsC 1).wordV })
def dT (c:Int)(C:aF) : aF × b7:=((ms C).wordsC (C.byteV/2),{ b7.zero with code:=c,words:=(ms C).wordsR (C.byteV/2) })
def i4 (c:Int)(C:aF) : aF × b7:=((C.wordsC 1).wordsC 1,{ b7.zero with code:=c,addr:=C.wordV,value:=(C.wordsC 1).wordV })
def jD (C:aF) : aF:=cK (bI (C.wordsC 1) C.wordV 123) (C.wordsC 1).wordV
def fI (c:Int)(C:aF) : aF × b7:=((jD C).wordsC (C.wordsC 1).wordV,{ b7.zero with code:=c,addr:=C.wordV,count:=(C.wordsC 1).wordV,words:=(jD C).wordsR (C.wordsC 1).wordV })
def eX (c:Int)(C:aF) : aF × b7:=(((C.wordsC 1).wordsC 1).wordsC 1,{ b7.zero with code:=c,addr:=C.wordV,and_:=(C.wordsC 1).wordV,or_:=((C.wordsC 1).wordsC 1).wordV })
def iM (C:aF) : aF:=cK (uh C) (gz C).wordV
def fY (c:Int)(C:aF) : aF × b7:=((iM C).wordsC (gz C).wordV,{ b7.zero with code:=c,addr:=C.wordV,count:=(C.wordsC 1).wordV,addr2:=(bI (C.wordsC 1) C.wordV 125).wordV,words:=(iM C).wordsR (gz C).wordV })
def fV (c:Int)(C:aF) : aF × b7:=(C.wordsC 1,{ b7.zero with code:=c,addr:=C.wordV })
def zr (c:Int)(C:aF) : aF × b7:=((BD C).wordsC (uJ C).wordV,{ b7.zero with code:=c,words:=(BD C).wordsR (uJ C).wordV })
def ci (dir c:Int)(C:aF) : Option (aF × b7) :=
  if c==3 || c==4 then (if dir==0 then some (d6 125 c C) else some (dT c C))
  else if c==6 then some (i4 c C)
  else if c==16 then (if dir==0 then some (fI c C) else some (d6 123 c C))
  else if c==22 then some (eX c C)
  else if c==23 then (if dir==0 then some (fY c C) else some (dT c C))
  else if c==24 then (if dir==0 then some (fV c C) else some (zr c C))
  else none
def cL (M:b7)(c:aF) : b7 × Int:=if c.endC.e=0 then (M,0) else (b7.zero,c.endC.e)
def cg (g gm:Nat)(c:aF)(M:b7)(w:World)(e:Ending)(w':World) : Prop:=e = .returned (.tuple #[])∧ah w' g c∧(∃ cs,DS w' gm cs∧aH (.hi w.heap.size) w' cs.toList M)∧ay [g,gm] w w'
theorem dB{M:b7}{c:aF}{w W:World}{cs:Array Value}(h0:c.endC.e=0)(h:aH (.hi w.heap.size) W cs.toList M)(hu:ay [] w W) : ef (cL M c) w (.returned (.tuple #[.agg cs,.int .i64 0])) W:=by
  unfold cL
  rw[if_pos h0]
  exact⟨cs,rfl,h,hu⟩
theorem d4{M:b7}{c:aF}{w W:World}(h0:¬ c.endC.e=0)(hu:ay [] w W) : ef (cL M c) w (.returned (.tuple #[.agg xC,.int .i64 c.endC.e])) W:=by
  unfold cL
  rw[if_neg h0]
  exact⟨xC,rfl,aH.zero ..,hu⟩
theorem cl{x:Int}{w W:World}(hu:ay [] w W) : ef (b7.zero,x) w (.returned (.tuple #[.agg xC,.int .i64 x])) W:=⟨xC,rfl,aH.zero ..,hu⟩
theorem fQ{q:IntKind}{n:Int}:∀ (l:List MapEntry)(i:Nat),(∀ e,e∈l→∃ k,e.key = .int q k∧k≠n)→Instr.findNow (.int q) (.int q n) l i=some none
  | [],_,_=>rfl
  | e :: l,i,h=>by
    obtain⟨k,hk,hn⟩:=h e (by simp)
    have:(n==k)=false:=by simpa using fun h=>hn h.symm
    simp only[Instr.findNow,hk,Instr.sameNow,this,if_true]
    exact fQ l (i+1) fun e he=>h e (by simp[he])
def aL (form:Int→Int→aF→Option (aF × b7))(dir c:Int)(b:List Int) : b7 × Int :=
  if dir=0∨dir=1 then
    match form dir c ⟨b,false,0⟩ with
    | none=>(b7.zero,4)
    | some r=>cL r.2 r.1
  else (b7.zero,1)
def so (g gm:Nat)(C':aF)(cs:Array Value)(w:World)(e:Ending)(w':World) : Prop:=e = .returned (.tuple #[])∧ah w' g C'∧w'.heap[gm]? = some (.cells cs 45 (0,0))∧ay [g,gm] w w'
open Go.RowKit
def dU (x:Int) : Bool:=decide (x∈([1,2,3,4,5,6,7,8,11,12,15,16,17,20,21,22,23,24,43] : List Int))
theorem mK{x:Int}{w:World}:Calls Tryz.prog 130 #[vB x] w (bS (.bool (dU x)) w):=by
 refine en 7 Tryz.func130 rfl<|aA 1<|ng<|L0<|dX (m:=19) (e:=5) #[vB 1,vB 2,vB 3,vB 4,vB 5,vB 6,vB 7,vB 8,vB 11,vB 12,vB 15,vB 16,vB 17,vB 20,vB 21,vB 22,vB 23,vB 24,vB 43] fun h i a b c=>?_
 have d:=dZ a (xs:=[1,2,3,4,5,6,7,8,11,12,15,16,17,20,21,22,23,24,43]) (by as_aux_lemma=>kernel_rfl) (ax (by omega) (ax (by omega) (ax (by omega) (ax (by omega) (ax (by omega) (ax (by omega) (ax (by omega) (ax (by omega) (ax (by omega) (ax (by omega) (ax (by omega) (ax (by omega) (ax (by omega) (ax (by omega) (ax (by omega) (ax (by omega) (ax (by omega) (ax (by omega) (ax (by omega) b9))))))))))))))))))) (by(try simp only[List.length_cons,List.length_nil]);omega) b
 refine aG<|D8 (zj (xs:=[1,2,3,4,5,6,7,8,11,12,15,16,17,20,21,22,23,24,43]) (d).rd (by decide) (by decide)) fun j k l n f g=>Pl 1<|L0<|DL f x ([1,2,3,4,5,6,7,8,11,12,15,16,17,20,21,22,23,24,43])<|al 1<|rt<|rr (.bool (decide (x∈[1,2,3,4,5,6,7,8,11,12,15,16,17,20,21,22,23,24,43])))<|?_
 exact⟨rfl,(aK c g)⟩
def dL (x:Int) : Bool:=decide (x∈([1,2,3,4,5,6,8,10,11] : List Int))
theorem lF{x:Int}{w:World}:Calls Tryz.prog 131 #[vB x] w (bS (.bool (dL x)) w):=by
 refine en 7 Tryz.func131 rfl<|aA 1<|ng<|L0<|dX (m:=9) (e:=5) #[vB 1,vB 2,vB 3,vB 4,vB 5,vB 6,vB 8,vB 10,vB 11] fun h i a b c=>?_
 have d:=dZ a (xs:=[1,2,3,4,5,6,8,10,11]) (by as_aux_lemma=>kernel_rfl) (ax (by omega) (ax (by omega) (ax (by omega) (ax (by omega) (ax (by omega) (ax (by omega) (ax (by omega) (ax (by omega) (ax (by omega) b9))))))))) (by(try simp only[List.length_cons,List.length_nil]);omega) b
 refine aG<|D8 (zj (xs:=[1,2,3,4,5,6,8,10,11]) (d).rd (by decide) (by decide)) fun j k l n f g=>Pl 1<|L0<|DL f x ([1,2,3,4,5,6,8,10,11])<|al 1<|rt<|rr (.bool (decide (x∈[1,2,3,4,5,6,8,10,11])))<|?_
 exact⟨rfl,(aK c g)⟩
def hZ (x:Int) : Bool:=decide (x∈([0,1,2,3,4,10,11,12,13,14,15,16,17,18,20] : List Int))
theorem xY{x:Int}{w:World}:Calls Tryz.prog 210 #[vW x] w (bS (.bool (hZ x)) w):=by
 refine en 7 Tryz.func210 rfl<|aA 1<|ng<|L0<|dX (m:=15) (e:=37) #[vW 0,vW 1,vW 2,vW 3,vW 4,vW 10,vW 11,vW 12,vW 13,vW 14,vW 15,vW 16,vW 17,vW 18,vW 20] fun h i a b c=>?_
 have d:=iw a (xs:=[0,1,2,3,4,10,11,12,13,14,15,16,17,18,20]) (by as_aux_lemma=>kernel_rfl) (ax (by omega) (ax (by omega) (ax (by omega) (ax (by omega) (ax (by omega) (ax (by omega) (ax (by omega) (ax (by omega) (ax (by omega) (ax (by omega) (ax (by omega) (ax (by omega) (ax (by omega) (ax (by omega) (ax (by omega) b9))))))))))))))) (by(try simp only[List.length_cons,List.length_nil]);omega) b
 refine aG<|D8 (Bg (xs:=[0,1,2,3,4,10,11,12,13,14,15,16,17,18,20]) (d).rd (by decide) (by decide)) fun j k l n f g=>Pl 1<|L0<|DL f x ([0,1,2,3,4,10,11,12,13,14,15,16,17,18,20])<|al 1<|rt<|rr (.bool (decide (x∈[0,1,2,3,4,10,11,12,13,14,15,16,17,18,20])))<|?_
 exact⟨rfl,(aK c g)⟩
def bU (x:Int) : Bool:=decide (x∈([1,2,3,129,130,131] : List Int))
theorem vZ{x:Int}{w:World}:Calls Tryz.prog 221 #[vB x] w (bS (.bool (bU x)) w):=by
 refine en 7 Tryz.func221 rfl<|aA 1<|ng<|L0<|zT fun o p a b c=>L0<|ip b 1 fun q eT d=>L0<|ip eT 2 fun r e f=>L0<|ip e 3 fun s g h=>L0<|ip g 129 fun t i j=>L0<|ip i 130 fun u k l=>?_
 refine L0<|ip k 131 fun v m n=>Pl 2<|L0<|DL m x ([1,2,3,129,130,131])<|al 1<|rt<|rr (.bool (decide (x∈[1,2,3,129,130,131])))<|?_
 exact⟨rfl,(ud c (u1 d (u1 f (u1 h (u1 j (u1 l n im) im) im) im) im) a)⟩
open Go.RowKit
def vu (x:Int) : Bool:=(((((((decide (1≤x)&&decide (x≤8))||x==11)||x==12)||(decide (15≤x)&&decide (x≤17)))||(decide (20≤x)&&decide (x≤24)))||x==43))
open Go.RowKit
structure bg (M:b7) : Prop where
  words:M.words.length≤1024
  bits:M.bits.length≤4096
  data:M.data.length≤1024
  recs:M.recs.length≤64
  recw:∀ r,r∈M.recs→r.words.length≤1024
  objects:M.objects.length≤128
  objv:∀ r,r∈M.objects→r.value.length≤1024
def yQ (l:List Int)(w:World)(e:Ending)(w':World) : Prop:=∃ v,e = .returned v∧cG w.heap.size w' v l∧ay [] w w'
theorem oM(l:List Bool) : ((dO l).length:Int)=fg l.length:=by
  have h:0≤fg l.length:=by unfold fg;split<;>omega
  simp only[dO,List.length_map,List.length_range]
  omega
theorem xu(l:List Bool) : (dO l).length≤l.length:=by
  have:=oM l
  unfold fg at this
  split at this<;>omega
open Go.RowKit
def eS (M:b7) : Bool:=(((((decide (M.words.length≤300)&&decide (M.bits.length≤2500))&&decide (M.data.length≤300))&&decide (M.recs.length≤50))&&decide (M.objects.length≤100))&&M.recs.all fun r=>decide (r.words.length≤200))&&M.objects.all fun r=>decide (r.value.length≤300)
theorem bA{M:b7}(h:eS M=true) : bg M:=by
  unfold eS at h
  simp only[Bool.and_eq_true,decide_eq_true_eq,List.all_eq_true] at h
  obtain⟨⟨⟨⟨⟨⟨h1,h2⟩,h3⟩,h4⟩,h5⟩,h6⟩,h7⟩:=h
  exact⟨by omega,by omega,by omega,by omega,fun r hr=>by have:=h6 r hr;omega,by omega,fun r hr=>by have:=h7 r hr;omega⟩
def zV (M:b7) : Bool:=(((((decide (300<((M.words.length:Nat) : Int)))||(decide (2500<((M.bits.length:Nat) : Int))))||(decide (300<((M.data.length:Nat) : Int))))||(decide (50<((M.recs.length:Nat) : Int))))||(decide (100<((M.objects.length:Nat) : Int))))
theorem BP{M:b7}(h:zV M=true) : eS M=false:=by
  cases h2:eS M
  · rfl
  unfold zV at h
  unfold eS at h2
  simp only[Bool.and_eq_true,Bool.or_eq_true,decide_eq_true_eq] at h h2
  omega
theorem u9{α:Type}{p:α→Bool}{d:α}{xs:List α}{k:Nat}(h:(xs.take k).all p=true)(hk:k<xs.length)(hp:p (xs.getD k d)=true) : (xs.take (k+1)).all p=true:=by
  rw[List.take_succ_eq_append_getElem hk,List.all_append]
  rw[List.getD_eq_getElem?_getD,List.getElem?_eq_getElem hk] at hp
  simpa [h] using hp
theorem yb{α:Type}{p:α→Bool}{d:α}{xs:List α}{k:Nat}(hk:k<xs.length)(hp:p (xs.getD k d)=false) : xs.all p=false:=by
  rw[List.getD_eq_getElem?_getD,List.getElem?_eq_getElem hk] at hp
  rw[Bool.eq_false_iff]
  intro h
  rw[List.all_eq_true] at h
  have:=h xs[k] (List.getElem_mem hk)
  simp only[Option.getD_some] at hp
  rw[hp] at this
  cases this
theorem Dp{M:b7}{k:Nat}(hk:k<M.recs.length)(h:decide (200<(((M.recs.getD k ⟨0,0,0,[]⟩).words.length:Nat) : Int))=true) : eS M=false:=by
  unfold eS
  rw[yb (d:=⟨0,0,0,[]⟩) (xs:=M.recs) hk (by simp only[decide_eq_true_eq] at h;simp only[decide_eq_false_iff_not];omega)]
  simp
theorem Dn{M:b7}{k:Nat}(hk:k<M.objects.length)(h:decide (300<(((M.objects.getD k ⟨0,[]⟩).value.length:Nat) : Int))=true) : eS M=false:=by
  unfold eS
  rw[yb (d:=⟨0,[]⟩) (xs:=M.objects) hk (by simp only[decide_eq_true_eq] at h;simp only[decide_eq_false_iff_not];omega)]
  simp
theorem D6{M:b7}{j k:Nat}(h1:zV M=false)(hj:j=M.recs.length)(hr:(M.recs.take j).all (fun r=>decide (r.words.length≤200))=true)(hk:k=M.objects.length)(ho:(M.objects.take k).all (fun r=>decide (r.value.length≤300))=true) : eS M=true:=by
  subst hj hk
  rw[List.take_length] at hr ho
  unfold zV at h1
  simp only[Bool.or_eq_false_iff,decide_eq_false_iff_not] at h1
  unfold eS
  rw[hr,ho]
  simp only[Bool.and_true,Bool.and_eq_true,decide_eq_true_eq]
  omega
theorem lT{m:Md}{cs:Array Value}{M:b7}{w:World}(h:aH m w cs.toList M) : Calls Tryz.prog 26 #[.agg cs] w (bS (.bool (eS M)) w):=by
 refine jl h fun Aw kw Ab kb Ad kd Ar kr Ao ko e hw hbt hd hr ho _ _ _ _ _ _ _ _ _ _ q0 q1 q2 q3 q4 q5 q6 q7 q8 q9 ao ap aq i ar l au=>?_
 subst e
 refine en 63 Tryz.func26 rfl<|sg<|L0<|cX (mG M.code M.fail M.addr M.count M.value M.and_ M.or_ M.addr2 M.sub M.status M.events M.messages (.slice Aw M.words.length kw) (.slice Ab M.bits.length kb) (.slice Ad M.data.length kd) (.slice Ar M.recs.length kr) M.mei M.kind M.level M.more M.next (.slice Ao M.objects.length ko)) fun c J av a z=>al 1<|sq<|aA 1<|aD a 12<|Pl 3<|s8 5 [9] 14 9 (decide (300<((M.words.length:Nat) : Int))) (decide (2500<((M.bits.length:Nat) : Int))) (fun K L N=>?_) ?_
 have aw:=of_decide_eq_false N
 exact Pl 1<|L1<|iH a 13<|Pl 3<|ce L _ rfl
 refine Pl 1<|s8 5 [15] 20 15 ((decide (300<((M.words.length:Nat) : Int)))||(decide (2500<((M.bits.length:Nat) : Int)))) (decide (300<((M.data.length:Nat) : Int))) (fun K O i=>?_) ?_
 have P:=(fh i).1
 have Q:=(fh i).2
 have ax:=of_decide_eq_false P
 have az:=of_decide_eq_false Q
 exact Pl 1<|L1<|iH a 14<|Pl 3<|ce O _ rfl
 refine Pl 1<|s8 5 [21] 26 21 (((decide (300<((M.words.length:Nat) : Int)))||(decide (2500<((M.bits.length:Nat) : Int))))||(decide (300<((M.data.length:Nat) : Int)))) (decide (50<((M.recs.length:Nat) : Int))) (fun K R l=>?_) ?_
 have A:=(fh l).1
 have S:=(fh l).2
 have T:=(fh A).1
 have U:=(fh A).2
 have q19aap:=of_decide_eq_false T
 have q19abp:=of_decide_eq_false U
 have aC:=of_decide_eq_false S
 exact Pl 1<|L1<|iH a 15<|Pl 3<|ce R _ rfl
 refine Pl 1<|s8 5 [27] 32 27 ((((decide (300<((M.words.length:Nat) : Int)))||(decide (2500<((M.bits.length:Nat) : Int))))||(decide (300<((M.data.length:Nat) : Int))))||(decide (50<((M.recs.length:Nat) : Int)))) (decide (100<((M.objects.length:Nat) : Int))) (fun K V B=>?_) ?_
 have C:=(fh B).1
 have W:=(fh B).2
 have D:=(fh C).1
 have X:=(fh C).2
 have q21aaa:=(fh D).1
 have q21aab:=(fh D).2
 have q21aaap:=of_decide_eq_false q21aaa
 have q21aabp:=of_decide_eq_false q21aab
 have q21abp:=of_decide_eq_false X
 have aE:=of_decide_eq_false W
 exact Pl 1<|L1<|iH a 21<|Pl 3<|ce V _ rfl
 refine nt<|cb ((((((decide (300<((M.words.length:Nat) : Int)))||(decide (2500<((M.bits.length:Nat) : Int))))||(decide (300<((M.data.length:Nat) : Int))))||(decide (50<((M.recs.length:Nat) : Int))))||(decide (100<((M.objects.length:Nat) : Int))))) (fun b=>?_) (fun b=>?_)
 refine aB 1<|bQ<|rr (.bool false)<|?_
 have hs:eS M=false:=BP b
 rw[hs]
 exact⟨rfl,z⟩
 have E:=(fh b).1
 have Y:=(fh b).2
 have F:=(fh E).1
 have Z:=(fh E).2
 have q23aaa:=(fh F).1
 have q23aab:=(fh F).2
 have q23aaaa:=(fh q23aaa).1
 have q23aaab:=(fh q23aaa).2
 have q23aaaap:=of_decide_eq_false q23aaaa
 have q23aaabp:=of_decide_eq_false q23aaab
 have q23aabp:=of_decide_eq_false q23aab
 have q23abp:=of_decide_eq_false Z
 have aF:=of_decide_eq_false Y
 refine bM<|sq<|aB 1<|bk<|?_
 refine jZ (fun x=>[(1,vP c 0),(3,vI ((x:Nat) : Int))]) (fun(x:Nat) w'=>ay [] J w'∧((M.recs.take x).all (fun r:et=>decide (r.words.length≤200))=true)∧(x≤M.recs.length)) (fun x=>M.recs.length-x) 0 ⟨ay.refl _ _,(by(try dsimp only);simp),(by(try dsimp only);omega)⟩ ?_
 rintro j a0 ⟨n,a1,a2⟩
 refine iW [(1,vP c 0),(3,vI ((j:Nat) : Int))] ?_
 have G:(M.recs.take j).all (fun r:et=>decide (r.words.length≤200))=true:=a1
 have aG:j≤M.recs.length:=a2
 refine sq<|aA 2<|?_
 have o:=ub n a
 refine aD o 15<|al 2<|?_
 have q:=aK z n
 refine cb ((decide (((j:Nat) : Int)<((M.recs.length:Nat) : Int)))) (fun s=>?_) (fun s=>?_)
 have a3:=of_decide_eq_true s
 refine bM<|sq<|bk<|aA 1<|aD o 15<|Pl 1<|BA (pD.elt hr j (by omega)) fun a4 a5 aI aJ aL a6 a7 a8 a9 aM aN aa=>L0<|jC 4 M.recs.length j a8 (by omega)<|Pl 1<|?_
 refine L0<|jO (p:=⟨a4,a5+j*4+3,none⟩) (v:=.slice a6 ((M.recs.getD j ⟨0,0,0,[]⟩).words.length) a7) (BE (ub q a9) aa 3 rfl (by decide))<|al 2<|cb ((decide (200<(((M.recs.getD j ⟨0,0,0,[]⟩).words.length:Nat) : Int)))) (fun f=>?_) (fun f=>?_)
 have ab:=of_decide_eq_true f
 refine aB 1<|rt<|br<|tr<|tr<|br<|tr<|rr (.bool false)<|?_
 have hs:eS M=false:=Dp (by omega) f
 rw[hs]
 exact⟨rfl,q⟩
 have ab:=of_decide_eq_false f
 exact sk<|bn<|tn<|go<|Pl 1<|bD (((j:Nat) : Int)+1)<|Pl 1<|nl<|fD (j+1) ⟨n,(u9 (d:=⟨0,0,0,[]⟩) G (by omega) (by simp only[decide_eq_true_eq];omega)),(by(try dsimp only);omega)⟩ (by omega)
 have a3:=of_decide_eq_false s
 refine xt<|tx<|tx<|bx<|tn<|sq<|aB 1<|bk<|?_
 refine jZ (fun x=>[(1,vP c 0),(4,vI ((x:Nat) : Int))]) (fun(x:Nat) w'=>ay [] a0 w'∧((M.objects.take x).all (fun r:Obj=>decide (r.value.length≤300))=true)∧(x≤M.objects.length)) (fun x=>M.objects.length-x) 0 ⟨ay.refl _ _,(by(try dsimp only);simp),(by(try dsimp only);omega)⟩ ?_
 rintro k aO ⟨t,ac,ad⟩
 refine iW [(1,vP c 0),(4,vI ((k:Nat) : Int))] ?_
 have H:(M.objects.take k).all (fun r:Obj=>decide (r.value.length≤300))=true:=ac
 have aP:k≤M.objects.length:=ad
 refine sq<|aA 2<|?_
 have I:=ub t o
 refine aD I 21<|al 2<|?_
 have u:=aK q t
 refine cb ((decide (((k:Nat) : Int)<((M.objects.length:Nat) : Int)))) (fun y=>?_) (fun y=>?_)
 have ae:=of_decide_eq_true y
 refine bM<|sq<|bk<|aA 1<|aD I 21<|Pl 1<|BA (pC.elt ho k (by omega)) fun af ag aQ aR aS ah ai aj ak aT aU am=>L0<|jC 2 M.objects.length k aj (by omega)<|Pl 1<|?_
 refine L0<|jO (p:=⟨af,ag+k*2+1,none⟩) (v:=.slice ah ((M.objects.getD k ⟨0,[]⟩).value.length) ai) (BE (ub u ak) am 1 rfl (by decide))<|al 2<|cb ((decide (300<(((M.objects.getD k ⟨0,[]⟩).value.length:Nat) : Int)))) (fun g=>?_) (fun g=>?_)
 have an:=of_decide_eq_true g
 refine aB 1<|rt<|br<|tr<|tr<|br<|tr<|rr (.bool false)<|?_
 have hs:eS M=false:=Dn (by omega) g
 rw[hs]
 exact⟨rfl,u⟩
 have an:=of_decide_eq_false g
 exact sk<|bn<|tn<|go<|Pl 1<|bD (((k:Nat) : Int)+1)<|Pl 1<|nl<|fD (k+1) ⟨t,(u9 (d:=⟨0,[]⟩) H (by omega) (by simp only[decide_eq_true_eq];omega)),(by(try dsimp only);omega)⟩ (by omega)
 have ae:=of_decide_eq_false y
 refine xt<|tx<|tx<|bx<|tn<|aB 1<|rt<|rr (.bool true)<|?_
 have hs:eS M=true:=D6 (j:=j) (k:=k) b (by omega) G (by omega) H
 rw[hs]
 exact⟨rfl,u⟩
end Go.Proofs.YtdkhbcefkfgbdaaGreat
