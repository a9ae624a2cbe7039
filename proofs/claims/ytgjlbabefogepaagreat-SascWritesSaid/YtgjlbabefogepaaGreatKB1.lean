/- Contracts of functions, part KB1. -/
import Derived.Test.YtgjlbabefogepaaGreatKA1
import Derived.Test.YtgjlbabefogepaaGreatKA2
import Derived.Test.YtgjlbabefogepaaGreatKA3
import Derived.Test.YtgjlbabefogepaaGreatKA4
import Derived.Test.YtgjlbabefogepaaGreatKA5
import Derived.Deep.Upon
import Derived.Scope
import Derived.Lib.ConvBytes
import Derived.Lib.OthersKept
import Derived.Laws.BitsAllLaws
import Derived.Shelf.Strings.Builder1
import Derived.Lib.SlBytesConst
import Derived.SizedLaws
import Derived.Laws.StructEq
set_option linter.unusedVariables false
set_option linter.unusedSimpArgs false
namespace Go.Proofs.YtgjlbabefogepaaGreat
open Go.RowKit
structure Frm where
  unit:Int
  tid:Int
  msg:Msg
def Frm.zero:Frm:=⟨0,0,Msg.zero⟩
def FrmRd (m:Bool) (w:World) (cs:Array Value) (F:Frm) : Prop:=∃ c:Array Value,cs = #[.int .u8 F.unit,.int .u16 F.tid]++c∧MsgRd m w c.toList F.msg∧B8 F.unit∧B16 F.tid
def PFrm (res:Frm × Int) (w:World) (e:Ending) (w':World) : Prop:=∃ cs,e = .returned (.tuple #[.agg cs,.int .i64 res.2])∧FrmRd true w' cs res.1∧Upd [] w w'
theorem pf_eq {x y:Frm × Int} (h:x=y) {w:World} {e:Ending} {w':World} (k:PFrm y w e w') : PFrm x w e w':=by rw [h]; exact k
def frmZ:Array Value:=#[.int .u8 0,.int .u16 0,.int .u8 0,.int .u8 0,.int .u16 0,.int .u16 0,.int .u16 0,.int .u16 0,.int .u16 0,.int .u16 0,.int .u16 0,.int .u16 0,.int .u16 0,.int .u16 0,.slice none 0 0,.slice none 0 0,.slice none 0 0,.slice none 0 0,.int .u8 0,.int .u8 0,.int .u8 0,.int .u8 0,.int .u8 0,.slice none 0 0]
theorem bad_frm {x:Int} {w W:World} (hu:Upd [] w W) : PFrm (Frm.zero,x) w (.returned (.tuple #[.agg frmZ,.int .i64 x])) W:=⟨_,rfl,⟨msgZ,(by kernel_rfl),MsgRd.zero ..,(show (0:Int)≤0∧(0:Int) < 256 from by decide),(show (0:Int)≤0∧(0:Int) < 65536 from by decide)⟩,hu⟩
def frmOf (u t:Int) : Msg × Int→Frm × Int
  | (M,E)=>if E != 0 then (Frm.zero,E) else (⟨u,t,M⟩,0)
theorem pduW_len {dir:Int} {M:Msg} {l:List Int} (h:pduW dir M=some l) : l.length≤253:=by
  unfold pduW at h
  split at h
  · split at h
    · cases h
    · unfold refW at h
      split at h
      · cases h
      · split at h
        · cases h
        · injection h with h
          subst h
          simp only [List.length_cons,List.length_nil]
          omega
  · split at h
    · cases h
    · split at h
      · cases h
      · rename_i hl
        injection h with h
        subst h
        simp only [decide_eq_true_eq] at hl
        simp only [List.length_append,List.length_cons,List.length_nil]
        omega
open Go.RowKit
deriving instance DecidableEq for Frm
def fcl (u t:Int) (M:Msg) (x:SL) : Array Value:=#[.int .u8 u,.int .u16 t,.int .u8 M.code,.int .u8 M.fail,.int .u16 M.addr,.int .u16 M.count,.int .u16 M.value,.int .u16 M.and_,.int .u16 M.or_,.int .u16 M.addr2,.int .u16 M.sub,.int .u16 M.status,.int .u16 M.events,.int .u16 M.messages,.slice x.aw M.words.length x.kw,.slice x.ab M.bits.length x.kb,.slice x.ad M.data.length x.kd,.slice x.ar M.recs.length x.kr,.int .u8 M.mei,.int .u8 M.kind,.int .u8 M.level,.int .u8 M.more,.int .u8 M.next,.slice x.ao M.objects.length x.ko]
theorem fcl_eq (u t:Int) (M:Msg) (x:SL) : fcl u t M x = #[.int .u8 u,.int .u16 t]++mcl M x:=by kernel_rfl
open Go.RowKit
structure Ev where
  e:Int
  f:Frm
def Ev.bad (e:Int) : Ev:=⟨e,Frm.zero⟩
def evl (x:Ev) (s:SL) : Array Value:=#[.int .i64 x.e,.int .u8 x.f.unit,.int .u16 x.f.tid,.int .u8 x.f.msg.code,.int .u8 x.f.msg.fail,.int .u16 x.f.msg.addr,.int .u16 x.f.msg.count,.int .u16 x.f.msg.value,.int .u16 x.f.msg.and_,.int .u16 x.f.msg.or_,.int .u16 x.f.msg.addr2,.int .u16 x.f.msg.sub,.int .u16 x.f.msg.status,.int .u16 x.f.msg.events,.int .u16 x.f.msg.messages,.slice s.aw x.f.msg.words.length s.kw,.slice s.ab x.f.msg.bits.length s.kb,.slice s.ad x.f.msg.data.length s.kd,.slice s.ar x.f.msg.recs.length s.kr,.int .u8 x.f.msg.mei,.int .u8 x.f.msg.kind,.int .u8 x.f.msg.level,.int .u8 x.f.msg.more,.int .u8 x.f.msg.next,.slice s.ao x.f.msg.objects.length s.ko]
theorem evl_eq (x:Ev) (s:SL) : evl x s = #[.int .i64 x.e]++fcl x.f.unit x.f.tid x.f.msg s:=by kernel_rfl
def evR (m:Bool) (w:World) (x:Ev) (cs:List Value) : Prop:=∃ s,cs=(evl x s).toList∧MsgRd m w (mcl x.f.msg s).toList x.f.msg∧(0≤x.f.unit∧x.f.unit < 256)∧(0≤x.f.tid∧x.f.tid < 65536)
def frR (m:Bool) (w:World) (f:Frm) (cs:List Value) : Prop:=∃ s,cs=(fcl f.unit f.tid f.msg s).toList∧MsgRd m w (mcl f.msg s).toList f.msg∧(0≤f.unit∧f.unit < 256)∧(0≤f.tid∧f.tid < 65536)
def byR (m:Bool) (w:World) (b:List Int) (cs:List Value) : Prop:=∃ v,cs=[v]∧RdB m w v b
abbrev RdE (m:Bool) (w:World) (v:Value) (xs:List Ev) : Prop:=RdG m 61 25 (evR m) w v xs
abbrev OwnE (base:Nat) (w:World) (v:Value) (xs:List Ev) : Prop:=OwnG base 61 25 (evR true) w v xs
theorem evR.upd {m:Bool} {w w':World} {S:List Nat} (hu:Upd S w w') (hs:Safe m dataT S w) (x:Ev) (cs:List Value) (h:evR m w x cs) : evR m w' x cs:=by
  obtain ⟨s,h1,h2,h3⟩:=h
  exact ⟨s,h1,h2.upd hu hs,h3⟩
theorem RdE.upd' {m:Bool} {w w':World} {v:Value} {xs:List Ev} {S:List Nat} (h:RdE m w v xs) (hu:Upd S w w') (hs:Safe m (61 :: dataT) S w) : RdE m w' v xs:=RdG.upd h hu (hs.sub fun t ht=>by rw [List.mem_singleton] at ht; rw [ht]; exact List.mem_cons_self ..) (evR.upd hu (hs.sub fun t ht=>List.mem_cons_of_mem _ ht))
theorem RdE.old {m:Bool} {w w':World} {v:Value} {xs:List Ev} (h:RdE m w v xs) (hu:Upd [] w w') : RdE m w' v xs:=h.upd' hu (Safe.nil _ _ _)
theorem evl_size (x:Ev) (s:SL) : (evl x s).toList.length=25:=by kernel_rfl
theorem SL_nil {w:World}:MsgRd true w (mcl Msg.zero ⟨none,0,none,0,none,0,none,0,none,0⟩).toList Msg.zero:=MsgRd.zero ..
theorem litE {w0 w:World} {g:Nat} {cs:Array Value} {x:Ev} (hg:w0.heap.size≤g) (hb:w.heap[g]? = some (.cells cs 61 (0,0))) (h:evR true w x cs.toList) : OwnE w0.heap.size w (.slice (some ⟨g,0,none⟩) 1 1) [x]:=by
  have hh:=h
  obtain ⟨s,h1,h2⟩:=hh
  have hl:cs.toList.length=25:=by rw [h1]; exact evl_size x s
  clear h1
  refine ⟨cs.toList,⟨hl,.inr ⟨g,1,cs,rfl,hg,hb,Nat.le_refl _,by unfold maxLen; omega,by simpa using hl,by rw [List.take_of_length_le]; exact Nat.le_of_eq hl⟩⟩,fun j y hj=>?_⟩
  cases j with
  | succ j=>simp at hj
  | zero =>
    have hj:x=y:=by simpa using hj
    subst hj
    exact ⟨cs.toList,hl,h,fun i u hi=>by simpa using hi⟩
theorem x64 {α β γ δ ε ζ:Sort _} {C:Prop} {P1 P2 P3 P4:α→β→γ→δ→ε→ζ→Prop} (h:∃ a b c d e f,P1 a b c d e f∧P2 a b c d e f∧P3 a b c d e f∧P4 a b c d e f) (k:∀ a b c d e f,P1 a b c d e f→P2 a b c d e f→P3 a b c d e f→P4 a b c d e f→C) : C :=
  let ⟨a,b,c,d,e,f,h1,h2,h3,h4⟩:=h; k a b c d e f h1 h2 h3 h4
theorem x45 {α β γ δ:Sort _} {C:Prop} {P1 P2 P3 P4 P5:α→β→γ→δ→Prop} (h:∃ a b c d,P1 a b c d∧P2 a b c d∧P3 a b c d∧P4 a b c d∧P5 a b c d) (k:∀ a b c d,P1 a b c d→P2 a b c d→P3 a b c d→P4 a b c d→P5 a b c d→C) : C :=
  let ⟨a,b,c,d,h1,h2,h3,h4,h5⟩:=h; k a b c d h1 h2 h3 h4 h5
theorem el_sub {cs:Array Value} {o n k m:Nat} {sub sub2:List Value} (hs:(cs.toList.drop o).take n=sub) (hv:(sub.drop k).take m=sub2) (hk:k + m≤n) : (cs.toList.drop (o + k)).take m=sub2:=by
  rw [← hv,← hs,List.drop_take,List.take_take,List.drop_drop,Nat.min_eq_left (by omega)]
theorem evR.ones {m:Bool} {w:World} (x:Ev) (cs:List Value) (h:evR m w x cs) : ∀ v,v∈cs→v.oneCell'=true:=by
  obtain ⟨s,h1,h2,_⟩:=h
  have h3:=h2.one
  intro v hv
  rw [h1,evl_eq,fcl_eq,Array.toList_append,Array.toList_append,List.mem_append,List.mem_append] at hv
  clear h1
  rw [Array.all_eq_true'] at h3
  rcases hv with hv | hv | hv
  · simp at hv; subst hv; rfl
  · simp at hv; rcases hv with rfl | rfl <;> rfl
  · exact h3 v (by simpa using hv)
theorem RdE.elt {m:Bool} {w:World} {A:Option Addr} {n c:Nat} {xs:List Ev} (h:RdE m w (.slice A n c) xs) (j:Nat) (hj:j < xs.length) (d:Ev) :
    ∃ b off cells t fr s,A=some ⟨b,off,none⟩∧w.heap[b]? = some (.cells cells t fr)∧(MsgRd m w (mcl (xs.getD j d).f.msg s).toList (xs.getD j d).f.msg∧(0≤(xs.getD j d).f.unit∧(xs.getD j d).f.unit < 256)∧(0≤(xs.getD j d).f.tid∧(xs.getD j d).f.tid < 65536))∧(cells.toList.drop (off + j * 25)).take 25=(evl (xs.getD j d) s).toList:=by
  obtain ⟨b,off,cells,t,fr,cs,h1,h2,h3,⟨s,h4,h5⟩,h6⟩:=RdG.elt h d j hj
  exact ⟨b,off,cells,t,fr,s,h1,h2,h5,h6.trans h4⟩
abbrev RdF (m:Bool) (w:World) (v:Value) (xs:List Frm) : Prop:=RdG m 47 24 (frR m) w v xs
abbrev RdBs (m:Bool) (w:World) (v:Value) (xs:List (List Int)) : Prop:=RdG m 29 1 (byR m) w v xs
theorem frR.upd {m:Bool} {w w':World} {S:List Nat} (hu:Upd S w w') (hs:Safe m dataT S w) (x:Frm) (cs:List Value) (h:frR m w x cs) : frR m w' x cs:=by
  obtain ⟨s,h1,h2,h3⟩:=h
  exact ⟨s,h1,h2.upd hu hs,h3⟩
theorem RdF.old {m:Bool} {w w':World} {v:Value} {xs:List Frm} (h:RdF m w v xs) (hu:Upd [] w w') : RdF m w' v xs:=RdG.upd h hu (Safe.nil _ _ _) (frR.upd hu (Safe.nil _ _ _))
theorem RdF.elt {m:Bool} {w:World} {A:Option Addr} {n c:Nat} {xs:List Frm} (h:RdF m w (.slice A n c) xs) (j:Nat) (hj:j < xs.length) (d:Frm) :
    ∃ b off cells t fr s,A=some ⟨b,off,none⟩∧w.heap[b]? = some (.cells cells t fr)∧(MsgRd m w (mcl (xs.getD j d).msg s).toList (xs.getD j d).msg∧(0≤(xs.getD j d).unit∧(xs.getD j d).unit < 256)∧(0≤(xs.getD j d).tid∧(xs.getD j d).tid < 65536))∧(cells.toList.drop (off + j * 24)).take 24=(fcl (xs.getD j d).unit (xs.getD j d).tid (xs.getD j d).msg s).toList:=by
  obtain ⟨b,off,cells,t,fr,cs,h1,h2,h3,⟨s,h4,h5⟩,h6⟩:=RdG.elt h d j hj
  exact ⟨b,off,cells,t,fr,s,h1,h2,h5,h6.trans h4⟩
theorem RdBs.old {m:Bool} {w w':World} {v:Value} {xs:List (List Int)} (h:RdBs m w v xs) (hu:Upd [] w w') : RdBs m w' v xs:=RdG.upd h hu (Safe.nil _ _ _) fun x cs ⟨v,h1,h2⟩=>⟨v,h1,h2.old hu⟩
theorem RdBs.elt {m:Bool} {w:World} {A:Option Addr} {n c:Nat} {xs:List (List Int)} (h:RdBs m w (.slice A n c) xs) (j:Nat) (hj:j < xs.length) :
    ∃ b off A' c',A=some ⟨b,off,none⟩∧w.cell? ⟨b,off + j,none⟩=some (.slice A' (xs.getD j []).length c')∧RdB m w (.slice A' (xs.getD j []).length c') (xs.getD j [])∧(xs.getD j []).length≤c'∧c'≤maxLen:=by
  obtain ⟨b,off,cells,t,fr,cs,h1,h2,h3,⟨v,h4,h5⟩,h6⟩:=RdG.elt h [] j hj
  obtain ⟨A',c',rfl,h7,h8⟩:=h5.shape
  refine ⟨b,off,A',c',h1,?_,h5,h7,h8⟩
  rw [blk_cell h2]
  rw [h4] at h6
  have h9:=congrArg (fun z=>z[0]?) h6
  simpa using h9
open Go.RowKit
theorem run_min {P:Program} {w:World} {ev:Operand→Value} {o:Oper} {x y:Operand} {ts:Array TypeId} {k:IntKind} {a b:Int} (ho:o.op = .call { callee:=.builtin .min,args:=#[x,y],argTypes:=ts }) (hx:ev x = .int k a) (hy:ev y = .int k b) : (execOp ev o).run P w = .ok (.value (.int k (min a b))) w:=by
  have h:(Builtin.min_ ts o.type #[.int k a,.int k b]).run P w = .ok (.int k (min a b)) w:=by
    simp [Builtin.min_,Builtin.min2]
    split <;> simp [Int.min_def] <;> omega
  unfold execOp
  simp only [ho,resolve,invoke,builtin,Sem.run_bind,Sem.run_pure,Result.andThen_ok,List.map_toArray,List.map_cons,List.map_nil,hx,hy,h]
theorem RdG.adr {α:Type} {m:Bool} {e:TypeId} {sz:Nat} {R:World→α→List Value→Prop} {w:World} {A:Option Addr} {n c:Nat} {xs:List α} (h:RdG m e sz R w (.slice A n c) xs) : 0 < n→∃ b off,A=some ⟨b,off,none⟩:=fun hn=>by
  obtain ⟨A',c',hv,hc1,hc2,h0,h3⟩:=h
  injection hv with e1 e2 e3
  subst e1 e2 e3
  obtain ⟨b,off,cells,t,fr,hA,_⟩:=h3 hn
  exact ⟨b,off,hA⟩
theorem RdG.cap {α:Type} {m:Bool} {e:TypeId} {sz:Nat} {R:World→α→List Value→Prop} {w:World} {A:Option Addr} {n c:Nat} {xs:List α} (h:RdG m e sz R w (.slice A n c) xs) : n≤c:=by
  obtain ⟨A',c',hv,h1,_⟩:=h
  injection hv with _ e2 e3
  subst e2 e3
  exact h1
theorem run_full {P:Program} {w:World} {ev:Operand→Value} {o:Oper} {x y z:Operand} {t e:TypeId} {A:Option Addr} {n c:Nat} {k1 k2:IntKind} {i1 i2:Int} (ho:o.op = .slice t x none (some y) (some z)) (ht:P.underlying t=some (.slice e)) (hi:(P.info? e).map (·.size)=some 1)
    (hx:ev x = .slice A n c) (hy:ev y = .int k1 i1) (hz:ev z = .int k2 i2) (h1:i1=(n:Int)) (h2:i2=(n:Int)) (hc1:n≤c) (hA:0 < n→∃ b off,A=some ⟨b,off,none⟩) : (execOp ev o).run P w = .ok (.value (.slice A n n)) w:=by
  subst h1 h2
  obtain ⟨i0,hi0,hs⟩:=Option.map_eq_some_iff.1 hi
  have hel:P.elem t=e:=by simp [Program.elem,ht]
  have hu:P.underlying t=some (.slice (P.elem t)):=by rw [hel]; exact ht
  have hr:=run_slice_hm (P:=P) w t A n c hu k1 k2 ((n:Nat) : Int) ((n:Nat) : Int) (by omega) (Int.le_refl _) (by omega)
  have hA:(if n=0 then A else A.map (·.add 0))=A:=by
    split
    · rfl
    · rename_i hne
      obtain ⟨b,off,rfl⟩:=hA (by omega)
      rfl
  have hr2:(Instr.slice t (.slice A n c) none (some (.int k1 ((n:Nat) : Int))) (some (.int k2 ((n:Nat) : Int)))).run P w = .ok (.slice A n n) w:=by
    rw [hr,hel]
    simp [sizeOf,typeInfo,hi0,hs,sliced,Result.andThen]
    simpa using hA
  have hu2:(underlying t).run P w = .ok (.slice e) w:=run_underlying ht w
  unfold execOp
  simp only [ho,Option.map_some,Option.map_none,hx,hy,hz,Instr.sliceAt,Sem.run_bind,hu2,hr2,Result.andThen,Sem.run_pure]
theorem RdB.full {m:Bool} {w:World} {A:Option Addr} {n c:Nat} {xs:List Int} (h:RdB m w (.slice A n c) xs) : RdB m w (.slice A n n) xs:=by
  obtain ⟨A',c',hv,hc1,hc2,h0,h3⟩:=h
  injection hv with e1 e2 e3
  subst e1 e2 e3
  refine ⟨A,xs.length,rfl,Nat.le_refl _,Nat.le_trans hc1 hc2,fun hA=>?_,h3⟩
  have:=h0 hA
  omega
theorem src_none {P:Program} {A:Option Addr} {c:Nat} (w:World) : (Builtin.firstCells 1 0 (.slice A 0 c)).run P w = .ok #[] w:=by
  cases A with
  | none=>simp [Builtin.firstCells]
  | some a =>
    have:=run_loadCells_list (P:=P) w a [] (fun j v hj=>by simp at hj)
    simpa [Builtin.firstCells] using this
theorem src_rd {P:Program} {m:Bool} {w:World} {t e:TypeId} {A:Option Addr} {n c:Nat} {ys:List Int} (ht:P.underlying t=some (.slice e)) (h:RdB m w (.slice A n c) ys) (h0:ys=[]) : Src P 1 t (.slice A n c) 0 [] w:=by
  subst h0
  obtain ⟨A',c',hv,hc1,hc2,h0,h3⟩:=h
  injection hv with e1 e2 e3
  subst e1 e2 e3
  exact ⟨.inl ⟨e,ht⟩,fun w'=>by simp [Builtin.lenOf],src_none w,src_none w.drew,rfl,fun u hu=>by cases hu⟩
theorem run_append_full {P:Program} {m:Bool} {w:World} (t ty e:TypeId) (ht:P.underlying t=some (.slice e)) (hte:e=5) (hinfo:(P.info? e).map (fun i=>(i.zero,i.size,i.bytes))=some (some (.int .u8 0),1,1))
    {A:Option Addr} {xs ys:List Int} (HX:RdB true w (.slice A xs.length xs.length) xs) {u:Value} (HY:RdB m w u ys) (hl:xs.length + ys.length≤4194304) :
    ∃ v w',(Builtin.append_ #[t,t] ty #[.slice A xs.length xs.length,u]).run P w = .ok v w'∧RdB true w' v (xs++ys)∧Upd [] w w':=by
  subst hte
  obtain ⟨i0,hi,hz0,hz1,hz2⟩:=info_parts hinfo
  obtain ⟨B,c,rfl,hc1,hc2⟩:=HY.shape
  by_cases hy:ys=[]
  · have hs:=src_rd (P:=P) ht HY hy
    subst hy
    rw [← hz1] at hs
    exact ⟨_,w,run_append_nothing w t t ty _ i0 ht hi A xs.length xs.length (Nat.le_refl _) _ hs,by simpa using HX,Upd.refl _ _⟩
  have hyl:0 < ys.length:=by
    cases ys with
    | nil=>exact absurd rfl hy
    | cons a r=>simp
  cases B with
  | none =>
    obtain ⟨B,c',hv,_,_,h0,h3⟩:=HY
    injection hv with e1 e2 e3
    subst e1 e3
    obtain ⟨b,off,cells,t,fr,hh,_⟩:=h3 hyl
    cases hh
  | some ad =>
    obtain ⟨_,hnews⟩:=cell_news one_u8.cell HY
    have hby:∀ x,x∈xs++ys→0≤x∧x < 256:=fun x hx=>by
      rcases List.mem_append.1 hx with h | h
      · exact HX.rng x h
      · exact HY.rng x h
    have fin:∀ (cp:Nat) (w':World) (zs:Array Value),xs.length + ys.length≤cp→cp≤maxLen→w'.heap[w.heap.size]? = some (.cells (((xs++ys).map (Value.int .u8)).toArray++zs) 5 (0,0))→RdB true w' (.slice (some ⟨w.heap.size,0,none⟩) (xs.length + ys.length) cp) (xs++ys):=fun cp w' zs h1 h2 h3=>by
      refine ⟨_,cp,by rw [List.length_append],by rw [List.length_append]; exact h1,h2,(fun hA=>by cases hA),fun hp=>⟨w.heap.size,0,_,_,_,rfl,h3,fun _=>rfl,fun j x hj=>?_⟩⟩
      refine ⟨[.int .u8 x],rfl,⟨rfl,hby x (List.mem_of_getElem? hj)⟩,fun i u hi=>?_⟩
      cases i with
      | succ i=>simp at hi
      | zero =>
        have hi:Value.int .u8 x=u:=by simpa using hi
        subst hi
        have hlt:=(List.getElem?_eq_some_iff.1 hj).1
        rw [Array.getElem?_append_left (by simp; simpa using hlt)]
        simp only [Nat.zero_add,Nat.mul_one,Nat.add_zero]
        rw [List.getElem?_toArray,List.getElem?_map,hj]
        rfl
    cases A with
    | none =>
      have hx0:xs=[]:=by
        obtain ⟨B,c',hv,_,_,h0,h3⟩:=HX
        injection hv with e1 e2 e3
        subst e1
        have:=h0 rfl
        exact List.eq_nil_of_length_eq_zero (by omega)
      subst hx0
      have hr:=run_append_nil (P:=P) w t ty _ i0 (.int .u8 0) ht hi hz0 ad ys.length c (ys.map (Value.int .u8)) (by rw [hz1]; simp) hnews hyl (by omega) (by rw [hz2]; omega)
      refine ⟨_,_,hr,?_,((Upd.refl _ _).drew).alloc _⟩
      have:=fin (grownCap w ys.length 0 5) (w.drew.alloc (.cells ((ys.map (Value.int .u8)).toArray++Builtin.zeroCells (Value.int .u8 0).cells (grownCap w ys.length 0 5 - ys.length)) 5)) (Builtin.zeroCells (Value.int .u8 0).cells (grownCap w ys.length 0 5 - ys.length)) (by simpa using grownCap_ge w ys.length 0 _) (grownCap_le_maxLen _ _ _ _ (by unfold maxLen; omega)) (by simpa using blk_new w.drew _)
      simpa using this
    | some bd =>
      obtain ⟨_,holds⟩:=cell_news one_u8.cell HX
      have hr:=run_append_grow (P:=P) w t ty _ i0 (.int .u8 0) ht hi hz0 bd xs.length xs.length (xs.map (Value.int .u8)) (by rw [hz1]; simp) holds ad ys.length c (ys.map (Value.int .u8)) (by rw [hz1]; simp) hnews (by omega) (by omega) (by
        rw [hz2]
        have:=nextslicecap_le (need:=xs.length + ys.length) (old:=xs.length) (by omega)
        omega)
      refine ⟨_,_,hr,?_,((Upd.refl _ _).drew).alloc _⟩
      refine fin (grownCap w (xs.length + ys.length) xs.length 5) _ (Builtin.zeroCells (Value.int .u8 0).cells (grownCap w (xs.length + ys.length) xs.length 5 - (xs.length + ys.length))) (grownCap_ge w _ _ _) (grownCap_le_maxLen _ _ _ _ (by unfold maxLen; omega)) ?_
      simpa using blk_new w.drew _
section
variable {P:Program} {n:Nat} {D:List Deferred} {F:Fr} {w:World} {K:Fr→World→Prop} {Q:Exit→Act→World→Prop} {d:Option Tmp} {t:TypeId} {s:String} {af:Array Edge} {gu:Option (Nat × Bool)}
theorem Oapc {ty:TypeId} {x y:Operand} {m:Bool} {A:Option Addr} {xs ys:List Int} {u:Value} (HX:RdB true w (.slice A xs.length xs.length) xs) (HY:RdB m w u ys) (hl:xs.length + ys.length≤4194304)
    (h:∀ A' cp w',RdB true w' (.slice A' (xs++ys).length cp) (xs++ys)→Upd [] w w'→K (pt d (.slice A' (xs++ys).length cp) F) w') (hx:evo F x=some (.slice A xs.length xs.length):=by kernel_rfl) (hy:evo F y=some u:=by kernel_rfl)
    (hs:(slE P ty,(P.info? 5).map (fun i=>(i.zero,i.size,i.bytes)),dok n d)=(some 5,some (some (.int .u8 0),1,1),true):=by kernel_rfl) : OG P ⟨d,.call { callee:=.builtin .append,args:=#[x,y],argTypes:=#[ty,ty] },t,s,af,gu⟩ n D F w K Q:=by
  simp only [Prod.mk.injEq] at hs
  obtain ⟨h1,h2,h3⟩:=hs
  obtain ⟨v,w',hr,hv,hu⟩:=run_append_full (P:=P) (w:=w) ty t _ (slE_some h1) rfl h2 HX HY hl
  obtain ⟨A',cp,rfl,_,_⟩:=hv.shape
  refine ⟨fun a ha K' hK=>OW.mk ?_⟩
  have hx':=ha.ev hx
  have hy':=ha.ev hy
  unfold Oper.wp execOp
  simp only [resolve,invoke,builtin,Sem.run_bind,Sem.run_pure,Result.andThen_ok,List.map_toArray,List.map_cons,List.map_nil,hx',hy',hr]
  exact hK _ _ _ (h A' cp w' hv hu) (ha.put h3)
end
open Go.RowKit
theorem src_none' {P:Program} {sz:Nat} {A:Option Addr} {c:Nat} (w:World) : (Builtin.firstCells sz 0 (.slice A 0 c)).run P w = .ok #[] w:=by
  cases A with
  | none=>simp [Builtin.firstCells]
  | some a =>
    have:=run_loadCells_list (P:=P) w a [] (fun j v hj=>by simp at hj)
    simpa [Builtin.firstCells] using this
theorem not_typeX {α:Type} {base sz:Nat} {e t:TypeId} {R:World→α→List Value→Prop} {w:World} {A:Option Addr} {n c g:Nat} {xs:List α} (hb:∃ cs fr,w.heap[g]? = some (.cells cs t fr)) (h:OwnG base e sz R w (.slice A n c) xs) (ht:(t == e)=false) : g ∉ ob A:=by
  obtain ⟨cs,fr,hb⟩:=hb
  exact not_type hb h ht
theorem rows_from {β:Type} {base2 sz2:Nat} {e2:TypeId} {R2:World→β→List Value→Prop} {A A2 B:Option Addr} {w wY:World} {n c:Nat} {ys:List β} (hat:∀ g,g∈ob A2→g∈ob A∨w.heap.size≤g) (h1:∀ x,x∈ob A→x ∉ ob B) (hY:OwnG base2 e2 sz2 R2 wY (.slice B n c) ys) (hs:wY.heap.size≤w.heap.size) : ∀ x,x∈ob A2→x ∉ ob B:=fun x hx=>by
  rcases hat x hx with h | h
  · exact h1 x h
  · exact fun hb=>by have:=ob_lt hY x hb; omega
section
variable {P:Program} {n:Nat} {D:List Deferred} {F:Fr} {w:World} {K:Fr→World→Prop} {Q:Exit→Act→World→Prop} {d:Option Tmp} {t:TypeId} {s:String} {af:Array Edge} {gu:Option (Nat × Bool)}
theorem Oape {α:Type} {R:World→α→List Value→Prop} {x y:Operand} {e:TypeId} {base m c:Nat} {A:Option Addr} {xs ys:List α} {mm:Bool} {e' ty:TypeId} {u:Value} (z:Value) (sz bytes:Nat) (HO:OwnG base e sz R w (.slice A m c) xs) (HY:RdG mm e' sz R w u ys)
    (hone:∀ x cs,R w x cs→∀ v,v∈cs→v.oneCell'=true) (hRU:∀ w',Upd (ob A++[]) w w'→∀ x cs,R w x cs→R w' x cs)
    (hl:xs.length + ys.length≤4194304) (hbase:base≤w.heap.size) (h:∀ A' c' w',OwnG base e sz R w' (.slice A' (xs++ys).length c') (xs++ys)→Upd (ob A++[]) w w'→(∀ g,g∈ob A'→g∈ob A∨w.heap.size≤g)→K (pt d (.slice A' (xs++ys).length c') F) w')
    (hx:evo F x=some (.slice A m c):=by kernel_rfl) (hy':evo F y=some u:=by kernel_rfl) (he:slE P ty=some e:=by kernel_rfl) (hs:(infA P ty,z.cells.size,(dok n d && Nat.ble bytes 65536) && Nat.blt 0 sz)=(some (some z,sz,bytes),sz,true):=by kernel_rfl) : OG P ⟨d,.call { callee:=.builtin .append,args:=#[x,y],argTypes:=#[ty,ty] },t,s,af,gu⟩ n D F w K Q:=by
  by_cases hne:ys=[]
  · subst hne
    simp only [Prod.mk.injEq] at hs
    have h3:=and2 (and2 hs.2.2).1
    obtain ⟨A0,c0,e0,hc1,_⟩:=HO.rd.shape
    have e0:=e0.symm
    injection e0 with e1 e2 e3
    subst e2
    subst e1 e3
    obtain ⟨B,cB,rfl,_,_⟩:=HY.shape
    have hinf:(P.info? e).map (fun i=>(i.zero,i.size,i.bytes))=some (some z,sz,bytes):=by have:=hs.1; unfold infA at this; rw [he] at this; exact this
    obtain ⟨i0,hi,hz0,hz1,hz2⟩:=info_parts hinf
    have hsr:Src P i0.size ty (.slice B 0 cB) 0 [] w:=⟨.inl ⟨e,slE_some he⟩,fun w'=>by simp [Builtin.lenOf],src_none' w,src_none' w.drew,by simp,fun u hu=>by cases hu⟩
    have hr:=run_append_nothing w ty ty t _ i0 (slE_some he) hi A0 xs.length c0 hc1 _ hsr
    refine ⟨fun a ha K' hK=>OW.mk ?_⟩
    have hx':=ha.ev hx
    have hy2:=ha.ev hy'
    simp only [List.length_nil] at hy2
    unfold Oper.wp execOp
    simp only [resolve,invoke,builtin,Sem.run_bind,Sem.run_pure,Result.andThen_ok,List.map_toArray,List.map_cons,List.map_nil,hx',hy2,hr]
    refine hK _ _ _ (h A0 c0 w (by rw [List.append_nil]; exact HO) (Upd.mono (S':=ob A0++[]) (Upd.refl [] w) (fun x hx=>by cases hx)) (fun g hg=>.inl hg)) ?_
    rw [List.append_nil]
    exact ha.put h3.1
  · have hy:0 < ys.length:=by
      cases ys with
      | nil=>exact absurd rfl hne
      | cons a r=>simp
    simp only [Prod.mk.injEq] at hs
    have h2:=and2 hs.2.2
    have h3:=and2 h2.1
    exact ⟨fun a ha K' hK=>ow_appg2 z sz bytes rfl rfl (slE_some he) (by have:=hs.1; unfold infA at this; rw [he] at this; exact this) hs.2.1 (by simpa using h2.2) xs (ha.ev hx) HO u ys (ha.ev hy') HY hy hone hRU hl (by simpa using h3.2) hbase fun A' c' w' hO hu hat=>hK _ _ _ (h A' c' w' hO hu hat) (ha.put h3.1)⟩
end
open Go.RowKit
theorem rows_type {α β:Type} {base sz base2 sz2:Nat} {e e2:TypeId} {R:World→α→List Value→Prop} {R2:World→β→List Value→Prop} {w:World} {A A2:Option Addr} {n c n2 c2:Nat} {xs:List α} {ys:List β} (h:OwnG base e sz R w (.slice A n c) xs) (h2:OwnG base2 e2 sz2 R2 w (.slice A2 n2 c2) ys) (ht:(e == e2)=false) : ∀ x,x∈ob A→x ∉ ob A2:=fun x hx hx2=>by
  rcases ob_cases h with rfl | ⟨g,cells,rfl,_,h1⟩
  · simp [ob] at hx
  rcases ob_cases h2 with rfl | ⟨g2,cells2,rfl,_,h3⟩
  · simp [ob] at hx2
  simp [ob] at hx hx2
  subst hx
  subst hx2
  rw [h1] at h3
  injection h3 with h3
  injection h3 with _ h3 _
  subst h3
  simp at ht
theorem ob_from {A A0:Option Addr} {w w0:World} {S:List Nat} (hat:∀ x,x∈ob A→x∈ob A0∨w.heap.size≤x) (h:∀ x,x∈ob A0→x∈S∨w0.heap.size≤x) (hs:w0.heap.size≤w.heap.size) : ∀ x,x∈ob A→x∈S∨w0.heap.size≤x:=fun x hx=>by
  rcases hat x hx with k | k
  · exact h x k
  · exact .inr (Nat.le_trans hs k)
theorem hat_trans {A A1 A0:Option Addr} {w w0:World} (hat:∀ x,x∈ob A→x∈ob A1∨w.heap.size≤x) (h:∀ x,x∈ob A1→x∈ob A0∨w0.heap.size≤x) (hs:w0.heap.size≤w.heap.size) : ∀ x,x∈ob A→x∈ob A0∨w0.heap.size≤x:=ob_from hat h hs
theorem hat_none {A0:Option Addr} {w:World}:∀ x,x∈ob none→x∈ob A0∨w.heap.size≤x:=fun x hx=>by simp [ob] at hx
theorem hat_self {A0:Option Addr} {w:World}:∀ x,x∈ob A0→x∈ob A0∨w.heap.size≤x:=fun x hx=>.inl hx
theorem u8_ones {w:World}:∀ x cs,u8R w x cs→∀ v,v∈cs→v.oneCell'=true:=fun x cs h v hv=>by
  rw [h.1] at hv
  simp at hv
  subst hv
  rfl
section
variable {n:Nat} {B:Option Addr}
def Far (n:Nat) (B:Option Addr) (X:List Nat) : Prop:=0 < n→∀ x,x∈ob B→x ∉ X
theorem far_nil:Far n B []:=fun _ x _=>by simp
theorem far_cons {g:Nat} {X:List Nat} (h:0 < n→∀ x,x∈ob B→x ≠ g) (k:Far n B X) : Far n B (g :: X):=fun hn x hx=>by
  rw [List.mem_cons]
  rintro (e | e)
  · exact h hn x hx e
  · exact k hn x hx e
theorem far_app {A:Option Addr} {X:List Nat} (h:Far n B (ob A)) (k:Far n B X) : Far n B (ob A++X):=fun hn x hx=>by
  rw [List.mem_append]
  rintro (e | e)
  · exact h hn x hx e
  · exact k hn x hx e
theorem far_frm {A A0:Option Addr} {w:World} (h:Far n B (ob A0)) (hl:0 < n→∀ x,x∈ob B→x < w.heap.size) (hat:∀ x,x∈ob A→x∈ob A0∨w.heap.size≤x) : Far n B (ob A):=fun hn x hx hx2=>by
  rcases hat x hx2 with k | k
  · exact h hn x hx k
  · have:=hl hn x hx; omega
theorem far_own {α:Type} {base sz:Nat} {e:TypeId} {R:World→α→List Value→Prop} {w w':World} {A:Option Addr} {m c:Nat} {xs:List α} (hl:0 < n→∀ x,x∈ob B→x < w.heap.size) (h:OwnG base e sz R w' (.slice A m c) xs) (hs:w.heap.size≤base) : Far n B (ob A):=fun hn x hx hx2=>by
  have:=hl hn x hx
  have:=ob_ge h x hx2
  omega
theorem RdG.low {α:Type} {m:Bool} {e:TypeId} {sz c:Nat} {R:World→α→List Value→Prop} {w:World} {xs:List α} (h:RdG m e sz R w (.slice B n c) xs) : 0 < n→∀ x,x∈ob B→x < w.heap.size:=fun hn x hx=>by
  obtain ⟨A',c',hv,_,_,_,h3⟩:=h
  injection hv with e1 e2 e3
  subst e1 e2 e3
  obtain ⟨b,off,cells,t,fr,rfl,hh,_⟩:=h3 hn
  simp [ob] at hx
  subst hx
  exact blk_lt hh
theorem RdB.far {m:Bool} {c:Nat} {w w':World} {xs:List Int} {X:List Nat} (h:RdB m w (.slice B n c) xs) (hu:Upd X w w') (hd:Far n B X) : RdB m w' (.slice B n c) xs:=by
  obtain ⟨A',c',hv,h1,h2,h0,h3⟩:=h
  injection hv with e1 e2 e3
  subst e1 e2 e3
  refine ⟨_,_,rfl,h1,h2,h0,fun hp=>?_⟩
  obtain ⟨b,off,cells,t,fr,rfl,hh,h4,h5⟩:=h3 hp
  exact ⟨b,off,cells,t,fr,rfl,hu.blk (hd hp b (by simp [ob])) hh,h4,h5⟩
end
open Go.RowKit
def Apt (n:Nat) (X:List Nat) (w:World) : Prop:=∀ y,y∈X→n≤y∨∃ cells t fr,w.heap[y]? = some (.cells cells t fr)∧t ∉ dataT
def evLow (n:Nat) (w:World) (x:Ev) (cs:List Value) : Prop:=n≤w.heap.size∧∀ (w':World) (X:List Nat),Upd X w w'→Apt n X w→evR true w' x cs
theorem evLow.mk {w:World} {x:Ev} {cs:List Value} (h:evR true w x cs) : evLow w.heap.size w x cs:=⟨Nat.le_refl _,fun w' X hu ha=>evR.upd hu (fun y hy=>by
  rcases ha y hy with k | k
  · exact .inl k
  · exact .inr ⟨rfl,k⟩) x cs h⟩
theorem evLow.ev {n:Nat} {w:World} {x:Ev} {cs:List Value} (h:evLow n w x cs) : evR true w x cs:=h.2 w [] (Upd.refl _ _) (fun y hy=>by cases hy)
theorem evLow.mono {n n':Nat} {w:World} {x:Ev} {cs:List Value} (hn:n≤n') (hs:n'≤w.heap.size) (h:evLow n w x cs) : evLow n' w x cs:=⟨hs,fun w' X hu ha=>h.2 w' X hu fun y hy=>by
  rcases ha y hy with k | k
  · exact .inl (Nat.le_trans hn k)
  · exact .inr k⟩
theorem evLow.upd {n:Nat} {w w':World} {X:List Nat} {x:Ev} {cs:List Value} (hu:Upd X w w') (ha:Apt n X w) (h:evLow n w x cs) : evLow n w' x cs:=by
  refine ⟨Nat.le_trans h.1 hu.size,fun w2 X2 hu2 ha2=>h.2 w2 (X++X2) ?_ ?_⟩
  · exact Upd.trans' (Upd.mono hu (fun y hy=>.inl (List.mem_append_left _ hy))) hu2 (fun y hy=>.inl (List.mem_append_right _ hy))
  · intro y hy
    rcases List.mem_append.1 hy with hy | hy
    · exact ha y hy
    · rcases ha2 y hy with k | ⟨cells,t,fr,k1,k2⟩
      · exact .inl k
      · by_cases hl:y < w.heap.size
        · by_cases hX:y∈X
          · exact ha y hX
          · exact .inr ⟨cells,t,fr,by rw [← hu.block y hl hX]; exact k1,k2⟩
        · exact .inl (Nat.le_trans h.1 (by omega))
theorem evLow.ones {n:Nat} {w:World}:∀ (x:Ev) (cs:List Value),evLow n w x cs→∀ v,v∈cs→v.oneCell'=true:=fun x cs h=>evR.ones x cs h.ev
abbrev OwnV (n base:Nat) (w:World) (v:Value) (xs:List Ev) : Prop:=OwnG base 61 25 (evLow n) w v xs
theorem OwnG.map {α:Type} {base sz:Nat} {e:TypeId} {R R':World→α→List Value→Prop} {w:World} {v:Value} {xs:List α} (h:OwnG base e sz R w v xs) (k:∀ x cs,R w x cs→R' w x cs) : OwnG base e sz R' w v xs:=by
  obtain ⟨cells,ho,hx⟩:=h
  refine ⟨cells,ho,fun j x hj=>?_⟩
  obtain ⟨cs,h1,h2,h3⟩:=hx j x hj
  exact ⟨cs,h1,k _ _ h2,h3⟩
theorem OwnE.low {base:Nat} {w:World} {v:Value} {xs:List Ev} (h:OwnE base w v xs) : OwnV w.heap.size base w v xs:=OwnG.map h fun _ _=>evLow.mk
theorem OwnV.own {n base:Nat} {w:World} {v:Value} {xs:List Ev} (h:OwnV n base w v xs) : OwnE base w v xs:=OwnG.map h fun _ _ q=>q.ev
theorem OwnV.up {n n' base:Nat} {w:World} {v:Value} {xs:List Ev} (hn:n≤n') (hs:n'≤w.heap.size) (h:OwnV n base w v xs) : OwnV n' base w v xs:=OwnG.map h fun _ _ q=>q.mono hn hs
theorem apt_nil {n:Nat} {w:World}:Apt n [] w:=fun y hy=>by cases hy
theorem apt_b {n g:Nat} {w:World} {cs:Array Value} {t:TypeId} {fr:Nat × Nat} {X:List Nat} (hb:w.heap[g]? = some (.cells cs t fr)) (ht:dataT.contains t=false) (k:Apt n X w) : Apt n (g :: X) w:=fun y hy=>by
  rcases List.mem_cons.1 hy with rfl | hy
  · exact .inr ⟨cs,t,fr,hb,by simpa using ht⟩
  · exact k y hy
theorem apt_n {n:Nat} {w:World} {A:Option Addr} {X:List Nat} (h:∀ x,x∈ob A→n≤x) (k:Apt n X w) : Apt n (ob A++X) w:=fun y hy=>by
  rcases List.mem_append.1 hy with hy | hy
  · exact .inl (h y hy)
  · exact k y hy
theorem apt_o {α:Type} {n base sz m c:Nat} {e:TypeId} {R:World→α→List Value→Prop} {w:World} {A:Option Addr} {xs:List α} {X:List Nat} (h:OwnG base e sz R w (.slice A m c) xs) (ht:dataT.contains e=false) (k:Apt n X w) : Apt n (ob A++X) w:=fun y hy=>by
  rcases List.mem_append.1 hy with hy | hy
  · rcases ob_cases h with rfl | ⟨g,cells,rfl,_,h1⟩
    · simp [ob] at hy
    · simp [ob] at hy
      subst hy
      exact .inr ⟨_,_,_,h1,by simpa using ht⟩
  · exact k y hy
theorem low_none {n:Nat}:∀ x,x∈ob none→n≤x:=fun x hx=>by simp [ob] at hx
theorem low_frm {n:Nat} {A A0:Option Addr} {w:World} (hat:∀ x,x∈ob A→x∈ob A0∨w.heap.size≤x) (h:∀ x,x∈ob A0→n≤x) (hs:n≤w.heap.size) : ∀ x,x∈ob A→n≤x:=fun x hx=>by
  rcases hat x hx with k | k
  · exact h x k
  · exact Nat.le_trans hs k
section
variable {n base g cp:Nat} {w w':World} {A:Option Addr} {X:List Nat}
theorem ob_none_not:∀ x,x∈ob none→x ∉ X:=fun x hx=>by simp [ob] at hx
theorem apt_s {t:TypeId} (hb:∃ cs fr,w.heap[g]? = some (.cells cs t fr)) (ht:dataT.contains t=false) (k:Apt n X w) : Apt n (g :: X) w:=by
  obtain ⟨cs,fr,hb⟩:=hb
  exact apt_b hb ht k
theorem low_le {n':Nat} (hn:n≤n') (h:∀ x,x∈ob A→n'≤x) : ∀ x,x∈ob A→n≤x:=fun x hx=>Nat.le_trans hn (h x hx)
theorem far_made {k:Nat} {B:Option Addr} (hl:0 < k→∀ x,x∈ob B→x < w.heap.size) (hg:w.heap.size≤g) : 0 < k→∀ x,x∈ob B→x ≠ g:=fun hk x hx e=>by
  have:=hl hk x hx
  omega
theorem far_ne {k:Nat} {B:Option Addr} (h:g ∉ ob B) : 0 < k→∀ x,x∈ob B→x ≠ g:=fun _ x hx e=>h (e ▸ hx)
theorem far_none {k:Nat} {B:Option Addr}:Far k B (ob none):=fun _ x _ hx=>by simp [ob] at hx
theorem far_rows {k:Nat} {B:Option Addr} (h:∀ x,x∈ob B→x ∉ ob A) : Far k B (ob A):=fun _ x hx=>h x hx
end
theorem own_base {α:Type} {b0 b1 sz:Nat} {e:TypeId} {R:World→α→List Value→Prop} {w:World} {v:Value} {xs:List α} (hb:b0≤b1) (h:OwnG b1 e sz R w v xs) : OwnG b0 e sz R w v xs:=by
  obtain ⟨cells,⟨h1,h2⟩,h3⟩:=h
  refine ⟨cells,⟨h1,?_⟩,h3⟩
  rcases h2 with h2 | ⟨g,cap,cur,k0,k1,k2⟩
  · exact .inl h2
  · exact .inr ⟨g,cap,cur,k0,Nat.le_trans hb k1,k2⟩
theorem hat_lit {α:Type} {b1 sz m c:Nat} {e:TypeId} {R:World→α→List Value→Prop} {w w1:World} {A A0:Option Addr} {xs:List α} (h:OwnG b1 e sz R w1 (.slice A m c) xs) (hb:w.heap.size≤b1) : ∀ x,x∈ob A→x∈ob A0∨w.heap.size≤x:=fun x hx=>.inr (Nat.le_trans hb (ob_ge h x hx))
theorem low_lit {α:Type} {n b1 sz m c:Nat} {e:TypeId} {R:World→α→List Value→Prop} {w1:World} {A:Option Addr} {xs:List α} (h:OwnG b1 e sz R w1 (.slice A m c) xs) (hb:n≤b1) : ∀ x,x∈ob A→n≤x:=fun x hx=>Nat.le_trans hb (ob_ge h x hx)
open Go.RowKit
section
variable {P:Program} {Q:Exit→Act→World→Prop} {n:Nat} {D:List Deferred} {F:Fr} {w:World} {c:Code} {l:Nat}
theorem scp (h:GC P c (Exit.noGoto Q) n D F w) : GC P (.scope c) Q n D F w:=⟨fun a ha=>wp_scope_straight (h.out a ha)⟩
theorem lbl (h:GQ Q .normal n D F w) : GC P (.label l) Q n D F w:=⟨fun a ha=>wp_label (h.out a ha)⟩
theorem gr (h:GQ Q .ret n D F w) : GQ (Exit.noGoto Q) .ret n D F w:=⟨fun a ha=>h.out a ha⟩
end
open Go.RowKit
abbrev Byts (xs:List Int) : Prop:=∀ x,x∈xs→0≤x∧x < 256
theorem u8_back {x:Int} (h:0≤x∧x < 256) : ((UInt8.ofNat x.toNat).toNat:Int)=x:=by
  simp only [UInt8.toNat_ofNat']
  omega
theorem strOfNums_get {xs:List Int} {j:Nat} (hj:j < xs.length) (hs:j < (strOfNums xs).size) : (strOfNums xs)[j]=UInt8.ofNat (xs.getD j 0).toNat:=by
  show (strOfNums xs).data[j]=_
  simp [strOfNums,List.getD_eq_getElem?_getD,List.getElem?_eq_getElem hj]
theorem run_idxs {P:Program} {w:World} {ev:Operand→Value} {o:Oper} {x ix:Operand} {t:TypeId} {xs:List Int} {k:IntKind} {i:Int} (j:Nat) (ho:o.op = .index t x ix) (ht:P.underlying t=some .string) (hx:ev x = .string (strOfNums xs)) (hi:ev ix = .int k i) (hr:Byts xs) (hj:i=(j:Int)) (hlt:j < xs.length) : (execOp ev o).run P w = .ok (.value (.int .u8 (xs.getD j 0))) w:=by
  subst hj
  have hs:j < (strOfNums xs).size:=by rw [strOfNums_size]; exact hlt
  have h:=run_index_string (P:=P) w t (strOfNums xs) k (j:Int) ht
  rw [dif_pos (by omega)] at h
  have hg:xs.getD j 0∈xs:=by
    rw [List.getD_eq_getElem?_getD,List.getElem?_eq_getElem hlt]
    exact List.getElem_mem hlt
  unfold execOp
  simp only [ho,hx,hi,Sem.run_bind,h,Result.andThen,Sem.run_pure]
  have e:((strOfNums xs)[((j:Nat) : Int).toNat]'(by simpa using hs))=UInt8.ofNat (xs.getD j 0).toNat:=by
    simp only [Int.toNat_natCast]
    exact strOfNums_get hlt hs
  rw [e,u8_back (hr _ hg)]
theorem strOfNums_extract (xs:List Int) (a b:Nat) (hb:b≤xs.length) : (strOfNums xs).extract a b=strOfNums ((xs.take b).drop a):=by
  apply ByteArray.ext
  rw [ByteArray.data_extract]
  apply Array.toList_inj.1
  rw [Array.toList_extract]
  simp [strOfNums,List.extract,List.map_drop,List.map_take,List.drop_take]
theorem run_cutsF {P:Program} {w:World} {ev:Operand→Value} {o:Oper} {x y:Operand} {t:TypeId} {xs:List Int} {k:IntKind} {i:Int} (j:Nat) (ho:o.op = .slice t x (some y) none none) (ht:P.underlying t=some .string) (hx:ev x = .string (strOfNums xs)) (hy:ev y = .int k i) (hj:i=(j:Int)) (hlt:j≤xs.length) : (execOp ev o).run P w = .ok (.value (.string (strOfNums (xs.drop j)))) w:=by
  subst hj
  have hu:(underlying t).run P w = .ok .string w:=run_underlying ht w
  have h:=run_slice_string_l (P:=P) w t (strOfNums xs) ht k (j:Int) (by omega) (by rw [strOfNums_size]; omega)
  rw [strOfNums_size,strOfNums_extract _ _ _ (Nat.le_refl _),List.take_length,Int.toNat_natCast] at h
  unfold execOp
  simp only [ho,Option.map_some,Option.map_none,hx,hy,Instr.sliceAt,Sem.run_bind,hu,h,Result.andThen,Sem.run_pure]
theorem run_cutsT {P:Program} {w:World} {ev:Operand→Value} {o:Oper} {x y:Operand} {t:TypeId} {xs:List Int} {k:IntKind} {i:Int} (j:Nat) (ho:o.op = .slice t x none (some y) none) (ht:P.underlying t=some .string) (hx:ev x = .string (strOfNums xs)) (hy:ev y = .int k i) (hj:i=(j:Int)) (hlt:j≤xs.length) : (execOp ev o).run P w = .ok (.value (.string (strOfNums (xs.take j)))) w:=by
  subst hj
  have hu:(underlying t).run P w = .ok .string w:=run_underlying ht w
  have h:=run_slice_string_h (P:=P) w t (strOfNums xs) ht k (j:Int) (by omega) (by rw [strOfNums_size]; omega)
  rw [Int.toNat_natCast,strOfNums_extract _ _ _ hlt,List.drop_zero] at h
  unfold execOp
  simp only [ho,Option.map_some,Option.map_none,hx,hy,Instr.sliceAt,Sem.run_bind,hu,h,Result.andThen,Sem.run_pure]
theorem strOfNums_app (xs ys:List Int) : strOfNums xs++strOfNums ys=strOfNums (xs++ys):=by
  apply ByteArray.ext
  simp [strOfNums,ByteArray.data_append]
theorem run_adds {P:Program} {w:World} {ev:Operand→Value} {o:Oper} {x y:Operand} {t t':TypeId} {a b:ByteArray} {xs ys:List Int} (ho:o.op = .binOp .add t x y t') (hx:ev x = .string a) (hy:ev y = .string b) (ha:a=strOfNums xs) (hb:b=strOfNums ys) (hl:xs.length + ys.length≤1048576) : (execOp ev o).run P w = .ok (.value (.string (strOfNums (xs++ys)))) w:=by
  subst ha hb
  have hg:eqGuard .add t x y (.string (strOfNums xs)) (.string (strOfNums ys))=pure ():=rfl
  unfold execOp
  simp only [ho,hx,hy,hg,Sem.run_bind,Sem.run_pure,Result.andThen]
  have h:(binOp .add t (.string (strOfNums xs)) (.string (strOfNums ys))).run P w = .ok (.string (strOfNums (xs++ys))) w:=by
    show (Op.stringOp .add _ _).run P w=_
    unfold Op.stringOp
    rw [← strOfNums_app]
    have:¬ ((((strOfNums xs).size + (strOfNums ys).size:Nat) : Int) > IntKind.i64.max):=by
      rw [strOfNums_size,strOfNums_size]
      show ¬ (((xs.length + ys.length:Nat) : Int) > 9223372036854775807)
      omega
    dsimp only
    rw [if_neg this]
    rfl
  rw [h]
theorem byts_app {xs ys:List Int} (h:Byts xs) (k:Byts ys) : Byts (xs++ys):=fun x hx=>by
  rcases List.mem_append.1 hx with h1 | h1
  · exact h x h1
  · exact k x h1
theorem byts_drop {xs:List Int} (h:Byts xs) (j:Nat) : Byts (xs.drop j):=fun x hx=>h x (List.mem_of_mem_drop hx)
theorem byts_take {xs:List Int} (h:Byts xs) (j:Nat) : Byts (xs.take j):=fun x hx=>h x (List.mem_of_mem_take hx)
theorem str_eqx {xs ys:List Int} (hx:Byts xs) (hy:Byts ys) : ((strOfNums xs).toList == (strOfNums ys).toList)=decide (xs=ys):=by
  have e:∀ zs:List Int,(strOfNums zs).toList=zs.map fun n=>UInt8.ofNat n.toNat:=fun zs=>by
    rw [ByteArray.toList_eq]
    rfl
  rw [e,e]
  by_cases h:xs=ys
  · subst h; simp
  · rw [decide_eq_false h,beq_eq_false_iff_ne]
    exact fun k=>h (strOf_inj xs ys hx hy k)
def OwnF (base:Nat) (w:World) (v:Value) (xs:List Int) : Prop:=∃ g cap cur n,v = .slice (some ⟨g,0,none⟩) xs.length cap∧base≤g∧w.heap[g]? = some (.cells cur 5 (n,n + 1))∧xs.length≤n∧xs.length≤cap∧cap≤maxLen∧cur.toList.take xs.length=xs.map (Value.int .u8)∧Byts xs
theorem OwnF.rd {base:Nat} {w:World} {v:Value} {xs:List Int} (h:OwnF base w v xs) : RdB true w v xs:=by
  obtain ⟨g,cap,cur,n,rfl,hb,hh,h1,h2,h3,h4,h5⟩:=h
  refine ⟨_,_,rfl,h2,h3,(fun hA=>by cases hA),fun hp=>⟨g,0,cur,_,_,rfl,hh,fun _=>rfl,fun j x hj=>?_⟩⟩
  refine ⟨[.int .u8 x],rfl,⟨rfl,h5 x (List.mem_of_getElem? hj)⟩,fun i u hi=>?_⟩
  cases i with
  | succ i=>simp at hi
  | zero =>
    have hi:Value.int .u8 x=u:=by simpa using hi
    subst hi
    have h6:(xs.map (Value.int .u8))[j]? = some (.int .u8 x):=by rw [List.getElem?_map,hj]; rfl
    rw [← h4,List.getElem?_take] at h6
    split at h6
    · simpa using h6
    · cases h6
theorem OwnF.ge {base g m c:Nat} {w:World} {xs:List Int} (h:OwnF base w (.slice (some ⟨g,0,none⟩) m c) xs) : base≤g:=by
  obtain ⟨g',cap,cur,n,hv,hb,_⟩:=h
  injection hv with e1 _ _
  injection e1 with e1
  injection e1 with e1 _
  rw [e1]
  exact hb
theorem OwnF.shape {base:Nat} {w:World} {v:Value} {xs:List Int} (h:OwnF base w v xs) : ∃ g cp,v = .slice (some ⟨g,0,none⟩) xs.length cp:=by
  obtain ⟨g,cap,cur,n,hv,_⟩:=h
  exact ⟨g,cap,hv⟩
theorem run_strconv {P:Program} {w:World} {src dst e:TypeId} {xs:List Int} (hs:P.underlying src=some .string) (hd:P.underlying dst=some (.slice e)) (he:P.underlying e=some (.int .u8)) (hte:e=5) (hr:Byts xs) (hl:xs.length≤1048576) :
    ∃ cp w',(convert src dst (.string (strOfNums xs))).run P w = .ok (.slice (some ⟨w.heap.size,0,none⟩) xs.length cp) w'∧OwnF w.heap.size w' (.slice (some ⟨w.heap.size,0,none⟩) xs.length cp) xs∧Upd [] w w':=by
  subst hte
  have h:=Lib.run_convert_string_bytes (P:=P) w src dst _ (strOfNums xs) hs hd he
  rw [strOfNums_size] at h
  refine ⟨_,_,h,⟨_,_,_,_,rfl,Nat.le_refl _,Lib.bytesWorld_at_new w _ (strOfNums xs),?_,?_,?_,?_,hr⟩,?_⟩
  · simp [Lib.bytesCells,strOfNums]
  · exact grownCap_ge ..
  · exact grownCap_le_maxLen _ _ _ _ (by unfold maxLen; omega)
  · simp only [Lib.bytesCells]
    rw [Array.toList_append,List.take_append_of_le_length (by simp [strOfNums])]
    rw [List.take_of_length_le (by simp [strOfNums])]
    simp only [strOfNums,Array.toList_map,List.map_map]
    apply List.map_congr_left
    intro x hx
    show Value.int .u8 _=_
    rw [u8_back (hr x hx)]
  · exact ⟨rfl,rfl,rfl,by rw [Lib.bytesWorld_size]; omega,fun k hk _=>Lib.bytesWorld_at_old w _ _ k hk⟩
section
variable {P:Program} {n:Nat} {D:List Deferred} {F:Fr} {w:World} {K:Fr→World→Prop} {Q:Exit→Act→World→Prop} {d:Option Tmp} {t:TypeId} {s:String} {af:Array Edge} {gu:Option (Nat × Bool)}
theorem ow_valw {a:Act} {o:Oper} {N:Option Tmp} {K:Act→World→Prop} {w1:World} (v:Value) (hN:o.dst=N) (hr:(execOp a.eval o).run P w = .ok (.value v) w1) (h:K (a.put N v) w1) : OW P o a w K Q:=by
  refine OW.mk ?_
  subst hN
  unfold Oper.wp
  rw [hr]
  exact h
theorem Ocs {src dst:TypeId} {x:Operand} {xs:List Int} (hs:P.underlying src=some .string) (hd:P.underlying dst=some (.slice 5)) (he:P.underlying 5=some (.int .u8)) (hr:Byts xs) (hl:xs.length≤1048576)
    (h:∀ A cp w',OwnF w.heap.size w' (.slice A xs.length cp) xs→Upd [] w w'→K (pt d (.slice A xs.length cp) F) w') (hx:evo F x=some (.string (strOfNums xs)):=by kernel_rfl) (hk:dok n d=true:=by kernel_rfl) : OG P ⟨d,.convert src dst x,t,s,af,gu⟩ n D F w K Q:=by
  obtain ⟨cp,w',h1,h2,h3⟩:=run_strconv (P:=P) (w:=w) hs hd he rfl hr hl
  refine ⟨fun a ha K' hK=>ow_valw _ rfl (w1:=w') ?_ (hK _ _ _ (h _ _ _ h2 h3) (ha.put hk))⟩
  have hx':=ha.ev hx
  unfold execOp
  simp only [hx',Sem.run_bind,h1,Result.andThen,Sem.run_pure]
theorem Orng {ty:TypeId} {x:Operand} {sv:ByteArray} (hs:P.underlying ty=some .string) (h:∀ g w',w.heap.size≤g→w'.heap[g]? = some (.stringIter sv 0)→Upd [] w w'→K (pt d (.pointer (some ⟨g,0,none⟩)) F) w')
    (hx:evo F x=some (.string sv):=by kernel_rfl) (hk:dok n d=true:=by kernel_rfl) : OG P ⟨d,.range ty x,t,s,af,gu⟩ n D F w K Q:=by
  refine ⟨fun a ha K' hK=>ow_valw (.pointer (some ⟨w.heap.size,0,none⟩)) rfl (w1:=w.alloc (.stringIter sv 0)) ?_ (hK _ _ _ (h _ _ (Nat.le_refl _) (blk_new _ _) ((Upd.refl _ _).alloc _)) (ha.put hk))⟩
  have hx':=ha.ev hx
  unfold execOp
  simp only [hx',Sem.run_bind,run_range_string w ty sv hs,Result.andThen,Sem.run_pure]
  rfl
theorem decode_58 {xs:List Int} (hr:Byts xs) (h0:0 < xs.length) : ((((Utf8.decode (strOfNums xs) 0).1:Nat) : Int)=58 ↔ xs.getD 0 0=58):=by
  have hs:0 < (strOfNums xs).size:=by rw [strOfNums_size]; exact h0
  have hm:xs.getD 0 0∈xs:=by
    rw [List.getD_eq_getElem?_getD,List.getElem?_eq_getElem h0]
    exact List.getElem_mem h0
  have hb:=hr _ hm
  have h1:((strOfNums xs).get! 0).toNat=(xs.getD 0 0).toNat:=by
    have e:(strOfNums xs).get! 0=(strOfNums xs)[0]:=by
      show (strOfNums xs).data[0]! = _
      rw [getElem!_pos (strOfNums xs).data 0 hs]
      rfl
    rw [e,strOfNums_get h0 hs]
    simp only [UInt8.toNat_ofNat']
    omega
  unfold Utf8.decode
  simp only [Nat.zero_add,h1,Utf8.runeError]
  split
  · omega
  · split
    · split
      · rename_i h2 h3 h4; simp only; omega
      · simp only; omega
    · split
      · split
        · rename_i h2 h3 h4 h5; simp only [Bool.and_eq_true,decide_eq_true_eq] at h5; simp only; omega
        · simp only; omega
      · split
        · split
          · rename_i h2 h3 h4 h5 h6; simp only [Bool.and_eq_true,decide_eq_true_eq] at h6; simp only; omega
          · simp only; omega
        · simp only; omega
theorem Onx {x:Operand} {xs:List Int} {r:Nat} (hr:Byts xs) (h0:0 < xs.length) (B:w.heap[r]? = some (.stringIter (strOfNums xs) 0)) (h:∀ c w',(c=58 ↔ xs.getD 0 0=58)→Upd [r] w w'→K (pt d (.tuple #[.bool true,.int .i64 0,.int .i32 c]) F) w')
    (hx:evo F x=some (.pointer (some ⟨r,0,none⟩)):=by kernel_rfl) (hk:dok n d=true:=by kernel_rfl) : OG P ⟨d,.next x true,t,s,af,gu⟩ n D F w K Q:=by
  have hlt:=blk_lt B
  have hrun:=Lib.run_next_any_at (P:=P) w r (strOfNums xs) 0 t B (by rw [strOfNums_size]; exact h0)
  refine ⟨fun a ha K' hK=>ow_valw _ rfl (w1:=w.iterAt r (strOfNums xs) (0 + (Utf8.decode (strOfNums xs) 0).2)) ?_ (hK _ _ _ (h (((Utf8.decode (strOfNums xs) 0).1:Nat) : Int) _ (decode_58 hr h0) ?_) (ha.put hk))⟩
  · have hx':=ha.ev hx
    unfold execOp
    simp only [hx',Sem.run_bind,hrun,Result.andThen,Sem.run_pure]
    rfl
  · refine ⟨rfl,rfl,rfl,?_,fun k hk hn=>?_⟩
    · simp [World.iterAt]
    · have:r ≠ k:=fun e=>hn (by simp [e])
      simp [World.iterAt,Array.getElem?_setIfInBounds,this]
end
open Go.RowKit
def endsB (xs ys:List Int) : Bool:=decide (((ys.length:Nat) : Int)≤((xs.length:Nat) : Int)) && decide (xs.drop (((xs.length:Nat) : Int) - ((ys.length:Nat) : Int)).toNat=ys)
set_option maxRecDepth 100000 in
set_option maxHeartbeats 4000000 in
theorem beq_any {m m2:Bool} {A B:Option Addr} {n n2 c c2:Nat} {xs ys:List Int} {w:World} (h1:RdB m w (.slice A n c) xs) (h2:RdB m2 w (.slice B n2 c2) ys) : Calls Tryz.prog 67 #[.slice A n c,.slice B n2 c2] w (PVal (.bool (decide (xs=ys))) w):=by
 refine en 10 Tryz.func67 rfl<|sg<|Pl 1<|ng<|Pl 1<|L0<|Or_ (.string (strOfNums xs)) (run_convB (A:=A) (n:=n) (c:=c) rfl (by kernel_rfl) Tryz.underlying29 Tryz.underlying5 Tryz.underlying9 h1)<|Pl 1<|L0<|Or_ (.string (strOfNums ys)) (run_convB (A:=B) (n:=n2) (c:=c2) rfl (by kernel_rfl) Tryz.underlying29 Tryz.underlying5 Tryz.underlying9 h2)<|L0<|Or_ (.bool (decide (xs=ys))) (run_strq (a:=(strOfNums xs)) (b:=(strOfNums ys)) rfl (by kernel_rfl) (by kernel_rfl) (str_eq h1 h2))<|Pl 1<|nl<|?_
 refine tn<|rt<|rr (.bool (decide (xs=ys)))<|?_
 exact ⟨rfl,(Upd.refl [] _)⟩
set_option maxRecDepth 100000 in
set_option maxHeartbeats 4000000 in
theorem suf_any0 {m m2:Bool} {A B:Option Addr} {c c2:Nat} {xs ys:List Int} {w:World} (h1:RdB m w (.slice A xs.length c) xs) (h2:RdB m2 w (.slice B ys.length c2) ys) : Calls Tryz.prog 53 #[.slice A xs.length c,.slice B ys.length c2] w (PVal (.bool (endsB xs ys)) w):=by
 have hz1:=RdG.len h1
 have hz2:=RdG.len h2
 have hz3:=RdG.cap h1
 refine en 21 Tryz.func53 rfl<|sg<|Pl 1<|ng<|Pl 6<|bl 10 ((decide (((ys.length:Nat) : Int)≤((xs.length:Nat) : Int)))) (fun q10=>?_) (fun q10=>?_)
 have q10p:=of_decide_eq_true q10
 refine Pl 5<|L1<|Oi (((xs.length:Nat) : Int) - ((ys.length:Nat) : Int))<|x12 (cut_fromI (P:=Tryz.prog) 29 5 1 Tryz.underlying29 rfl rfl A xs.length c (lo:=(((xs.length:Nat) : Int) - ((ys.length:Nat) : Int))) (((((xs.length:Nat) : Int) - ((ys.length:Nat) : Int))).toNat) (by omega) (by omega)) fun A11 hrun12 hrd13=>L1<|Or_ (.slice A11 (xs.length - (((((xs.length:Nat) : Int) - ((ys.length:Nat) : Int))).toNat)) (c - (((((xs.length:Nat) : Int) - ((ys.length:Nat) : Int))).toNat))) (run_cutf (kl:=.i64) (k:=(((xs.length:Nat) : Int) - ((ys.length:Nat) : Int))) (A:=A) (n:=xs.length) (c:=c) rfl Tryz.underlying29 (by kernel_rfl) (by kernel_rfl) (hrun12 _ _))<|Pl 1<|L1<|Oc<|m1 (beq_any (xs:=(xs.drop (((((xs.length:Nat) : Int) - ((ys.length:Nat) : Int))).toNat))) (ys:=ys) (hrd13 _ _ _ _ _ h1) h2) fun w14 hu15=>Pl 2<|nt<|rt<|rr (.bool (decide ((xs.drop (((((xs.length:Nat) : Int) - ((ys.length:Nat) : Int))).toNat))=ys)))<|?_
 have hs:(decide ((xs.drop (((((xs.length:Nat) : Int) - ((ys.length:Nat) : Int))).toNat))=ys))=endsB xs ys:=by unfold endsB; simp only [q10,bs,if_true,if_false,decide_true,decide_false,Bool.true_and,Bool.false_and,Bool.and_true,Bool.and_false]
 rw [hs]
 exact ⟨rfl,hu15⟩
 have q10p:=of_decide_eq_false q10
 refine Pl 11<|nt<|rt<|rr (.bool false)<|?_
 have hs:false=endsB xs ys:=by unfold endsB; simp only [q10,bs,if_true,if_false,decide_true,decide_false,Bool.true_and,Bool.false_and,Bool.and_true,Bool.and_false]
 rw [hs]
 exact ⟨rfl,(Upd.refl [] _)⟩
theorem suf_any {m m2:Bool} {u v:Value} {xs ys:List Int} {w:World} (h1:RdB m w u xs) (h2:RdB m2 w v ys) : Calls Tryz.prog 53 #[u,v] w (PVal (.bool (endsB xs ys)) w):=by
  obtain ⟨A,c,rfl,_,_⟩:=h1.shape
  obtain ⟨B,c2,rfl,_,_⟩:=h2.shape
  exact suf_any0 h1 h2
end Go.Proofs.YtgjlbabefogepaaGreat
namespace Go.Proofs.YtgjlbabefogepaaGreat
def lrcP (b:List Int) : Nat→Int
  | 0=>0
  | k + 1=>(lrcP b k + b.getD k 0) % 256
def lrcS (b:List Int) : Int:=lrcP b b.length
def lrcOf (b:List Int) : Int:=(0 - lrcS b) % 256
def lrcIs (b:List Int) : Bool:=decide (0 < ((b.length:Nat) : Int)) && (lrcOf b == 0)
theorem lrcP_rng (b:List Int) : ∀ k,0≤lrcP b k∧lrcP b k < 256
  | 0=>by unfold lrcP; omega
  | k + 1=>by unfold lrcP; omega
def hexD (n:Int) : Int:=if n < 10 then 48 + n else 55 + n
def digV (c:Int) : Int:=if 48≤c∧c≤57 then c - 48 else if 65≤c∧c≤70 then c - 55 else -1
def putH:List Int→List Int
  | []=>[]
  | c :: b=>hexD (c / 16) :: hexD (c % 16) :: putH b
def takeH:List Int→Option (List Int)
  | []=>some []
  | [_]=>none
  | a :: b :: r=>if digV a < 0∨digV b < 0 then none else (takeH r).map fun l=>(16 * digV a + digV b) % 256 :: l
theorem hexD_rng {n:Int} (h:0≤n∧n < 16) : 48≤hexD n∧hexD n≤70:=by unfold hexD; split <;> omega
theorem digV_hexD {n:Int} (h:0≤n∧n < 16) : digV (hexD n)=n:=by
  unfold hexD
  split <;> unfold digV
  · rw [if_pos (by omega)]; omega
  · rw [if_neg (by omega),if_pos (by omega)]; omega
theorem hexD_digV {c:Int} (h:0≤digV c) : hexD (digV c)=c∧digV c < 16:=by
  unfold digV at h ⊢
  split at h
  · rename_i h1
    rw [if_pos h1]
    unfold hexD
    rw [if_pos (by omega)]
    omega
  · rename_i h1
    split at h
    · rename_i h2
      rw [if_neg h1,if_pos h2]
      unfold hexD
      rw [if_neg (by omega)]
      omega
    · omega
theorem digV_lt (c:Int) : digV c < 16∧-1≤digV c:=by unfold digV; split; omega; split <;> omega
theorem putH_len:∀ b:List Int,(putH b).length=2 * b.length
  | []=>rfl
  | c :: b=>by simp only [putH,List.length_cons,putH_len b]; omega
theorem putH_app:∀ a b:List Int,putH (a++b)=putH a++putH b
  | [],b=>rfl
  | c :: a,b=>by simp only [List.cons_append,putH,putH_app a b]
theorem takeH_put:∀ b:List Int,(∀ x,x∈b→0≤x∧x < 256)→takeH (putH b)=some b
  | [],_=>rfl
  | c :: b,h=>by
    have hc:=h c (List.mem_cons_self ..)
    have h1:=digV_hexD (n:=c / 16) (by omega)
    have h2:=digV_hexD (n:=c % 16) (by omega)
    simp only [putH,takeH]
    rw [h1,h2,if_neg (by omega),takeH_put b fun x hx=>h x (List.mem_cons_of_mem _ hx),show (16 * (c / 16) + c % 16) % 256=c from by omega]
    rfl
theorem takeH_some:∀ {s x:List Int},takeH s=some x→s=putH x∧∀ y,y∈x→0≤y∧y < 256
  | [],x,h=>by
    injection h with h
    subst h
    exact ⟨rfl,fun y hy=>by cases hy⟩
  | [_],x,h=>by cases h
  | a :: b :: r,x,h=>by
    simp only [takeH] at h
    split at h
    · cases h
    · rename_i hd
      cases hr:takeH r with
      | none=>rw [hr] at h; cases h
      | some l =>
        rw [hr] at h
        injection h with h
        obtain ⟨h1,h2⟩:=takeH_some hr
        have ha:=hexD_digV (c:=a) (by omega)
        have hb:=hexD_digV (c:=b) (by omega)
        subst h
        refine ⟨?_,fun y hy=>?_⟩
        · simp only [putH]
          rw [show (16 * digV a + digV b) % 256 / 16=digV a from by omega,show (16 * digV a + digV b) % 256 % 16=digV b from by omega,ha.1,hb.1,← h1]
        · rcases List.mem_cons.1 hy with rfl | hy
          · omega
          · exact h2 y hy
theorem takeH_step {xs:List Int} {k:Nat} (h:2 * k + 1 < xs.length) (ha:¬ digV (xs.getD (2 * k) 0) < 0) (hb:¬ digV (xs.getD (2 * k + 1) 0) < 0) : takeH (xs.drop (2 * k))=(takeH (xs.drop (2 * (k + 1)))).map fun l=>[(16 * digV (xs.getD (2 * k) 0) + digV (xs.getD (2 * k + 1) 0)) % 256]++l:=by
  have e1:xs.getD (2 * k) 0=xs[2 * k]:=by rw [List.getD_eq_getElem?_getD,List.getElem?_eq_getElem (by omega)]; rfl
  have e2:xs.getD (2 * k + 1) 0=xs[2 * k + 1]:=by rw [List.getD_eq_getElem?_getD,List.getElem?_eq_getElem h]; rfl
  rw [List.drop_eq_getElem_cons (show 2 * k < xs.length by omega),List.drop_eq_getElem_cons h,← e1,← e2]
  simp only [takeH]
  rw [if_neg (by omega),show 2 * k + 1 + 1=2 * (k + 1) by omega]
  rfl
theorem takeH_bad {xs:List Int} {k:Nat} (h:2 * k + 1 < xs.length) (hd:digV (xs.getD (2 * k) 0) < 0∨digV (xs.getD (2 * k + 1) 0) < 0) : takeH (xs.drop (2 * k))=none:=by
  have e1:xs.getD (2 * k) 0=xs[2 * k]:=by rw [List.getD_eq_getElem?_getD,List.getElem?_eq_getElem (by omega)]; rfl
  have e2:xs.getD (2 * k + 1) 0=xs[2 * k + 1]:=by rw [List.getD_eq_getElem?_getD,List.getElem?_eq_getElem h]; rfl
  rw [List.drop_eq_getElem_cons (show 2 * k < xs.length by omega),List.drop_eq_getElem_cons h,← e1,← e2]
  simp only [takeH]
  rw [if_pos hd]
theorem takeH_odd:∀ {xs:List Int},xs.length % 2 ≠ 0→takeH xs=none
  | [],h=>by simp at h
  | [_],_=>rfl
  | a :: b :: r,h=>by
    simp only [takeH]
    split
    · rfl
    · rw [takeH_odd (by simp only [List.length_cons] at h; omega)]
      rfl
theorem takeH_len {s x:List Int} (h:takeH s=some x) : s.length=2 * x.length:=by
  obtain ⟨h1,_⟩:=takeH_some h
  rw [h1,putH_len]
theorem takeH_end {xs L:List Int} {k:Nat} (h:takeH xs=(takeH (xs.drop (2 * k))).map fun l=>L++l) (h1:¬ 2 * k < xs.length) : takeH xs=some L:=by
  rw [List.drop_eq_nil_of_le (by omega)] at h
  rw [h]
  simp [takeH]
theorem takeH_next {xs L:List Int} {k:Nat} (h:takeH xs=(takeH (xs.drop (2 * k))).map fun l=>L++l) (h2:2 * k + 1 < xs.length) (ha:¬ digV (xs.getD (2 * k) 0) < 0) (hb:¬ digV (xs.getD (2 * k + 1) 0) < 0) : takeH xs=(takeH (xs.drop (2 * (k + 1)))).map fun l=>(L++[(16 * digV (xs.getD (2 * k) 0) + digV (xs.getD (2 * k + 1) 0)) % 256])++l:=by
  rw [h,takeH_step h2 ha hb]
  cases takeH (xs.drop (2 * (k + 1))) with
  | none=>rfl
  | some l=>simp
theorem takeH_no {xs L:List Int} {k:Nat} (h:takeH xs=(takeH (xs.drop (2 * k))).map fun l=>L++l) (h2:2 * k + 1 < xs.length) (hd:digV (xs.getD (2 * k) 0) < 0∨digV (xs.getD (2 * k + 1) 0) < 0) : takeH xs=none:=by
  rw [h,takeH_bad h2 hd]
  rfl
theorem putH_snoc (b:List Int) (k:Nat) (h:k < b.length) : putH (b.take (k + 1))=(putH (b.take k)++[hexD (b.getD k 0 / 16)])++[hexD (b.getD k 0 % 16)]:=by
  rw [List.take_succ_eq_append_getElem h,putH_app,List.getD_eq_getElem?_getD,List.getElem?_eq_getElem h]
  simp [putH]
end Go.Proofs.YtgjlbabefogepaaGreat
namespace Go.Proofs.YtgjlbabefogepaaGreat
def crc1 (x:Nat) : Nat:=(x / 2) ^^^ (x % 2 * 40961)
def crcK:Nat→Nat→Nat
  | 0,x=>x
  | k + 1,x=>crc1 (crcK k x)
def tabN (i:Nat) : Nat:=crcK 8 i
def unc1 (y:Nat) : Nat:=if y < 32768 then y * 2 else (y ^^^ 40961) * 2 + 1
def uncK:Nat→Nat→Nat
  | 0,x=>x
  | k + 1,x=>unc1 (uncK k x) % 65536
def invT (h:Nat) : Nat:=uncK 8 (h * 256) % 256
theorem crc1_lt {x:Nat} (h:x < 65536) : crc1 x < 65536:=by
  unfold crc1
  exact Nat.xor_lt_two_pow (n:=16) (by omega) (by omega)
theorem crcK_lt {x:Nat} (h:x < 65536) : ∀ k,crcK k x < 65536
  | 0=>h
  | k + 1=>crc1_lt (crcK_lt h k)
theorem tabN_lt {i:Nat} (h:i < 256) : tabN i < 65536:=crcK_lt (by omega) 8
theorem inv_tab:∀ i,i < 256→invT (tabN i / 256)=i:=by decide +kernel
def stepN (s c:Nat) : Nat:=(s / 256) ^^^ tabN ((s % 256) ^^^ c)
theorem xor_lt8 {a b:Nat} (ha:a < 256) (hb:b < 256) : a ^^^ b < 256:=Nat.xor_lt_two_pow (n:=8) ha hb
theorem xor_lt16 {a b:Nat} (ha:a < 65536) (hb:b < 65536) : a ^^^ b < 65536:=Nat.xor_lt_two_pow (n:=16) ha hb
theorem stepN_lt {s c:Nat} (hs:s < 65536) (hc:c < 256) : stepN s c < 65536:=xor_lt16 (by omega) (tabN_lt (xor_lt8 (by omega) hc))
theorem xor_can {a b c:Nat} (h:a ^^^ c=b ^^^ c) : a=b:=by
  have:=congrArg (· ^^^ c) h
  simpa only [Nat.xor_assoc,Nat.xor_self,Nat.xor_zero] using this
theorem xor_can2 {a b c:Nat} (h:c ^^^ a=c ^^^ b) : a=b:=xor_can (c:=c) (by rw [Nat.xor_comm a,Nat.xor_comm b,h])
theorem xor_hi {a t:Nat} (ha:a < 256) : (a ^^^ t) / 256=t / 256:=by
  rw [← Nat.shiftRight_eq_div_pow (a ^^^ t) 8,Nat.shiftRight_xor_distrib,Nat.shiftRight_eq_div_pow,Nat.shiftRight_eq_div_pow,show a / 2 ^ 8=0 from by omega,Nat.zero_xor]
theorem step_one {s s' c c':Nat} (hs:s < 65536) (hs':s' < 65536) (hc:c < 256) (hc':c' < 256) (h:stepN s c=stepN s' c') : (s % 256) ^^^ c=(s' % 256) ^^^ c'∧s / 256=s' / 256:=by
  unfold stepN at h
  have h1:=xor_hi (a:=s / 256) (t:=tabN ((s % 256) ^^^ c)) (by omega)
  have h2:=xor_hi (a:=s' / 256) (t:=tabN ((s' % 256) ^^^ c')) (by omega)
  have h3:(s % 256) ^^^ c=(s' % 256) ^^^ c':=by
    rw [← inv_tab _ (xor_lt8 (by omega:s % 256 < 256) hc),← inv_tab _ (xor_lt8 (by omega:s' % 256 < 256) hc'),← h1,← h2,h]
  rw [h3] at h
  exact ⟨h3,xor_can h⟩
theorem step_injS {s s' c:Nat} (hs:s < 65536) (hs':s' < 65536) (hc:c < 256) (h:stepN s c=stepN s' c) : s=s':=by
  obtain ⟨h1,h2⟩:=step_one hs hs' hc hc h
  have:=xor_can h1
  omega
theorem step_injC {s c c':Nat} (hs:s < 65536) (hc:c < 256) (hc':c' < 256) (h:stepN s c=stepN s c') : c=c':=xor_can2 (step_one hs hs hc hc' h).1
def xi (a b:Int) : Int:=((a.toNat ^^^ b.toNat:Nat) : Int)
theorem xi8 {a b:Int} (ha:0≤a∧a < 256) (hb:0≤b∧b < 256) : 0≤xi a b∧xi a b < 256:=by
  have:=xor_lt8 (a:=a.toNat) (b:=b.toNat) (by omega) (by omega)
  unfold xi
  omega
theorem crc1_xi (n:Nat) : xi (((n:Nat) : Int) / 2) ((((n:Nat) : Int) % 2) * 40961 % 65536)=((crc1 n:Nat) : Int):=by
  unfold xi crc1
  rw [show (((n:Nat) : Int) / 2).toNat=n / 2 from by omega,show ((((n:Nat) : Int) % 2) * 40961 % 65536).toNat=n % 2 * 40961 from by omega]
def tabI (i:Int) : Int:=((tabN i.toNat:Nat) : Int)
theorem tabI_rng {i:Int} (h:0≤i∧i < 256) : 0≤tabI i∧tabI i < 65536:=by
  have:=tabN_lt (i:=i.toNat) (by omega)
  unfold tabI
  omega
def crcS (s c:Int) : Int:=xi (s / 256) (tabI (xi (s % 256) c))
theorem crcS_nat {s c:Int} (hs:0≤s∧s < 65536) (hc:0≤c∧c < 256) : crcS s c=((stepN s.toNat c.toNat:Nat) : Int):=by
  unfold crcS tabI xi stepN
  rw [show (s / 256).toNat=s.toNat / 256 from by omega,show (s % 256).toNat=s.toNat % 256 from by omega]
  simp only [Int.toNat_natCast]
theorem crcS_rng {s c:Int} (hs:0≤s∧s < 65536) (hc:0≤c∧c < 256) : 0≤crcS s c∧crcS s c < 65536:=by
  have:=stepN_lt (s:=s.toNat) (c:=c.toNat) (by omega) (by omega)
  rw [crcS_nat hs hc]
  omega
def crcT (s:Int) (b:List Int) : Int:=b.foldl crcS s
theorem crcT_rng:∀ (b:List Int) {s:Int},(0≤s∧s < 65536)→(∀ x,x∈b→0≤x∧x < 256)→0≤crcT s b∧crcT s b < 65536
  | [],s,hs,_=>hs
  | c :: b,s,hs,hb=>crcT_rng b (crcS_rng hs (hb c (List.mem_cons_self ..))) fun x hx=>hb x (List.mem_cons_of_mem _ hx)
theorem crcS_injS {s s' c:Int} (hs:0≤s∧s < 65536) (hs':0≤s'∧s' < 65536) (hc:0≤c∧c < 256) (h:crcS s c=crcS s' c) : s=s':=by
  rw [crcS_nat hs hc,crcS_nat hs' hc] at h
  have:=step_injS (s:=s.toNat) (s':=s'.toNat) (c:=c.toNat) (by omega) (by omega) (by omega) (by omega)
  omega
theorem crcS_injC {s c c':Int} (hs:0≤s∧s < 65536) (hc:0≤c∧c < 256) (hc':0≤c'∧c' < 256) (h:crcS s c=crcS s c') : c=c':=by
  rw [crcS_nat hs hc,crcS_nat hs hc'] at h
  have:=step_injC (s:=s.toNat) (c:=c.toNat) (c':=c'.toNat) (by omega) (by omega) (by omega) (by omega)
  omega
theorem crcT_injS:∀ (b:List Int) {s s':Int},(0≤s∧s < 65536)→(0≤s'∧s' < 65536)→(∀ x,x∈b→0≤x∧x < 256)→crcT s b=crcT s' b→s=s'
  | [],s,s',_,_,_,h=>h
  | c :: b,s,s',hs,hs',hb,h =>
    have hc:=hb c (List.mem_cons_self ..)
    crcS_injS hs hs' hc (crcT_injS b (crcS_rng hs hc) (crcS_rng hs' hc) (fun x hx=>hb x (List.mem_cons_of_mem _ hx)) h)
theorem crcT_app (s:Int) (a b:List Int) : crcT s (a++b)=crcT (crcT s a) b:=by unfold crcT; rw [List.foldl_append]
theorem crcT_one {s c c':Int} {a d:List Int} (hs:0≤s∧s < 65536) (ha:∀ x,x∈a→0≤x∧x < 256) (hd:∀ x,x∈d→0≤x∧x < 256) (hc:0≤c∧c < 256) (hc':0≤c'∧c' < 256) (h:crcT s (a++c :: d)=crcT s (a++c' :: d)) : c=c':=by
  rw [crcT_app,crcT_app] at h
  have hr:=crcT_rng a hs ha
  exact crcS_injC hr hc hc' (crcT_injS d (crcS_rng hr hc) (crcS_rng hr hc') hd h)
def crcTwo (s:Int) : List Int:=[s % 256,s / 256 % 256]
theorem crcTwo_length (s:Int) : (crcTwo s).length=2:=rfl
def crcIs (b:List Int) : Bool:=decide (2≤b.length) && decide (crcTwo (crcT 65535 (b.take (b.length - 2)))=b.drop (b.length - 2))
open Go.RowKit
def arE (P:Program) (ty:TypeId) : Option (Nat × TypeId):=match P.underlying ty with | some (.array m e)=>some (m,e) | _=>none
theorem arE_some {P:Program} {ty e:TypeId} {m:Nat} (h:arE P ty=some (m,e)) : P.underlying ty=some (.array m e):=by
  unfold arE at h
  split at h
  · injection h with h
    injection h with h1 h2
    subst h1 h2
    assumption
  · cases h
theorem run_ixarr {P:Program} {w:World} {ev:Operand→Value} {o:Oper} {t e:TypeId} {x ix:Operand} {b off j m:Nat} {k:IntKind} {i:Int} (ho:o.op = .indexAddr t x ix) (ht:P.underlying t=some (.array m e)) (hi:(P.info? e).map (·.size)=some 1)
    (hx:ev x = .pointer (some ⟨b,off,none⟩)) (hix:ev ix = .int k i) (hj:i=j) (hlt:j < m) : (execOp ev o).run P w = .ok (.value (.pointer (some ⟨b,off + j,none⟩))) w:=by
  subst hj
  obtain ⟨i0,hi0,hs⟩:=Option.map_eq_some_iff.1 hi
  unfold execOp
  have h2:(0:Int)≤(j:Int)∧(j:Int) < (m:Int):=by omega
  simp [ho,hx,hix,Instr.indexAt,Instr.sureAddr,asIntOf,run_underlying ht,Result.andThen,h2,sizeOf,typeInfo,hi0,hs,add_mk,hlt]
section
variable {P:Program} {n:Nat} {D:List Deferred} {F:Fr} {w:World} {K:Fr→World→Prop} {Q:Exit→Act→World→Prop} {d:Option Tmp} {t:TypeId} {s:String} {af:Array Edge} {gu:Option (Nat × Bool)}
theorem Oia {ty:TypeId} {x ix:Operand} {b off:Nat} (m j:Nat) (i:Int) (hj:i=j) (hlt:j < m) (h:K (pt d (.pointer (some ⟨b,off + j,none⟩)) F) w)
    (hx:evo F x=some (.pointer (some ⟨b,off,none⟩)):=by kernel_rfl) (hi:ixA F ix=some i:=by kernel_rfl) (hs:((arE P ty).bind fun p=>(P.info? p.2).map fun q=>(p.1,q.size),dok n d)=(some (m,1),true):=by kernel_rfl) : OG P ⟨d,.indexAddr ty x ix,t,s,af,gu⟩ n D F w K Q:=by
  simp only [Prod.mk.injEq] at hs
  obtain ⟨hs,hd⟩:=hs
  obtain ⟨k,hi⟩:=ixA_some hi
  cases he:arE P ty with
  | none=>rw [he] at hs; simp at hs
  | some p =>
    obtain ⟨m',e⟩:=p
    rw [he] at hs
    obtain ⟨q,hq,h3⟩:=Option.map_eq_some_iff.1 (show (P.info? e).map (fun q=>(m',q.size))=some (m,1) from hs)
    injection h3 with h4 h5
    subst h4
    exact ⟨fun a ha K' hK=>ow_val _ rfl (run_ixarr rfl (arE_some he) (by rw [hq]; simp [h5]) (ha.ev hx) (ha.ev hi) hj hlt) (hK _ _ _ h (ha.put hd))⟩
end
theorem xi_u8 {a b:Int} (ha:0≤a∧a < 256) (hb:0≤b∧b < 256) : bits .xor .u8 a b=xi a b:=u8_xor a b ha.1 ha.2 hb.1 hb.2
theorem xi_u16 {a b:Int} (ha:0≤a∧a < 65536) (hb:0≤b∧b < 65536) : bits .xor .u16 a b=xi a b:=u16_xor a b ha.1 ha.2 hb.1 hb.2
theorem and1_u16 {a:Int} (ha:0≤a∧a < 65536) : bits .and .u16 a 1=a % 2:=by
  rw [u16_and a 1 ha.1 ha.2 (by omega) (by omega)]
  show ((a.toNat &&& 1:Nat) : Int)=_
  rw [Nat.and_one_is_mod]
  omega
def tabA (k:Nat) : Array Value:=((List.range 256).map fun i=>if i < k then Value.int .u16 (tabI i) else Value.int .u16 0).toArray
theorem tabA_size (k:Nat) : (tabA k).size=256:=by simp [tabA]
theorem tabA_one (k:Nat) : (tabA k).all (·.oneCell')=true:=by
  unfold tabA
  rw [List.all_toArray,List.all_eq_true]
  intro v hv
  rw [List.mem_map] at hv
  obtain ⟨i,_,rfl⟩:=hv
  split <;> rfl
theorem tabA_set {i k:Nat} (hk:k=8) (hi:i < 256) : (tabA i).setIfInBounds i (.int .u16 ((crcK k i:Nat) : Int))=tabA (i + 1):=by
  subst hk
  unfold tabA
  rw [List.setIfInBounds_toArray]
  congr 1
  apply List.ext_getElem?
  intro j
  rw [List.getElem?_set]
  by_cases hj:j < 256
  · by_cases hij:i=j
    · subst hij
      simp [hi,tabI,tabN]
    · simp [hij,hj]
      congr 1
      simp only [eq_iff_iff]
      omega
  · rw [if_neg (by omega)]
    simp [hj]
theorem tabA_at {i:Nat} (h:i < 256) : (tabA 256)[i]? = some (.int .u16 (tabI i)):=by simp [tabA,h]
def crcP (s:Int) (b:List Int) : Nat→Int
  | 0=>s
  | k + 1=>crcS (crcP s b k) (b.getD k 0)
theorem crcP_take (s:Int) (b:List Int) : ∀ k,k≤b.length→crcP s b k=crcT s (b.take k)
  | 0,_=>by simp [crcP,crcT]
  | k + 1,h=>by
    rw [List.take_succ_eq_append_getElem (by omega),crcT_app,← crcP_take s b k (by omega)]
    show crcS _ (b.getD k 0)=_
    rw [List.getD_eq_getElem?_getD,List.getElem?_eq_getElem (by omega)]
    rfl
theorem crcP_all {s:Int} {b:List Int} {k:Nat} (h:k=b.length) : crcP s b k=crcT s b:=by
  subst h
  rw [crcP_take _ _ _ (Nat.le_refl _),List.take_length]
theorem crcP_rng {s:Int} {b:List Int} (hs:0≤s∧s < 65536) (hb:∀ x,x∈b→0≤x∧x < 256) : ∀ k,0≤crcP s b k∧crcP s b k < 65536
  | 0=>hs
  | k + 1=>crcS_rng (crcP_rng hs hb k) (getD_rng (by omega) hb k)
theorem tabI_nat {i:Int} (h:0≤i) : tabI ((i.toNat:Nat) : Int)=tabI i:=by rw [Int.toNat_of_nonneg h]
open Go.RowKit
set_option maxRecDepth 100000 in
set_option maxHeartbeats 4000000 in
theorem lrc_one {w:World} {g:Nat} {c s:Int} (hg:w.heap[g]? = some (.cells #[.int .u8 s] 5 (0,0))) : Calls Tryz.prog 74 #[.int .u8 c,.pointer (some ⟨g,0,none⟩)] w (fun e w'=>e = .returned (.tuple #[])∧w'.heap[g]? = some (.cells #[.int .u8 ((s + c) % 256)] 5 (0,0))∧Upd [g] w w'):=by
 refine en 6 Tryz.func74 rfl<|go<|L0<|Olb hg 0<|Pl 2<|L0<|Ost hg 0 #[.int .u8 ((s + c) % 256)] fun w10 B11 hu12=>nl<|rm (.tuple #[])<|?_
 exact ⟨rfl,B11,hu12⟩
set_option maxRecDepth 100000 in
set_option maxHeartbeats 4000000 in
theorem each_any0 {m:Bool} {A:Option Addr} {cp:Nat} {b:List Int} {w0 w:World} {g:Nat} (hu0:Upd [] w0 w) (hg0:w0.heap.size≤g) (hsl:RdB m w0 (.slice A b.length cp) b) (hg:w.heap[g]? = some (.cells #[.int .u8 (lrcP b 0)] 5 (0,0))) :
    Calls Tryz.prog 73 #[.slice A b.length cp,.func (.func 74) #[] #[.pointer (some ⟨g,0,none⟩)]] w (fun e w'=>e = .returned (.tuple #[])∧w'.heap[g]? = some (.cells #[.int .u8 (lrcS b)] 5 (0,0))∧Upd [] w0 w'∧w.heap.size≤w'.heap.size):=by
 have hln:=RdG.len hsl
 refine en 16 Tryz.func73 rfl<|sg<|Pl 3<|nt<|bk<|?_
 refine glp (fun x=>[(1,.func (.func 74) #[] #[.pointer (some ⟨g,0,none⟩)]),(6,.slice A b.length cp),(7,.int .i64 ((b.length:Nat) : Int)),(8,.int .i64 ((x:Nat) : Int))]) (fun (x:Nat) w'=>Upd [] w0 w'∧w.heap.size≤w'.heap.size∧w'.heap[g]? = some (.cells #[.int .u8 (lrcP b x)] 5 (0,0))∧(x≤b.length)) (fun x=>b.length - x) 0 ⟨hu0,lr,hg,(by (try dsimp only); omega)⟩ ?_
 rintro k w10 ⟨hu11,hz14,f12,p13⟩
 refine wkc [(1,.func (.func 74) #[] #[.pointer (some ⟨g,0,none⟩)]),(6,.slice A b.length cp),(7,.int .i64 ((b.length:Nat) : Int)),(8,.int .i64 ((k:Nat) : Int))] ?_
 have f15:w10.heap[g]? = some (.cells #[.int .u8 (lrcP b k)] 5 (0,0)):=f12
 have p16:k≤b.length:=p13
 refine sg<|Pl 1<|nt<|sq<|cb ((decide (((k:Nat) : Int) < ((b.length:Nat) : Int)))) (fun q17=>?_) (fun q17=>?_)
 have q17p:=of_decide_eq_true q17
 refine skn<|sq<|bk<|sg<|?_
 have U18:=ut0 (Upd.refl [] _) hu11
 have r19:=RdB.old hsl U18
 refine x23 (RdB.at_ r19 k (by omega)) fun b20 o21 hA22 hl23 hr24=>L0<|Oix b.length k hA22 (by omega)<|L0<|Old (p:=⟨b20,o21 + k,none⟩) (v:=.int .u8 (b.getD k 0)) hl23<|Pl 1<|nt<|go<|Pl 2<|L0<|Ocv #[] #[.pointer (some ⟨g,0,none⟩)] (args:=#[.int .u8 (b.getD k 0),.pointer (some ⟨g,0,none⟩)])<|m2 (lrc_one (c:=(b.getD k 0)) f15) fun w25 B26 hu27=>nl<|bn<|tn<|go<|L0<|Oi (((k:Nat) : Int) + 1)<|?_
 refine Pl 1<|nl<|?_
 have U28:=u1 U18 hu27 (nr hg0)
 exact lpe (k + 1) ⟨U28,(le hz14 hu27.size),B26,(by (try dsimp only); omega)⟩ (by omega)
 have q17p:=of_decide_eq_false q17
 refine xt<|tx<|tx<|bx<|rm (.tuple #[])<|?_
 have hk:k=b.length:=by omega
 subst hk
 have U29:=ut0 (Upd.refl [] _) hu11
 exact ⟨rfl,f15,U29,hz14⟩
set_option maxRecDepth 100000 in
set_option maxHeartbeats 4000000 in
theorem lrcof_any0 {m:Bool} {A:Option Addr} {cp:Nat} {b:List Int} {w:World} (hsl:RdB m w (.slice A b.length cp) b) :
    Calls Tryz.prog 58 #[.slice A b.length cp] w (PVal (.int .u8 (lrcOf b)) w):=by
 refine en 9 Tryz.func58 rfl<|sg<|Pl 1<|ng<|L0<|Oal #[.int .u8 0] fun g10 w11 hg12 B13 hu14=>L0<|Ost B13 0 #[.int .u8 0] fun w15 B16 hu17=>ng<|?_
 refine Pl 2<|?_
 have U18:=u1 hu14 hu17 (nr hg12)
 refine L0<|Oc<|m3 (each_any0 U18 hg12 hsl B16) fun w19 B20 hj21 hz22=>ng<|L0<|Olb B20 0<|Pl 2<|nt<|rt<|rr (.int .u8 ((0 - (lrcS b)) % 256))<|?_
 have U23:=ut0 (Upd.refl [] _) hj21
 exact ⟨rfl,U23⟩
theorem lrcof_any {m:Bool} {v:Value} {b:List Int} {w:World} (h:RdB m w v b) : Calls Tryz.prog 58 #[v] w (PVal (.int .u8 (lrcOf b)) w):=by
  obtain ⟨A,cp,rfl,_,_⟩:=h.shape
  exact lrcof_any0 h
set_option maxRecDepth 100000 in
set_option maxHeartbeats 4000000 in
theorem lrcis_any0 {m:Bool} {A:Option Addr} {cp:Nat} {b:List Int} {w:World} (hsl:RdB m w (.slice A b.length cp) b) :
    Calls Tryz.prog 56 #[.slice A b.length cp] w (PVal (.bool (lrcIs b)) w):=by
 refine en 11 Tryz.func56 rfl<|sg<|Pl 1<|ng<|Pl 4<|bl 6 ((decide (0 < ((b.length:Nat) : Int)))) (fun q10=>?_) (fun q10=>?_)
 have q10p:=of_decide_eq_true q10
 refine Pl 1<|L1<|Oc (args:=#[.slice A b.length cp])<|m1 (lrcof_any hsl) fun w11 hu12=>Pl 3<|nt<|rt<|rr (.bool ((lrcOf b) == 0))<|?_
 have hs:lrcIs b=((lrcOf b) == 0):=by unfold lrcIs; (try simp only [q10,bs,if_true,if_false,decide_true,decide_false]); all_goals rfl
 rw [hs]
 exact ⟨rfl,hu12⟩
 have q10p:=of_decide_eq_false q10
 refine Pl 5<|nt<|rt<|rr (.bool false)<|?_
 have hs:lrcIs b=false:=by unfold lrcIs; (try simp only [q10,bs,if_true,if_false,decide_true,decide_false]); all_goals rfl
 rw [hs]
 exact ⟨rfl,(Upd.refl [] _)⟩
theorem lrcis_any {m:Bool} {v:Value} {b:List Int} {w:World} (h:RdB m w v b) : Calls Tryz.prog 56 #[v] w (PVal (.bool (lrcIs b)) w):=by
  obtain ⟨A,cp,rfl,_,_⟩:=h.shape
  exact lrcis_any0 h
open Go.RowKit
theorem bld_info:∃ j,Tryz.prog.info? 109=some j∧j.size=2:=Option.map_eq_some_iff.1 (show (Tryz.prog.info? 109).map (·.size)=some 2 by kernel_rfl)
set_option maxHeartbeats 1000000 in
set_option maxRecDepth 100000 in
theorem copyck_fresh (b:Nat) (w:World) (h0:w.cell? ⟨b,0,none⟩=some (.pointer none)) (hsh:w.shape? b=some (109,2)) (hfz:w.frozen? ⟨b,0,none⟩=false) :
    Calls Tryz.prog 94 #[.pointer (some ⟨b,0,none⟩)] w fun e w'=>e = .returned (.tuple #[])∧w'=w.setCell ⟨b,0,none⟩ (.pointer (some ⟨b,0,none⟩)):=by
  obtain ⟨j,hj,hjs⟩:=bld_info
  go_enter Tryz.func94,Tryz.ntmps94
  go_wp2
  rw [Lib.run_to_unsafe w ⟨b,0,none⟩ Tryz.underlying107 Tryz.underlying164 hj (by rw [hjs]; decide) hsh (Nat.zero_lt_succ 1)]
  simp only [Result.andThen]
  rw [Oper.upon_value]
  go_wp2
  rw [run_callFunc_extern Tryz.func129 (by kernel_rfl) (by kernel_rfl) (by kernel_rfl) (e:=Extern.AbiNoEscape.same) (by kernel_rfl)]
  rw [Lib.run_noEscape]
  simp only [Result.andThen]
  rw [Oper.upon_value]
  go_wp2
  rw [Lib.run_from_unsafe w ⟨b,0,none⟩ Tryz.underlying164 Tryz.underlying107 hj hsh (by kernel_rfl)]
  simp only [Result.andThen]
  rw [Oper.upon_value]
  go_wp2
  go_end0
  exact ⟨rfl,rfl⟩
set_option maxHeartbeats 1000000 in
set_option maxRecDepth 100000 in
theorem copyck_used (b:Nat) (w:World) (h0:w.cell? ⟨b,0,none⟩=some (.pointer (some ⟨b,0,none⟩))) :
    Calls Tryz.prog 94 #[.pointer (some ⟨b,0,none⟩)] w fun e w'=>e = .returned (.tuple #[])∧w'=w:=by
  obtain ⟨j,hj,_⟩:=bld_info
  go_enter Tryz.func94,Tryz.ntmps94
  go_wp2
  rw [Lib.run_neq_ptr_same w _ Tryz.underlying107 hj]
  go_wp2
  go_end0
  exact ⟨rfl,rfl⟩
theorem copyck_any {w:World} {b:Nat} {p v:Value} (hp:p = .pointer none∨p = .pointer (some ⟨b,0,none⟩)) (hb:w.heap[b]? = some (.cells #[p,v] 109 (0,0))) :
    Calls Tryz.prog 94 #[.pointer (some ⟨b,0,none⟩)] w fun e w'=>e = .returned (.tuple #[])∧w'.heap[b]? = some (.cells #[.pointer (some ⟨b,0,none⟩),v] 109 (0,0))∧Upd [b] w w':=by
  have h0:w.cell? ⟨b,0,none⟩=some p:=(blk_cell hb 0).trans rfl
  rcases hp with rfl | rfl
  · refine (copyck_fresh b w h0 (by simp [World.shape?,hb]) (blk_frozen hb 0)).mono ?_
    rintro e w' ⟨rfl,rfl⟩
    exact ⟨rfl,(blk_set hb 0 _).trans rfl,(Upd.refl _ _).setCell (Or.inl (by simp)) _⟩
  · refine (copyck_used b w h0).mono ?_
    rintro e w' ⟨rfl,rfl⟩
    exact ⟨rfl,hb,Upd.refl _ _⟩
def hexA:Array Value:=#[.int .u8 48,.int .u8 49,.int .u8 50,.int .u8 51,.int .u8 52,.int .u8 53,.int .u8 54,.int .u8 55,.int .u8 56,.int .u8 57,.int .u8 65,.int .u8 66,.int .u8 67,.int .u8 68,.int .u8 69,.int .u8 70]
theorem hexA_at:∀ {j:Nat},j < 16→hexA[j]? = some (.int .u8 (hexD (j:Int)))
  | 0,_ | 1,_ | 2,_ | 3,_ | 4,_ | 5,_ | 6,_ | 7,_ | 8,_ | 9,_ | 10,_ | 11,_ | 12,_ | 13,_ | 14,_ | 15,_=>rfl
  | n + 16,h=>by omega
theorem hexA_nat {i:Int} (h:0≤i∧i < 16) : hexA[i.toNat]? = some (.int .u8 (hexD i)):=by
  rw [hexA_at (by omega),Int.toNat_of_nonneg h.1]
theorem run_idxh {P:Program} {w:World} {ev:Operand→Value} {o:Oper} {x ix:Operand} {t e:TypeId} {k:IntKind} {i:Int} (j:Nat) (ho:o.op = .index t x ix) (ht:P.underlying t=some (.array 16 e)) (hi:(P.info? e).map (·.size)=some 1) (hr:∀ w,(isAgg e).run P w = .ok false w) (hx:ev x = .agg hexA) (hy:ev ix = .int k i) (hj:i=(j:Int)) (hlt:j < 16) : (execOp ev o).run P w = .ok (.value (.int .u8 (hexD (j:Int)))) w:=by
  subst hj
  obtain ⟨i0,hi0,hs⟩:=Option.map_eq_some_iff.1 hi
  have h:=hexA_at hlt
  unfold execOp
  have h2:(0:Int)≤(j:Int)∧(j:Int) < 16:=by omega
  simp [ho,hx,hy,Instr.index,asIntOf,run_underlying ht,Result.andThen,h2,sizeOf,typeInfo,hi0,hs,part,h,hr,hlt]
def Bld (B b:Nat) (L:List Int) (w:World) : Prop:=∃ p A cp,w.heap[b]? = some (.cells #[p,.slice A L.length cp] 109 (0,0))∧(p = .pointer none∨p = .pointer (some ⟨b,0,none⟩))∧OwnB B w (.slice A L.length cp) L
theorem Bld.new {B b:Nat} {w:World} (hb:w.heap[b]? = some (.cells #[.pointer none,.slice none 0 0] 109 (0,0))) : Bld B b [] w:=⟨_,_,_,hb,.inl rfl,OwnG.nil ..⟩
def bren:Go.Shelf.Ren:=⟨fun | 169=>72 | n=>n,fun | 70=>107 | 9=>9 | 0=>0 | 72=>109 | 37=>29 | 127=>126 | 3=>3 | 5=>5 | n=>n,fun | n=>n⟩
theorem blays:Go.Proofs.Lays.n169 Tryz.prog bren:={
  mixed:=by kernel_rfl
  f169:=Tryz.func72.trans (congrArg some (by kernel_rfl))
  t0:=Tryz.underlying0
  a0:=Tryz.isAgg0
  z0:=Tryz.sizeOf0
  v0:=Tryz.zeroValue0
  t3:=Tryz.underlying3
  a3:=Tryz.isAgg3
  z3:=Tryz.sizeOf3
  v3:=Tryz.zeroValue3
  t9:=Tryz.underlying9
  a9:=Tryz.isAgg9
  z9:=Tryz.sizeOf9
  v9:=Tryz.zeroValue9
  t37:=Tryz.underlying29
  a37:=Tryz.isAgg29
  z37:=Tryz.sizeOf29
  v37:=Tryz.zeroValue29
  t70:=Tryz.underlying107
  a70:=Tryz.isAgg107
  z70:=Tryz.sizeOf107
  v70:=Tryz.zeroValue107
  t72:=Tryz.underlying109
  a72:=Tryz.isAgg109
  z72:=Tryz.sizeOf109
  v72:=Tryz.zeroValue109
  t127:=Tryz.underlying126
  a127:=Tryz.isAgg126
  z127:=Tryz.sizeOf126
  v127:=Tryz.zeroValue126 }
theorem bextra:Builder.Extra Tryz.prog bren:={
  sizeBuilder:=by kernel_rfl
  liesBuilder:=by kernel_rfl
  t5:=Tryz.underlying5
  a5:=Tryz.isAgg5
  z5:=Tryz.sizeOf5
  v5:=Tryz.zeroValue5
  infoByte:=by kernel_rfl
  cellsByte:=by kernel_rfl
  sizeByte:=by kernel_rfl
  neB5:=by decide }
theorem bytecells {L:List Int} (h:Byts L) : Lib.byteCells (L.map fun n=>UInt8.ofNat n.toNat)=L.map (Value.int .u8):=by
  unfold Lib.byteCells
  rw [List.map_map]
  apply List.map_congr_left
  intro x hx
  show Value.int .u8 _=_
  rw [u8_back (h x hx)]
theorem bld_string {w0 w:World} {b:Nat} {L:List Int} (hu:Upd [] w0 w) (hg:w0.heap.size≤b) (h:Bld w0.heap.size b L w) (hr:Byts L) :
    Calls Tryz.prog 72 #[.pointer (some ⟨b,0,none⟩)] w fun e w'=>e = .returned (.string (strOfNums L))∧Upd [] w0 w':=by
  obtain ⟨p,A,cp,hb,hp,ho⟩:=h
  have h1:=row_of_own (enc:=Value.int .u8) (fun _ _ _ h=>h.1) ho
  have h2:Lib.BuilderAt 109 5 w0.heap.size b p (Lib.byteCells (L.map fun n=>UInt8.ofNat n.toNat)) w:=by
    rw [bytecells hr]
    refine ⟨hg,_,hb,by rw [List.length_map]; exact h1,fun hq=>?_⟩
    rcases h1.2 with ⟨hv,_⟩ | ⟨g',cap,cur,hv,_,hh,_⟩
    · rw [hv] at hq; cases hq
    · rw [hv] at hq
      have e:g'=b:=by simpa [Value.ownBlock] using hq
      subst e
      rw [hb] at hh
      injection hh with hh
      injection hh with _ h5 _
      exact absurd h5 (by decide)
  have h3:Lib.IsBuilder (bren.t 72) (bren.t 5) w0.heap.size b (Lib.byteCells (L.map fun n=>UInt8.ofNat n.toNat)) w:=by
    rcases hp with rfl | rfl
    · exact Or.inl h2
    · exact Or.inr h2
  refine (Any.Builder_String_any blays bextra _ _ _ _ h3 hu.size).mono ?_
  rintro e w' ⟨rfl,hbel⟩
  exact ⟨rfl,hu.os ▸ hbel.os,hu.tape ▸ hbel.tape,hu.output ▸ hbel.output,Nat.le_trans hu.size hbel.size,fun k hk hn=>(hbel.block k hk).trans (hu.block k hk hn)⟩
open Go.RowKit
set_option maxRecDepth 100000 in
set_option maxHeartbeats 4000000 in
theorem digits_any {w:World}:Calls Tryz.prog 70 #[] w (PVal (.agg hexA) w):=by
 refine en 2 Tryz.func70 rfl<|sg<|L0<|Oal #[.int .u8 0,.int .u8 0,.int .u8 0,.int .u8 0,.int .u8 0,.int .u8 0,.int .u8 0,.int .u8 0,.int .u8 0,.int .u8 0,.int .u8 0,.int .u8 0,.int .u8 0,.int .u8 0,.int .u8 0,.int .u8 0] fun g10 w11 hg12 B13 hu14=>ng<|Pl 1<|L0<|Osw B13 #[.int .u8 48,.int .u8 49,.int .u8 50,.int .u8 51,.int .u8 52,.int .u8 53,.int .u8 54,.int .u8 55,.int .u8 56,.int .u8 57,.int .u8 65,.int .u8 66,.int .u8 67,.int .u8 68,.int .u8 69,.int .u8 70] fun w15 B16 hu17=>nt<|rt<|rc1 B16<|?_
 have U18:=u1 hu14 hu17 (nr hg12)
 exact ⟨rfl,U18⟩
theorem dig_next {c:Int} {n:Nat} (h:∀ j:Nat,j < n→hexD (j:Int) ≠ c) (q:(hexD ((n:Nat) : Int) == c)=false) : ∀ j:Nat,j < n + 1→hexD (j:Int) ≠ c:=fun j hj=>by
  by_cases e:j=n
  · subst e; simpa using q
  · exact h j (by omega)
theorem dig_at {c:Int} {n:Nat} (hn:n < 16) (q:(hexD ((n:Nat) : Int) == c)=true) : digV c=((n:Nat) : Int):=by
  have e:hexD ((n:Nat) : Int)=c:=by simpa using q
  rw [← e]
  exact digV_hexD (by omega)
theorem dig_none {c:Int} {n:Nat} (hn:n=16) (h:∀ j:Nat,j < n→hexD (j:Int) ≠ c) : digV c = -1:=by
  by_cases e:0≤digV c
  · have h1:=hexD_digV e
    exact absurd (by rw [Int.toNat_of_nonneg e]; exact h1.1) (h (digV c).toNat (by omega))
  · have:=digV_lt c
    omega
set_option maxRecDepth 100000 in
set_option maxHeartbeats 4000000 in
theorem digit_any {w:World} {c:Int} (hc:0≤c∧c < 256) : Calls Tryz.prog 69 #[.int .u8 c] w (PVal (.int .i64 (digV c)) w):=by
 refine en 15 Tryz.func69 rfl<|sg<|Pl 1<|nt<|sq<|sg<|L0<|Oc<|m1 (@digits_any w) fun w10 hu11=>Pl 1<|nt<|bk<|?_
 refine glp (fun x=>[(0,.int .u8 c),(5,.agg hexA),(6,.int .i64 ((x:Nat) : Int))]) (fun (x:Nat) w'=>Upd [] w10 w'∧(x≤16)∧(∀ j:Nat,j < x→hexD (j:Int) ≠ c)) (fun x=>16 - x) 0 ⟨Upd.refl _ _,(by (try dsimp only); omega),(fun j hj=>by omega)⟩ ?_
 rintro n w12 ⟨hu13,p14,p15⟩
 refine wkc [(0,.int .u8 c),(5,.agg hexA),(6,.int .i64 ((n:Nat) : Int))] ?_
 have p17:n≤16:=p14
 have p18:∀ j:Nat,j < n→hexD (j:Int) ≠ c:=p15
 refine sg<|Pl 1<|nt<|sq<|?_
 have U19:=ut0 hu11 hu13
 refine cb ((decide (((n:Nat) : Int) < 16))) (fun q20=>?_) (fun q20=>?_)
 have q20p:=of_decide_eq_true q20
 refine skn<|sq<|bk<|sg<|Pl 1<|L0<|Or_ (.int .u8 (hexD ((n:Nat) : Int))) (run_idxh (k:=.i64) (i:=((n:Nat) : Int)) n rfl Tryz.underlying110 (by kernel_rfl) Tryz.isAgg5 (by kernel_rfl) (by kernel_rfl) rfl (by omega))<|Pl 2<|ng<|Pl 3<|nl<|?_
 refine tn<|cb (((hexD ((n:Nat) : Int)) == c)) (fun q21=>?_) (fun q21=>?_)
 have q21p:=eq_of_beqi q21
 refine sg<|Pl 2<|nt<|rt<|br<|tr<|tr<|br<|tr<|rr (.int .i64 ((n:Nat) : Int))<|?_
 have hs:digV c=((n:Nat) : Int):=dig_at (by omega) q21
 rw [hs]
 exact ⟨rfl,U19⟩
 have q21p:=ne_of_beqi q21
 exact sk<|bn<|tn<|go<|L0<|Oi (((n:Nat) : Int) + 1)<|Pl 1<|nl<|lpe (n + 1) ⟨hu13,(by (try dsimp only); omega),(dig_next p18 q21)⟩ (by omega)
 have q20p:=of_decide_eq_false q20
 refine xt<|tx<|tx<|bx<|tn<|sg<|Pl 1<|nt<|rt<|rr (.int .i64 (-1))<|?_
 have hs:digV c = -1:=dig_none (n:=n) (by omega) p18
 rw [hs]
 exact ⟨rfl,U19⟩
set_option maxRecDepth 100000 in
set_option maxHeartbeats 4000000 in
theorem bld_write {w0 w:World} {b gd:Nat} {L:List Int} {c:Int} (hu0:Upd [] w0 w) (hg0:w0.heap.size≤b) (hg1:w0.heap.size≤gd) (h:Bld w0.heap.size b L w) (hd:w.heap[gd]? = some (.cells hexA 110 (0,0))) (hne:gd ≠ b) (hc:0≤c∧c < 256) (hl:L.length≤1048576) :
    Calls Tryz.prog 71 #[.pointer (some ⟨b,0,none⟩),.int .u8 c] w (fun e w'=>e = .returned .nilIface∧Bld w0.heap.size b (L++[c]) w'∧w'.heap[gd]? = some (.cells hexA 110 (0,0))∧Upd [] w0 w'∧w.heap.size≤w'.heap.size):=by
 obtain ⟨p,A,cp,hb,hp,ho⟩:=h
 refine en 17 Tryz.func71 rfl<|sg<|Pl 1<|ng<|Pl 1<|L0<|Oc<|m2 (copyck_any hp hb) fun w10 B11 hu12=>ng<|?_
 refine Pl 4<|L0<|Olb B11 1<|Pl 1<|L0<|Olt (m:=1) (e:=5) #[.int .u8 c] fun g13 w14 hg15 B16 hu17=>?_
 have ow18:=litB hg15 (xs:=[c]) (by as_aux_lemma=>kernel_rfl) (rng_cons (by omega) rng_nil) (by (try simp only [List.length_cons,List.length_nil]); omega) B16
 have U19:=ut0 hu12 hu17
 have r20:=own_stay ho U19 (fun x hx=>(not_cons (fun e=>(not_type hb ho (by decide)) (e ▸ hx)) not0)) (fun _ _ h=>h)
 refine L0<|Oapp one_u8 (xs:=L) (ys:=([c])) (.int .u8 0) 1 r20 (ow18).rd (by (try simp only [List.length_append,List.length_cons,List.length_nil,putW_length]); omega) (le (le hu0.size hu12.size) hu17.size) fun A21 cp22 w23 ho24 hu25=>Pl 2<|?_
 have U26:=ut (Upd.mono (S':=(ob A++[])) hu17 all0) hu25 (all_app (fun x hx=>Or.inl (by simp [hx])) all0)
 have r27:=own_stay ho hu12 (fun x hx=>(not_cons (fun e=>(not_type hb ho (by decide)) (e ▸ hx)) not0)) (fun _ _ h=>h)
 have r28:=Upd.blk U26 (not_app (not_type B11 r27 (by decide)) not0) B11
 refine L0<|Ost r28 1 #[.pointer (some ⟨b,0,none⟩),.slice A21 ((L++[c]).length) cp22] fun w29 B30 hu31=>ng<|Pl 1<|nt<|rt<|rr (.nilIface)<|?_
 have r32:=own_stay ho24 hu31 (fun x hx=>(not_cons (fun e=>(not_type r28 ho24 (by decide)) (e ▸ hx)) not0)) (fun _ _ h=>h)
 have U33:=ut (Upd.mono (S':=(b :: (ob A++[]))) U19 (ac im all0)) hu25 (all_app (fun x hx=>Or.inl (by simp [hx])) all0)
 have U34:=u1 U33 hu31 im
 have r35:=Upd.blk U34 (not_cons hne (not_app (not_type hd ho (by decide)) not0)) hd
 have U36:=u1 hu0 hu12 (nr hg0)
 have U37:=ut0 U36 hu17
 have U38:=ut U37 hu25 (all_app (ob_new ho lr) all0)
 have U39:=u1 U38 hu31 (nr hg0)
 exact ⟨rfl,⟨_,A21,cp22,B30,.inr rfl,r32⟩,r35,U39,U34.size⟩
open Go.RowKit
theorem putH_byts {b:List Int} (h:Byts b) : Byts (putH b):=by
  induction b with
  | nil=>exact h
  | cons c b ih =>
    have hc:=h c (List.mem_cons_self ..)
    have h1:=hexD_rng (n:=c / 16) (by omega)
    have h2:=hexD_rng (n:=c % 16) (by omega)
    intro x hx
    rcases List.mem_cons.1 hx with rfl | hx
    · omega
    rcases List.mem_cons.1 hx with rfl | hx
    · omega
    · exact ih (fun y hy=>h y (List.mem_cons_of_mem _ hy)) x hx
set_option maxRecDepth 100000 in
set_option maxHeartbeats 4000000 in
theorem hput_any0 {m:Bool} {A:Option Addr} {cp:Nat} {b:List Int} {w:World} (hsl:RdB m w (.slice A b.length cp) b) (hl:b.length≤1024) :
    Calls Tryz.prog 57 #[.slice A b.length cp] w (PVal (.string (strOfNums (putH b))) w):=by
 have hb:=RdB.range hsl
 refine en 26 Tryz.func57 rfl<|sg<|Pl 1<|ng<|L0<|Oal #[.pointer none,.slice none 0 0] fun g10 w11 hg12 B13 hu14=>ng<|L0<|Oc<|m1 (@digits_any w11) fun w15 hu16=>?_
 refine L0<|Oal #[.int .u8 0,.int .u8 0,.int .u8 0,.int .u8 0,.int .u8 0,.int .u8 0,.int .u8 0,.int .u8 0,.int .u8 0,.int .u8 0,.int .u8 0,.int .u8 0,.int .u8 0,.int .u8 0,.int .u8 0,.int .u8 0] fun g17 w18 hg19 B20 hu21=>L0<|Osw (hz:=(by kernel_rfl)) (hv:=rfl) (h1:=(by kernel_rfl)) B20 (hexA) fun w22 B23 hu24=>nt<|sq<|sg<|Pl 3<|nt<|bk<|?_
 have U25:=ut0 hu16 hu21
 have U26:=u1 U25 hu24 (ni hu16.size hg19)
 have r27:=ub U26 B13
 have ne28:=nb (blk_lt B13) hu16.size hg19
 have U29:=ut0 hu14 hu16
 have U30:=ut0 U29 hu21
 have U31:=u1 U30 hu24 (ni U29.size hg19)
 refine glp (fun x=>[(2,.string ⟨#[]⟩),(3,.pointer (some ⟨g10,0,none⟩)),(4,.pointer (some ⟨g17,0,none⟩)),(8,.slice A b.length cp),(9,.int .i64 ((b.length:Nat) : Int)),(10,.int .i64 ((x:Nat) : Int))]) (fun (x:Nat) w'=>Upd [] w w'∧w22.heap.size≤w'.heap.size∧Bld w.heap.size g10 (putH (b.take x)) w'∧w'.heap[g17]? = some (.cells hexA 110 (0,0))∧(x≤b.length)) (fun x=>b.length - x) 0 ⟨U31,lr,(by simpa [putH] using Bld.new r27),B23,(by (try dsimp only); omega)⟩ ?_
 rintro k w32 ⟨hu33,hz37,f34,f35,p36⟩
 refine wkc [(2,.string ⟨#[]⟩),(3,.pointer (some ⟨g10,0,none⟩)),(4,.pointer (some ⟨g17,0,none⟩)),(8,.slice A b.length cp),(9,.int .i64 ((b.length:Nat) : Int)),(10,.int .i64 ((k:Nat) : Int))] ?_
 have f38:Bld w.heap.size g10 (putH (b.take k)) w32:=f34
 have f39:w32.heap[g17]? = some (.cells hexA 110 (0,0)):=f35
 have p40:k≤b.length:=p36
 refine sg<|Pl 1<|nt<|sq<|?_
 have U41:=ut0 (Upd.refl [] _) hu33
 refine cb ((decide (((k:Nat) : Int) < ((b.length:Nat) : Int)))) (fun q42=>?_) (fun q42=>?_)
 have q42p:=of_decide_eq_true q42
 refine skn<|sq<|bk<|sg<|?_
 have r43:=RdB.old hsl U41
 refine x23 (RdB.at_ r43 k (by omega)) fun b44 o45 hA46 hl47 hr48=>L0<|Oix b.length k hA46 (by omega)<|L0<|Old (p:=⟨b44,o45 + k,none⟩) (v:=.int .u8 (b.getD k 0)) hl47<|Pl 1<|ng<|Pl 1<|L0<|Oe (.int .u8 (Int.fdiv (b.getD k 0) (2 ^ 4))) (.int .u8 ((b.getD k 0) / 16)) (congrArg (Value.int .u8) (shr_lit _ _ _ (by decide)))<|L0<|Oia (b:=g17) (off:=0) 16 ((((b.getD k 0) / 16)).toNat) ((b.getD k 0) / 16) (by omega) (by omega)<|?_
 have hl49:=hexD_rng (n:=((b.getD k 0) / 16)) (by omega)
 refine L0<|Old (p:=⟨g17,0 + (((b.getD k 0) / 16)).toNat,none⟩) (v:=.int .u8 (hexD (((b.getD k 0) / 16)))) (blk_at f39 (by rw [Nat.zero_add,hexA_nat (by omega)]))<|L0<|Oc<|m4 (bld_write (c:=(hexD ((b.getD k 0) / 16))) U41 hg12 (Nat.le_trans (le hu14.size hu16.size) hg19) f38 f39 (Ne.symm ne28) (by omega) (by rw [putH_len,List.length_take]; omega)) fun w50 hb51 B52 hj53 hz54=>nt<|go<|Pl 1<|L0<|Oe (.int .u8 (Int.tmod (b.getD k 0) 16)) (.int .u8 ((b.getD k 0) % 16)) (congrArg (Value.int .u8) (Int.tmod_eq_emod_of_nonneg (by omega)))<|L0<|Oia (b:=g17) (off:=0) 16 ((((b.getD k 0) % 16)).toNat) ((b.getD k 0) % 16) (by omega) (by omega)<|?_
 have hl55:=hexD_rng (n:=((b.getD k 0) % 16)) (by omega)
 refine L0<|Old (p:=⟨g17,0 + (((b.getD k 0) % 16)).toNat,none⟩) (v:=.int .u8 (hexD (((b.getD k 0) % 16)))) (blk_at B52 (by rw [Nat.zero_add,hexA_nat (by omega)]))<|?_
 have U56:=ut0 (Upd.refl [] _) hj53
 refine L0<|Oc<|m4 (bld_write (c:=(hexD ((b.getD k 0) % 16))) U56 hg12 (Nat.le_trans (le hu14.size hu16.size) hg19) hb51 B52 (Ne.symm ne28) (by omega) (by rw [List.length_append,putH_len,List.length_take]; simp only [List.length_cons,List.length_nil]; omega)) fun w57 hb58 B59 hj60 hz61=>nl<|bn<|tn<|go<|L0<|Oi (((k:Nat) : Int) + 1)<|Pl 1<|nl<|?_
 have U62:=ut0 (Upd.refl [] _) hj60
 exact lpe (k + 1) ⟨U62,(le (le hz37 hz54) hz61),(by rw [putH_snoc _ _ (by omega)]; exact hb58),B59,(by (try dsimp only); omega)⟩ (by omega)
 have q42p:=of_decide_eq_false q42
 refine xt<|tx<|tx<|bx<|tn<|sg<|?_
 have hk63:k=b.length:=by omega
 have hbl:=f38
 rw [hk63,List.take_length] at hbl
 have hbr:Byts (putH b):=putH_byts hb
 refine L0<|Oc<|m1 (bld_string U41 hg12 hbl hbr) fun w64 hj65=>Pl 1<|nt<|rt<|rr (.string (strOfNums (putH b)))<|?_
 have U66:=ut0 (Upd.refl [] _) hj65
 exact ⟨rfl,U66⟩
theorem hput_any {m:Bool} {v:Value} {b:List Int} {w:World} (h:RdB m w v b) (hl:b.length≤1024) : Calls Tryz.prog 57 #[v] w (PVal (.string (strOfNums (putH b))) w):=by
  obtain ⟨A,cp,rfl,_,_⟩:=h.shape
  exact hput_any0 h hl
def PTakeH (xs:List Int) (w:World) (e:Ending) (w':World) : Prop:=match takeH xs with
  | some l=>∃ v,e = .returned (.tuple #[v,.int .i64 0])∧OwnB w.heap.size w' v l∧Upd [] w w'
  | none=>e = .returned (.tuple #[.slice none 0 0,.int .i64 11])∧Upd [] w w'
theorem htake_s {xs l:List Int} {w w':World} {e:Ending} (h:takeH xs=some l) (k:∃ v,e = .returned (.tuple #[v,.int .i64 0])∧OwnB w.heap.size w' v l∧Upd [] w w') : PTakeH xs w e w':=by
  unfold PTakeH
  rw [h]
  exact k
theorem htake_n {xs:List Int} {w w':World} {e:Ending} (h:takeH xs=none) (k:e = .returned (.tuple #[.slice none 0 0,.int .i64 11])∧Upd [] w w') : PTakeH xs w e w':=by
  unfold PTakeH
  rw [h]
  exact k
set_option maxRecDepth 100000 in
set_option maxHeartbeats 4000000 in
theorem htake_any {xs:List Int} {w:World} (hr:Byts xs) (hl:xs.length≤1048576) :
    Calls Tryz.prog 55 #[.string (strOfNums xs)] w (PTakeH xs w):=by
 refine en 42 Tryz.func55 rfl<|sg<|Pl 2<|nt<|sq<|sg<|Pl 1<|L0<|Oe (.int .i64 (((strOfNums xs).size:Nat) : Int)) (.int .i64 ((xs.length:Nat) : Int)) (by rw [strOfNums_size])<|L0<|Oe (.int .i64 (Int.tmod ((xs.length:Nat) : Int) 2)) (.int .i64 (((xs.length:Nat) : Int) % 2)) (congrArg (Value.int .i64) (Int.tmod_eq_emod_of_nonneg (by omega)))<|Pl 1<|nl<|?_
 refine tn<|cb (((((xs.length:Nat) : Int) % 2) != 0)) (fun q10=>?_) (fun q10=>?_)
 have q10p:=ne_of_bnei q10
 refine sg<|Pl 2<|nt<|rt<|tr<|rr (.tuple #[.slice none 0 0,.int .i64 11])<|?_
 have hs:takeH xs=none:=takeH_odd (by omega)
 exact htake_n hs ⟨rfl,(Upd.refl [] _)⟩
 have q10p:=eq_of_bnei q10
 refine skn<|sg<|Pl 1<|nt<|sq<|sg<|Pl 1<|nt<|bk<|?_
 refine glp (fun x=>[(0,.string (strOfNums xs)),(4,.slice x.2.2.1 x.2.1.length x.2.2.2),(5,.int .i64 ((2 * x.1:Nat) : Int))]) (fun (x:Nat × List Int × Option Addr × Nat) w'=>Upd [] w w'∧OwnB w.heap.size w' (.slice x.2.2.1 x.2.1.length x.2.2.2) x.2.1∧(2 * x.1≤xs.length)∧(takeH xs=(takeH (xs.drop (2 * x.1))).map fun l=>x.2.1++l)∧(x.2.1.length=x.1)) (fun x=>xs.length - 2 * x.1) (0,[],none,0) ⟨Upd.refl _ _,(OwnG.nil w.heap.size _ _ u8R _),(by (try dsimp only); omega),(by (try dsimp only); simp),(by (try dsimp only); rfl)⟩ ?_
 rintro ⟨k,L,B,cq⟩ w11 ⟨hu12,f13,p14,p15,p16⟩
 refine wkc [(0,.string (strOfNums xs)),(4,.slice B L.length cq),(5,.int .i64 ((2 * k:Nat) : Int))] ?_
 have f18:OwnB w.heap.size w11 (.slice B L.length cq) L:=f13
 have p19:2 * k≤xs.length:=p14
 have p20:takeH xs=(takeH (xs.drop (2 * k))).map fun l=>L++l:=p15
 have p21:L.length=k:=p16
 have hL:takeH xs=(takeH (xs.drop (2 * k))).map fun l=>L++l:=by assumption
 refine sq<|sg<|Pl 2<|L0<|Oe (.int .i64 (((strOfNums xs).size:Nat) : Int)) (.int .i64 ((xs.length:Nat) : Int)) (by rw [strOfNums_size])<|Pl 1<|nt<|cb ((decide (((2 * k:Nat) : Int) < ((xs.length:Nat) : Int)))) (fun q22=>?_) (fun q22=>?_)
 have q22p:=of_decide_eq_true q22
 refine skn<|sq<|bk<|sq<|Rg 11 (fun w'=>True) fun w29 hu30=>hld trivial fun hS31=>Rt 0 hS31<|Rt 1 hS31<|Rr 2 hS31 (.int .u8 (xs.getD (2 * k) 0)) (fun _ _=>run_idxs (xs:=xs) (k:=.i64) (i:=((2 * k:Nat) : Int)) (2 * k) rfl Tryz.underlying9 (by kernel_rfl) (by kernel_rfl) hr rfl (by omega))<|Rt 4 hS31<|Rt 5 hS31<|Rr 6 hS31 (.int .i64 (((2 * k:Nat) : Int) + 1)) (fun _ _=>run_eqo (.int .i64 (IntKind.i64.wrap (((2 * k:Nat) : Int) + 1))) (by kernel_rfl) (congrArg (Value.int .i64) (IntWalk.i64_in _ (by omega))))<|Rr 7 hS31 (.int .u8 (xs.getD ((((2 * k:Nat) : Int) + 1)).toNat 0)) (fun _ _=>run_idxs (xs:=xs) (k:=.i64) (i:=(((2 * k:Nat) : Int) + 1)) ((((2 * k:Nat) : Int) + 1)).toNat rfl Tryz.underlying9 (by kernel_rfl) (by kernel_rfl) hr (by omega) (by omega))<|?_
 have hd32:=digV_lt (xs.getD (2 * k) 0)
 refine R0 3 rfl<|Oc<|m1 (digit_any (c:=(xs.getD (2 * k) 0)) (w:=_) (getD_rng (by omega) hr _)) fun w33 hu34=>hld trivial fun hS35=>?_
 have hd36:=digV_lt (xs.getD ((((2 * k:Nat) : Int) + 1)).toNat 0)
 refine R0 8 rfl<|Oc<|m1 (digit_any (c:=(xs.getD ((((2 * k:Nat) : Int) + 1)).toNat 0)) (w:=_) (getD_rng (by omega) hr _)) fun w37 hu38=>hld trivial fun hS39=>Rt 9 hS39<|Rt 10 hS39<|re<|tn<|sq<|sg<|Pl 3<|cu 3 [29] 32 (((decide ((digV (xs.getD (2 * k) 0)) < 0)) || (decide ((digV (xs.getD ((((2 * k:Nat) : Int) + 1)).toNat 0)) < 0)))) (fun K K41=>?_) ?_
 refine bl 29 ((decide ((digV (xs.getD (2 * k) 0)) < 0))) (fun q40=>?_) (fun q40=>?_)
 have q40p:=of_decide_eq_true q40
 exact Pl 3<|ce K41 true (by rw [q40]; rfl)
 have q40p:=of_decide_eq_false q40
 exact Pl 3<|ce K41 (decide ((digV (xs.getD ((((2 * k:Nat) : Int) + 1)).toNat 0)) < 0)) (by rw [q40]; rfl)
 refine nt<|?_
 have U42:=ut0 hu12 hu30
 have U43:=ut0 U42 hu34
 have U44:=ut0 U43 hu38
 refine cb (((decide ((digV (xs.getD (2 * k) 0)) < 0)) || (decide ((digV (xs.getD ((((2 * k:Nat) : Int) + 1)).toNat 0)) < 0)))) (fun q45=>?_) (fun q45=>?_)
 refine sg<|Pl 2<|nt<|rt<|tr<|br<|tr<|tr<|br<|tr<|rr (.tuple #[.slice none 0 0,.int .i64 11])<|?_
 have hs:takeH xs=none:=takeH_no (k:=k) hL (by omega) (by have q:=q45; simp only [Bool.or_eq_true,decide_eq_true_eq] at q; rw [show 2 * k + 1=(((2 * k:Nat) : Int) + 1).toNat from by omega]; exact q)
 exact htake_n hs ⟨rfl,U44⟩
 have q45a:=(or_f q45).1
 have q45b:=(or_f q45).2
 have q45ap:=of_decide_eq_false q45a
 have q45bp:=of_decide_eq_false q45b
 refine skn<|go<|Pl 2<|L0<|Oi (16 * (digV (xs.getD (2 * k) 0)))<|Pl 1<|L0<|Oi ((16 * (digV (xs.getD (2 * k) 0))) + (digV (xs.getD ((((2 * k:Nat) : Int) + 1)).toNat 0)))<|Pl 1<|L0<|Olt (m:=1) (e:=5) #[.int .u8 (((16 * (digV (xs.getD (2 * k) 0))) + (digV (xs.getD ((((2 * k:Nat) : Int) + 1)).toNat 0))) % 256)] fun g46 w47 hg48 B49 hu50=>?_
 have ow51:=litB hg48 (xs:=[(((16 * (digV (xs.getD (2 * k) 0))) + (digV (xs.getD ((((2 * k:Nat) : Int) + 1)).toNat 0))) % 256)]) (by as_aux_lemma=>kernel_rfl) (rng_cons (by omega) rng_nil) (by (try simp only [List.length_cons,List.length_nil]); omega) B49
 have U52:=ut0 hu30 hu34
 have U53:=ut0 U52 hu38
 have U54:=ut0 U53 hu50
 have r55:=own_stay f18 U54 (fun x hx=>not0) (fun _ _ h=>h)
 refine L0<|Oapp one_u8 (xs:=L) (ys:=([(((16 * (digV (xs.getD (2 * k) 0))) + (digV (xs.getD ((((2 * k:Nat) : Int) + 1)).toNat 0))) % 256)])) (.int .u8 0) 1 r55 (ow51).rd (by (try simp only [List.length_append,List.length_cons,List.length_nil,putW_length]); omega) (le (le (le (le hu12.size hu30.size) hu34.size) hu38.size) hu50.size) fun A56 cp57 w58 ho59 hu60=>Pl 1<|nl<|bn<|tn<|go<|Pl 1<|L0<|Oi (((2 * k:Nat) : Int) + 2)<|Pl 1<|nl<|?_
 have U61:=ut0 U44 hu50
 have U62:=ut U61 hu60 (all_app (ob_new f18 lr) all0)
 have hq63:=takeH_next (k:=k) hL (by omega) (by omega) (by rw [show 2 * k + 1=(((2 * k:Nat) : Int) + 1).toNat from by omega]; omega)
 rw [show 2 * k + 1=(((2 * k:Nat) : Int) + 1).toNat from by omega] at hq63
 exact lpe ((k + 1),(L++[(((16 * (digV (xs.getD (2 * k) 0))) + (digV (xs.getD ((((2 * k:Nat) : Int) + 1)).toNat 0))) % 256)]),A56,cp57) ⟨U62,ho59,(by (try dsimp only); omega),hq63,(by (try dsimp only); simp only [List.length_append,List.length_cons,List.length_nil]; omega)⟩ (by omega)
 have q22p:=of_decide_eq_false q22
 refine xt<|tx<|tx<|bx<|tn<|sg<|Pl 3<|nt<|rt<|rr (.tuple #[.slice B L.length cq,.int .i64 0])<|?_
 have hs:takeH xs=some L:=takeH_end hL (by omega)
 exact htake_s hs ⟨_,rfl,f18,hu12⟩
open Go.RowKit
def sufB (xs:List Int) : Bool:=decide (2≤((xs.length:Nat) : Int)) && decide (xs.drop (((xs.length:Nat) : Int) - 2).toNat=[13,10])
def digS (b:List Int) : Option (List Int):=if b.getD 0 0=58∧sufB (b.drop 1)=true then some ((b.drop 1).take (b.length - 3)) else none
theorem sufB_len {xs:List Int} (h:sufB xs=true) : 2≤xs.length:=by
  unfold sufB at h
  simp only [Bool.and_eq_true,decide_eq_true_eq] at h
  omega
theorem digS_some {b s:List Int} (h:digS b=some s) : b.getD 0 0=58∧sufB (b.drop 1)=true∧s=(b.drop 1).take (b.length - 3)∧3≤b.length:=by
  unfold digS at h
  split at h
  · rename_i hc
    injection h with h
    have:=sufB_len hc.2
    rw [List.length_drop] at this
    exact ⟨hc.1,hc.2,h.symm,by omega⟩
  · cases h
theorem digS_len {b s:List Int} (h:digS b=some s) : s.length=b.length - 3:=by
  obtain ⟨_,_,rfl,h3⟩:=digS_some h
  rw [List.length_take,List.length_drop]
  omega
def PDig (xs:List Int) (w:World) (e:Ending) (w':World) : Prop:=match digS xs with
  | some l=>e = .returned (.tuple #[.string (strOfNums l),.bool true])∧Upd [] w w'
  | none=>∃ s,e = .returned (.tuple #[.string s,.bool false])∧Upd [] w w'
set_option maxRecDepth 100000 in
set_option maxHeartbeats 4000000 in
theorem hassuf_any {xs:List Int} {w:World} (hr:Byts xs) (hl:xs.length≤1048576) : Calls Tryz.prog 128 #[.string (strOfNums xs),.string ⟨#[13,10]⟩] w (PVal (.bool (sufB xs)) w):=by
 refine en 21 Tryz.func128 rfl<|sg<|Pl 1<|ng<|Pl 1<|L0<|Oe (.int .i64 (((strOfNums xs).size:Nat) : Int)) (.int .i64 ((xs.length:Nat) : Int)) (by rw [strOfNums_size])<|Pl 4<|bl 10 ((decide (2≤((xs.length:Nat) : Int)))) (fun q10=>?_) (fun q10=>?_)
 have q10p:=of_decide_eq_true q10
 refine Pl 2<|L1<|Oe (.int .i64 (((strOfNums xs).size:Nat) : Int)) (.int .i64 ((xs.length:Nat) : Int)) (by rw [strOfNums_size])<|Pl 2<|L1<|Oi (((xs.length:Nat) : Int) - 2)<|?_
 have hz11:Byts (xs.drop ((((xs.length:Nat) : Int) - 2)).toNat):=byts_drop hr ((((xs.length:Nat) : Int) - 2)).toNat
 refine L1<|Or_ (.string (strOfNums (xs.drop ((((xs.length:Nat) : Int) - 2)).toNat))) (run_cutsF (xs:=xs) (k:=.i64) (i:=(((xs.length:Nat) : Int) - 2)) ((((xs.length:Nat) : Int) - 2)).toNat rfl Tryz.underlying9 (by kernel_rfl) (by kernel_rfl) (by omega) (by omega))<|Pl 1<|L1<|Or_ (.bool (decide ((xs.drop ((((xs.length:Nat) : Int) - 2)).toNat)=[13,10]))) (run_strq (a:=(strOfNums (xs.drop ((((xs.length:Nat) : Int) - 2)).toNat))) (b:=⟨#[13,10]⟩) rfl (by kernel_rfl) (by kernel_rfl) (str_eqx (ys:=[13,10]) hz11 (by decide)))<|Pl 2<|nt<|rt<|rr (.bool (decide ((xs.drop ((((xs.length:Nat) : Int) - 2)).toNat)=[13,10])))<|?_
 have hs:sufB xs=(decide ((xs.drop ((((xs.length:Nat) : Int) - 2)).toNat)=[13,10])):=by unfold sufB; (try simp only [q10,bs,if_true,if_false,decide_true,decide_false]); all_goals rfl
 rw [hs]
 exact ⟨rfl,(Upd.refl [] _)⟩
 have q10p:=of_decide_eq_false q10
 refine Pl 11<|nt<|rt<|rr (.bool false)<|?_
 have hs:sufB xs=false:=by unfold sufB; (try simp only [q10,bs,if_true,if_false,decide_true,decide_false]); all_goals rfl
 rw [hs]
 exact ⟨rfl,(Upd.refl [] _)⟩
set_option maxRecDepth 100000 in
set_option maxHeartbeats 4000000 in
theorem cutsuf_t0 {xs:List Int} {w:World} (hr:Byts xs) (hl:xs.length≤1048576) (hq:sufB xs=true) : Calls Tryz.prog 93 #[.string (strOfNums xs),.string ⟨#[13,10]⟩] w (PVal (.tuple #[.string (strOfNums (xs.take (((xs.length:Nat) : Int) - 2).toNat)),.bool true]) w):=by
 have hq2:=sufB_len hq
 refine en 18 Tryz.func93 rfl<|sg<|Pl 2<|nt<|sq<|sg<|Pl 2<|L0<|Oc<|m1 (hassuf_any (xs:=xs) (w:=_) hr (by omega)) fun w10 hu11=>Pl 1<|nt<|?_
 have k12:(!(sufB xs))=false:=by simp only [hq,Bool.not_true,Bool.not_false]
 refine cf k12<|skn<|sg<|Pl 2<|L0<|Oe (.int .i64 (((strOfNums xs).size:Nat) : Int)) (.int .i64 ((xs.length:Nat) : Int)) (by rw [strOfNums_size])<|Pl 2<|L0<|Oi (((xs.length:Nat) : Int) - 2)<|?_
 have hz13:Byts (xs.take ((((xs.length:Nat) : Int) - 2)).toNat):=byts_take hr ((((xs.length:Nat) : Int) - 2)).toNat
 refine L0<|Or_ (.string (strOfNums (xs.take ((((xs.length:Nat) : Int) - 2)).toNat))) (run_cutsT (xs:=xs) (k:=.i64) (i:=(((xs.length:Nat) : Int) - 2)) ((((xs.length:Nat) : Int) - 2)).toNat rfl Tryz.underlying9 (by kernel_rfl) (by kernel_rfl) (by omega) (by omega))<|Pl 2<|nt<|rt<|rr (.tuple #[.string (strOfNums (xs.take ((((xs.length:Nat) : Int) - 2)).toNat)),.bool true])<|?_
 exact ⟨rfl,hu11⟩
set_option maxRecDepth 100000 in
set_option maxHeartbeats 4000000 in
theorem cutsuf_t {xs:List Int} {w:World} (hr:Byts xs) (hl:xs.length≤1048576) (hq:sufB xs=true) : Calls Tryz.prog 68 #[.string (strOfNums xs),.string ⟨#[13,10]⟩] w (PVal (.tuple #[.string (strOfNums (xs.take (((xs.length:Nat) : Int) - 2).toNat)),.bool true]) w):=by
 refine en 11 Tryz.func68 rfl<|sg<|Pl 2<|ng<|Pl 2<|L0<|Oc<|m1 (cutsuf_t0 (xs:=xs) (w:=_) hr hl hq) fun w10 hu11=>Pl 4<|nt<|rt<|?_
 refine rr (.tuple #[.string (strOfNums (xs.take (((xs.length:Nat) : Int) - 2).toNat)),.bool true])<|?_
 exact ⟨rfl,hu11⟩
set_option maxRecDepth 100000 in
set_option maxHeartbeats 4000000 in
theorem cutsuf_f0 {xs:List Int} {w:World} (hr:Byts xs) (hl:xs.length≤1048576) (hq:sufB xs=false) : Calls Tryz.prog 93 #[.string (strOfNums xs),.string ⟨#[13,10]⟩] w (PVal (.tuple #[.string (strOfNums xs),.bool false]) w):=by
 refine en 18 Tryz.func93 rfl<|sg<|Pl 2<|nt<|sq<|sg<|Pl 2<|L0<|Oc<|m1 (hassuf_any (xs:=xs) (w:=_) hr (by omega)) fun w10 hu11=>Pl 1<|nt<|?_
 have k12:(!(sufB xs))=true:=by simp only [hq,Bool.not_true,Bool.not_false]
 refine ct k12<|sg<|Pl 3<|nt<|rt<|tr<|rr (.tuple #[.string (strOfNums xs),.bool false])<|?_
 exact ⟨rfl,hu11⟩
set_option maxRecDepth 100000 in
set_option maxHeartbeats 4000000 in
theorem cutsuf_f {xs:List Int} {w:World} (hr:Byts xs) (hl:xs.length≤1048576) (hq:sufB xs=false) : Calls Tryz.prog 68 #[.string (strOfNums xs),.string ⟨#[13,10]⟩] w (PVal (.tuple #[.string (strOfNums xs),.bool false]) w):=by
 refine en 11 Tryz.func68 rfl<|sg<|Pl 2<|ng<|Pl 2<|L0<|Oc<|m1 (cutsuf_f0 (xs:=xs) (w:=_) hr hl hq) fun w10 hu11=>Pl 4<|nt<|rt<|?_
 refine rr (.tuple #[.string (strOfNums xs),.bool false])<|?_
 exact ⟨rfl,hu11⟩
theorem digS_t {b:List Int} (h:b.getD 0 0=58) (k:sufB (b.drop 1)=true) : digS b=some ((b.drop 1).take (b.length - 3)):=if_pos ⟨h,k⟩
theorem digS_f1 {b:List Int} (h:¬ b.getD 0 0=58) : digS b=none:=if_neg fun k=>h k.1
theorem digS_f2 {b:List Int} (k:sufB (b.drop 1)=false) : digS b=none:=if_neg fun h=>by rw [k] at h; cases h.2
theorem pdig_s {b l:List Int} {w w':World} {e:Ending} (h:digS b=some l) (k:e = .returned (.tuple #[.string (strOfNums l),.bool true])∧Upd [] w w') : PDig b w e w':=by
  unfold PDig
  rw [h]
  exact k
theorem pdig_n {b:List Int} {w w':World} {e:Ending} (h:digS b=none) (k:∃ s,e = .returned (.tuple #[.string s,.bool false])∧Upd [] w w') : PDig b w e w':=by
  unfold PDig
  rw [h]
  exact k
set_option maxRecDepth 100000 in
set_option maxHeartbeats 4000000 in
theorem ascdig_any {b:List Int} {w:World} (hr:Byts b) (hl:b.length≤1048576) (h0:0 < b.length) : Calls Tryz.prog 54 #[.string (strOfNums b)] w (PDig b w):=by
 refine en 18 Tryz.func54 rfl<|sg<|Pl 2<|nt<|sq<|sg<|Pl 1<|L0<|Orng (sv:=strOfNums b) Tryz.underlying9 fun g10 w11 hg12 B13 hu14=>nt<|bk<|?_
 refine glp (fun x=>[(0,.string (strOfNums b)),(7,.pointer (some ⟨g10,0,none⟩))]) (fun (x:Unit) w'=>Upd [] w11 w'∧(0≤0)) (fun x=>0) () ⟨Upd.refl _ _,(by (try dsimp only); omega)⟩ ?_
 rintro z w15 ⟨hu16,p17⟩
 refine wkc [(0,.string (strOfNums b)),(7,.pointer (some ⟨g10,0,none⟩))] ?_
 have p19:0≤0:=p17
 refine sg<|?_
 have r24:=ub hu16 B13
 refine L0<|Onx hr (by omega) r24 fun c20 w21 hc22 hu23=>Pl 1<|nt<|sq<|c1<|skn<|bk<|sg<|Pl 2<|nt<|?_
 refine sq<|sg<|Pl 2<|nt<|?_
 have U25:=ut0 hu14 hu16
 have U26:=u1 U25 hu23 (nr hg12)
 refine cb ((c20 != 58)) (fun q27=>?_) (fun q27=>?_)
 have q27p:=ne_of_bnei q27
 refine sg<|Pl 2<|nt<|rt<|tr<|br<|tr<|br<|tr<|rr (.tuple #[.string ⟨#[]⟩,.bool false])<|?_
 exact pdig_n (digS_f1 fun e=>q27p (hc22.2 e)) ⟨_,rfl,U26⟩
 have q27p:=eq_of_bnei q27
 refine skn<|xt<|by_<|tx<|bx<|tn<|sg<|Pl 1<|?_
 have hz28:Byts (b.drop 1):=byts_drop hr 1
 refine L0<|Or_ (.string (strOfNums (b.drop 1))) (run_cutsF (xs:=b) (k:=.i64) (i:=1) 1 rfl Tryz.underlying9 (by kernel_rfl) (by kernel_rfl) rfl (by omega))<|?_
 rcases bool_dich (sufB (b.drop 1)) with hq | hq
 refine L0<|Oc<|m1 (cutsuf_t (xs:=(b.drop 1)) (w:=_) hz28 (by rw [List.length_drop]; omega) hq) fun w29 hu30=>Pl 4<|nt<|rt<|rr (.tuple #[.string (strOfNums ((b.drop 1).take ((((b.drop 1).length:Nat) : Int) - 2).toNat)),.bool true])<|?_
 have U31:=ut0 U26 hu30
 exact pdig_s (l:=(b.drop 1).take (b.length - 3)) (digS_t (hc22.1 q27p) hq) ⟨by rw [show b.length - 3=((((b.drop 1).length:Nat) : Int) - 2).toNat from by rw [List.length_drop]; omega],U31⟩
 refine L0<|Oc<|m1 (cutsuf_f (xs:=(b.drop 1)) (w:=_) hz28 (by rw [List.length_drop]; omega) hq) fun w32 hu33=>Pl 4<|nt<|rt<|rr (.tuple #[.string (strOfNums (b.drop 1)),.bool false])<|?_
 have U34:=ut0 U26 hu33
 exact pdig_n (digS_f2 hq) ⟨_,rfl,U34⟩
open Go.RowKit
theorem digS_byts {b s:List Int} (hr:Byts b) (h:digS b=some s) : Byts s:=by
  obtain ⟨_,_,rfl,_⟩:=digS_some h
  exact byts_take (byts_drop hr 1) _
theorem pdig_s2 {b l:List Int} {w:World} (h:digS b=some l) (e:Ending) (w':World) (k:PDig b w e w') : e = .returned (.tuple #[.string (strOfNums l),.bool true])∧Upd [] w w':=by
  unfold PDig at k
  rw [h] at k
  exact k
theorem pdig_n2 {b:List Int} {w:World} (h:digS b=none) (e:Ending) (w':World) (k:PDig b w e w') : ∃ s,e = .returned (.tuple #[.string s,.bool false])∧Upd [] w w':=by
  unfold PDig at k
  rw [h] at k
  exact k
theorem ptake_s2 {b l:List Int} {w:World} (h:takeH b=some l) (e:Ending) (w':World) (k:PTakeH b w e w') : ∃ v,e = .returned (.tuple #[v,.int .i64 0])∧OwnB w.heap.size w' v l∧Upd [] w w':=by
  unfold PTakeH at k
  rw [h] at k
  exact k
theorem ptake_n2 {b:List Int} {w:World} (h:takeH b=none) (e:Ending) (w':World) (k:PTakeH b w e w') : e = .returned (.tuple #[.slice none 0 0,.int .i64 11])∧Upd [] w w':=by
  unfold PTakeH at k
  rw [h] at k
  exact k
def ascBody (x:List Int) : List Int:=(x.take (x.length - 1)).drop 1
theorem ascBody_eq (x:List Int) : ascBody x=(x.take (((x.length:Nat) : Int) - 1).toNat).drop 1:=by
  unfold ascBody
  rw [show (((x.length:Nat) : Int) - 1).toNat=x.length - 1 from by omega]
def ascP (dir:Int) (b:List Int) : Frm × Int :=
  if dir != 0 && dir != 1 then (Frm.zero,1)
  else if decide ((b.length:Int) < 9) then (Frm.zero,2)
  else if decide (513 < (b.length:Int)) then (Frm.zero,3)
  else match digS b with
    | none=>(Frm.zero,12)
    | some s=>match takeH s with
      | none=>(Frm.zero,11)
      | some x=>if !(lrcIs x) then (Frm.zero,10) else frmOf (x.getD 0 0) 0 (pduP dir (ascBody x))
set_option maxRecDepth 100000 in
set_option maxHeartbeats 4000000 in
theorem asc_parse0 {m:Bool} {A:Option Addr} {cp:Nat} {b:List Int} {w:World} {dir:Int} (hsl0:RdB m w (.slice A b.length cp) b) (hb:b.length≤1048576) :
    Calls Tryz.prog 42 #[.int .i64 dir,.slice A b.length cp] w (PFrm (ascP dir b) w):=by
 have hln:(b.length:Int)≤1048576:=by omega
 have hr:Byts b:=RdB.range hsl0
 refine en 71 Tryz.func42 rfl<|sg<|L0<|Oal #[.int .u8 0,.int .u16 0,.int .u8 0,.int .u8 0,.int .u16 0,.int .u16 0,.int .u16 0,.int .u16 0,.int .u16 0,.int .u16 0,.int .u16 0,.int .u16 0,.int .u16 0,.int .u16 0,.slice none 0 0,.slice none 0 0,.slice none 0 0,.slice none 0 0,.int .u8 0,.int .u8 0,.int .u8 0,.int .u8 0,.int .u8 0,.slice none 0 0] fun g10 w11 hg12 B13 hu14=>Pl 1<|nt<|sq<|bk<|sg<|Pl 3<|cu 3 [14] 17 (((dir != 0) && (dir != 1))) (fun K K16=>?_) ?_
 refine bl 14 ((dir != 0)) (fun q15=>?_) (fun q15=>?_)
 have q15p:=ne_of_bnei q15
 exact Pl 3<|ce K16 (dir != 1) (by rw [q15]; rfl)
 have q15p:=eq_of_bnei q15
 exact Pl 3<|ce K16 false (by rw [q15]; rfl)
 refine Pl 1<|nt<|cb (((dir != 0) && (dir != 1))) (fun q17=>?_) (fun q17=>?_)
 have q17a:=(and_t q17).1
 have q17b:=(and_t q17).2
 have q17ap:=ne_of_bnei q17a
 have q17bp:=ne_of_bnei q17b
 refine sg<|Pl 1<|L0<|Osw B13 #[.int .u8 0,.int .u16 0,.int .u8 0,.int .u8 0,.int .u16 0,.int .u16 0,.int .u16 0,.int .u16 0,.int .u16 0,.int .u16 0,.int .u16 0,.int .u16 0,.int .u16 0,.int .u16 0,.slice none 0 0,.slice none 0 0,.slice none 0 0,.slice none 0 0,.int .u8 0,.int .u8 0,.int .u8 0,.int .u8 0,.int .u8 0,.slice none 0 0] fun w18 B19 hu20=>Pl 1<|nt<|rt<|br<|tr<|rct B19 (.int .i64 1)<|?_
 have hs:ascP dir b=(Frm.zero,1):=by
   unfold ascP
   (try simp only [q17,q17a,q17b,bs,if_true,if_false,decide_true,decide_false,frmOf,reduceIte])
   all_goals rfl
 refine pf_eq hs ?_
 have U21:=u1 hu14 hu20 (nr hg12)
 exact bad_frm U21
 refine sg<|Pl 4<|nt<|cb ((decide (((b.length:Nat) : Int) < 9))) (fun q22=>?_) (fun q22=>?_)
 have q22p:=of_decide_eq_true q22
 refine sg<|Pl 1<|L0<|Osw B13 #[.int .u8 0,.int .u16 0,.int .u8 0,.int .u8 0,.int .u16 0,.int .u16 0,.int .u16 0,.int .u16 0,.int .u16 0,.int .u16 0,.int .u16 0,.int .u16 0,.int .u16 0,.int .u16 0,.slice none 0 0,.slice none 0 0,.slice none 0 0,.slice none 0 0,.int .u8 0,.int .u8 0,.int .u8 0,.int .u8 0,.int .u8 0,.slice none 0 0] fun w23 B24 hu25=>Pl 1<|nt<|rt<|br<|tr<|rct B24 (.int .i64 2)<|?_
 have hs:ascP dir b=(Frm.zero,2):=by
   unfold ascP
   (try simp only [q17,q22,bs,if_true,if_false,decide_true,decide_false,frmOf,reduceIte])
   all_goals rfl
 refine pf_eq hs ?_
 have U26:=u1 hu14 hu25 (nr hg12)
 exact bad_frm U26
 have q22p:=of_decide_eq_false q22
 refine sg<|Pl 4<|nt<|cb ((decide (513 < ((b.length:Nat) : Int)))) (fun q27=>?_) (fun q27=>?_)
 have q27p:=of_decide_eq_true q27
 refine sg<|Pl 1<|L0<|Osw B13 #[.int .u8 0,.int .u16 0,.int .u8 0,.int .u8 0,.int .u16 0,.int .u16 0,.int .u16 0,.int .u16 0,.int .u16 0,.int .u16 0,.int .u16 0,.int .u16 0,.int .u16 0,.int .u16 0,.slice none 0 0,.slice none 0 0,.slice none 0 0,.slice none 0 0,.int .u8 0,.int .u8 0,.int .u8 0,.int .u8 0,.int .u8 0,.slice none 0 0] fun w28 B29 hu30=>Pl 1<|nt<|rt<|br<|tr<|rct B29 (.int .i64 3)<|?_
 have hs:ascP dir b=(Frm.zero,3):=by
   unfold ascP
   (try simp only [q17,q22,q27,bs,if_true,if_false,decide_true,decide_false,frmOf,reduceIte])
   all_goals rfl
 refine pf_eq hs ?_
 have U31:=u1 hu14 hu30 (nr hg12)
 exact bad_frm U31
 have q27p:=of_decide_eq_false q27
 refine sk<|bn<|tn<|sg<|Pl 1<|?_
 have r32:=RdB.old hsl0 hu14
 refine L0<|Or_ (.string (strOfNums b)) (run_convB (A:=A) (n:=b.length) (c:=cp) rfl (by kernel_rfl) Tryz.underlying29 Tryz.underlying5 Tryz.underlying9 r32)<|?_
 rcases hds:digS b with _ | sd
 have hd33:=ascdig_any (w:=w11) (RdB.range r32) hb (by omega)
 have hd33x:=hd33.mono (pdig_n2 hds)
 refine L0<|Oc (args:=#[.string (strOfNums b)])<|e1 hd33x fun s36 w34 hu35=>Pl 5<|nt<|sq<|sg<|Pl 2<|nt<|c1<|sg<|Pl 1<|?_
 have r37:=ub hu35 B13
 refine L0<|Osw r37 #[.int .u8 0,.int .u16 0,.int .u8 0,.int .u8 0,.int .u16 0,.int .u16 0,.int .u16 0,.int .u16 0,.int .u16 0,.int .u16 0,.int .u16 0,.int .u16 0,.int .u16 0,.int .u16 0,.slice none 0 0,.slice none 0 0,.slice none 0 0,.slice none 0 0,.int .u8 0,.int .u8 0,.int .u8 0,.int .u8 0,.int .u8 0,.slice none 0 0] fun w38 B39 hu40=>Pl 1<|nt<|rt<|tr<|rct B39 (.int .i64 12)<|?_
 have hs:ascP dir b=(Frm.zero,12):=by
   unfold ascP
   (try simp only [q17,q22,q27,bs,if_true,if_false,decide_true,decide_false,frmOf,hds,reduceIte])
   all_goals rfl
 refine pf_eq hs ?_
 have U41:=ut0 hu14 hu35
 have U42:=u1 U41 hu40 (nr hg12)
 exact bad_frm U42
 have hsl:=digS_len hds
 have hsd:Byts sd:=digS_byts hr hds
 have hd43:=ascdig_any (w:=w11) (RdB.range r32) hb (by omega)
 have hd43x:=hd43.mono (pdig_s2 hds)
 refine L0<|Oc (args:=#[.string (strOfNums b)])<|m1 hd43x fun w44 hu45=>Pl 5<|nt<|sq<|sg<|Pl 2<|nt<|c0<|skn<|sq<|?_
 refine go<|Pl 1<|?_
 have U46:=ut0 hu14 hu45
 rcases hth:takeH sd with _ | x
 have hd47:=(htake_any (w:=w44) hsd (by omega)).mono (ptake_n2 hth)
 refine L0<|Oc<|m1 hd47 fun w48 hu49=>Pl 5<|nt<|sq<|sg<|Pl 2<|nt<|c1<|sg<|Pl 2<|?_
 have U50:=ut0 hu45 hu49
 have r51:=ub U50 B13
 refine L0<|Osw r51 #[.int .u8 0,.int .u16 0,.int .u8 0,.int .u8 0,.int .u16 0,.int .u16 0,.int .u16 0,.int .u16 0,.int .u16 0,.int .u16 0,.int .u16 0,.int .u16 0,.int .u16 0,.int .u16 0,.slice none 0 0,.slice none 0 0,.slice none 0 0,.slice none 0 0,.int .u8 0,.int .u8 0,.int .u8 0,.int .u8 0,.int .u8 0,.slice none 0 0] fun w52 B53 hu54=>Pl 1<|nt<|rt<|tr<|rct B53 (.int .i64 11)<|?_
 have hs:ascP dir b=(Frm.zero,11):=by
   unfold ascP
   (try simp only [q17,q22,q27,bs,if_true,if_false,decide_true,decide_false,frmOf,hds,hth,reduceIte])
   all_goals rfl
 refine pf_eq hs ?_
 have U55:=ut0 U46 hu49
 have U56:=u1 U55 hu54 (nr hg12)
 exact bad_frm U56
 have hxl:=takeH_len hth
 have hd57:=(htake_any (w:=w44) hsd (by omega)).mono (ptake_s2 hth)
 refine L0<|Oc<|so2 hd57 fun A62 cp63 w58 rd66 hl64 hm65 hu59=>Pl 5<|nt<|sq<|sg<|Pl 2<|nt<|c0<|skn<|sq<|?_
 refine sg<|Pl 1<|L0<|Oc (args:=#[.slice A62 x.length cp63])<|m1 (lrcis_any (rd66).rd) fun w67 hu68=>Pl 1<|nt<|?_
 have U69:=ut0 U46 hu59
 have U70:=ut0 U69 hu68
 refine cb ((!(lrcIs x))) (fun q71=>?_) (fun q71=>?_)
 have q71n:(lrcIs x)=false:=by simpa using q71
 refine sg<|Pl 1<|?_
 have U72:=ut0 hu45 hu59
 have U73:=ut0 U72 hu68
 have r74:=ub U73 B13
 refine L0<|Osw r74 #[.int .u8 0,.int .u16 0,.int .u8 0,.int .u8 0,.int .u16 0,.int .u16 0,.int .u16 0,.int .u16 0,.int .u16 0,.int .u16 0,.int .u16 0,.int .u16 0,.int .u16 0,.int .u16 0,.slice none 0 0,.slice none 0 0,.slice none 0 0,.slice none 0 0,.int .u8 0,.int .u8 0,.int .u8 0,.int .u8 0,.int .u8 0,.slice none 0 0] fun w75 B76 hu77=>Pl 1<|nt<|rt<|tr<|rct B76 (.int .i64 10)<|?_
 have hs:ascP dir b=(Frm.zero,10):=by
   unfold ascP
   (try simp only [q17,q22,q27,q71,q71n,bs,if_true,if_false,decide_true,decide_false,frmOf,hds,hth,reduceIte])
   all_goals rfl
 refine pf_eq hs ?_
 have U78:=u1 U70 hu77 (nr hg12)
 exact bad_frm U78
 have q71n:(lrcIs x)=true:=by simpa using q71
 refine skn<|sg<|Pl 4<|L0<|Oi (((x.length:Nat) : Int) - 1)<|x12 (cut_lhI (P:=Tryz.prog) 29 5 1 Tryz.underlying29 rfl rfl A62 x.length cp63 (lo:=1) (up:=(((x.length:Nat) : Int) - 1)) 1 (((((x.length:Nat) : Int) - 1)).toNat) (by omega) (by omega) (by omega) (by omega) (by omega)) fun A79 hrun80 hrd81=>L0<|Or_ (.slice A79 ((((((x.length:Nat) : Int) - 1)).toNat) - 1) (cp63 - 1)) (run_cutlh (kl:=.i64) (kh:=.i64) (lo:=1) (hi:=(((x.length:Nat) : Int) - 1)) (A:=A62) (n:=x.length) (c:=cp63) rfl Tryz.underlying29 (by kernel_rfl) (by kernel_rfl) (by kernel_rfl) (hrun80 _ _ _))<|?_
 obtain ⟨M82,E83,hX84⟩ : ∃ M E,pduP dir ((x.take (((((x.length:Nat) : Int) - 1)).toNat)).drop 1)=(M,E):=⟨_,_,rfl⟩
 have r103:=own_stay rd66 hu68 (fun x hx=>not0) (fun _ _ h=>h)
 have hp85:=pdu_parse (dir:=dir) (w:=w67) (hrd81 _ _ _ _ _ (r103).rd) (by rw [List.length_drop,List.length_take]; omega)
 rw [hX84] at hp85
 refine L0<|Oc<|e2 hp85 fun cs87 w86 hM88 hu90=>?_
 have hM89:=hM88
 obtain ⟨v93,v94,v95,v96,v97,h91,h98,h99,h100,h101,h102,hR92⟩:=hM89
 obtain rfl:cs87=(msgCells M82 v93 v94 v95 v96 v97).toArray:=by apply Array.toList_inj.1; simpa using h91
 obtain ⟨A104,k105,rfl,_,_⟩:=h98.shape
 obtain ⟨A106,k107,rfl,_,_⟩:=h99.shape
 obtain ⟨A108,k109,rfl,_,_⟩:=h100.shape
 obtain ⟨A110,k111,rfl,_,_⟩:=h101.shape
 obtain ⟨A112,k113,rfl,_,_⟩:=h102.shape
 refine Pl 3<|L0<|Oal mZ fun g114 w115 hg116 B117 hu118=>L0<|Osw B117 (mG M82.code M82.fail M82.addr M82.count M82.value M82.and_ M82.or_ M82.addr2 M82.sub M82.status M82.events M82.messages (.slice A104 M82.words.length k105) (.slice A106 M82.bits.length k107) (.slice A108 M82.data.length k109) (.slice A110 M82.recs.length k111) M82.mei M82.kind M82.level M82.more M82.next (.slice A112 M82.objects.length k113)) fun w119 B120 hu121=>Pl 1<|nt<|sq<|sg<|Pl 2<|nt<|?_
 have U122:=ut0 U70 hu90
 have U123:=ut0 U122 hu118
 have U124:=u1 U123 hu121 (ni U122.size hg116)
 refine cb ((E83 != 0)) (fun q125=>?_) (fun q125=>?_)
 have q125p:=ne_of_bnei q125
 refine sg<|Pl 2<|?_
 have U126:=ut0 hu45 hu59
 have U127:=ut0 U126 hu68
 have U128:=ut0 U127 hu90
 have U129:=ut0 U128 hu118
 have U130:=u1 U129 hu121 (ni U128.size hg116)
 have r131:=ub U130 B13
 refine L0<|Osw r131 #[.int .u8 0,.int .u16 0,.int .u8 0,.int .u8 0,.int .u16 0,.int .u16 0,.int .u16 0,.int .u16 0,.int .u16 0,.int .u16 0,.int .u16 0,.int .u16 0,.int .u16 0,.int .u16 0,.slice none 0 0,.slice none 0 0,.slice none 0 0,.slice none 0 0,.int .u8 0,.int .u8 0,.int .u8 0,.int .u8 0,.int .u8 0,.slice none 0 0] fun w132 B133 hu134=>Pl 1<|nt<|rt<|tr<|rct B133 (.int .i64 E83)<|?_
 have hX2:pduP dir (ascBody x)=(M82,E83):=(congrArg (pduP dir) (ascBody_eq x)).trans hX84
 have hs:ascP dir b=(Frm.zero,E83):=by
   unfold ascP
   (try simp only [q17,q22,q27,q71,q71n,q125,bs,if_true,if_false,decide_true,decide_false,frmOf,hds,hth,hX2,reduceIte])
   all_goals rfl
 refine pf_eq hs ?_
 have U135:=u1 U124 hu134 (nr hg12)
 exact bad_frm U135
 have q125p:=eq_of_bnei q125
 refine skn<|sq<|?_
 have U153:=ut0 hu90 hu118
 have U154:=u1 U153 hu121 (ni hu90.size hg116)
 have r155:=own_stay r103 U154 (fun x hx=>not0) (fun _ _ h=>h)
 refine x23 (RdB.at_ (r155).rd 0 (by omega)) fun b156 o157 hA158 hl159 hr160=>Rg 8 (fun w'=>w'.cell? ⟨b156,o157 + 0,none⟩=some (.int .u8 (x.getD 0 0))∧w'.heap[g114]? = some (.cells (mG M82.code M82.fail M82.addr M82.count M82.value M82.and_ M82.or_ M82.addr2 M82.sub M82.status M82.events M82.messages (.slice A104 M82.words.length k105) (.slice A106 M82.bits.length k107) (.slice A108 M82.data.length k109) (.slice A110 M82.recs.length k111) M82.mei M82.kind M82.level M82.more M82.next (.slice A112 M82.objects.length k113)) 45 (0,0))) fun w170 hu171=>?_
 have r173:=ub hu171 B120
 refine hld ⟨(uc hu171 hl159),r173⟩ fun hS172=>Rt 0 hS172<|Ri1 1 hS172 x.length 0 0 rfl hA158 (by omega)<|Rl 2 hS172 (fun _ hs=>hs.1)<|Rt 3 hS172<|Rr 4 hS172 (.agg (mG M82.code M82.fail M82.addr M82.count M82.value M82.and_ M82.or_ M82.addr2 M82.sub M82.status M82.events M82.messages (.slice A104 M82.words.length k105) (.slice A106 M82.bits.length k107) (.slice A108 M82.data.length k109) (.slice A110 M82.recs.length k111) M82.mei M82.kind M82.level M82.more M82.next (.slice A112 M82.objects.length k113))) (fun w' hs=>lda_o (g:=g114) (off:=0) [.int .u8 M82.code,.int .u8 M82.fail,.int .u16 M82.addr,.int .u16 M82.count,.int .u16 M82.value,.int .u16 M82.and_,.int .u16 M82.or_,.int .u16 M82.addr2,.int .u16 M82.sub,.int .u16 M82.status,.int .u16 M82.events,.int .u16 M82.messages,.slice A104 M82.words.length k105,.slice A106 M82.bits.length k107,.slice A108 M82.data.length k109,.slice A110 M82.recs.length k111,.int .u8 M82.mei,.int .u8 M82.kind,.int .u8 M82.level,.int .u8 M82.more,.int .u8 M82.next,.slice A112 M82.objects.length k113] rfl (by kernel_rfl) hs.2 (by kernel_rfl) (by kernel_rfl) rfl)<|Rt 5 hS172<|?_
 have U174:=ut0 hu45 hu59
 have U175:=ut0 U174 hu68
 have U176:=ut0 U175 hu90
 have U177:=ut0 U176 hu118
 have U178:=u1 U177 hu121 (ni U176.size hg116)
 have U179:=ut0 U178 hu171
 have r180:=ub U179 B13
 refine R0 6 rfl<|Osw r180 #[.int .u8 (x.getD 0 0),.int .u16 0,.int .u8 M82.code,.int .u8 M82.fail,.int .u16 M82.addr,.int .u16 M82.count,.int .u16 M82.value,.int .u16 M82.and_,.int .u16 M82.or_,.int .u16 M82.addr2,.int .u16 M82.sub,.int .u16 M82.status,.int .u16 M82.events,.int .u16 M82.messages,.slice A104 M82.words.length k105,.slice A106 M82.bits.length k107,.slice A108 M82.data.length k109,.slice A110 M82.recs.length k111,.int .u8 M82.mei,.int .u8 M82.kind,.int .u8 M82.level,.int .u8 M82.more,.int .u8 M82.next,.slice A112 M82.objects.length k113] fun w181 B182 hu183=>?_
 have U185:=u1 (Upd.mono (S':=[g10]) hu171 all0) hu183 im
 have r186:=own_stay r155 U185 (fun x hx=>(not_cons (fun e=>(not_old (blk_lt B13) hu45.size rd66) (e ▸ hx)) not0)) (fun _ _ h=>h)
 have ne187:=nb (blk_lt B13) U176.size hg116
 have r188:=ub1 hu183 (Ne.symm ne187) r173
 refine hld ⟨(cB (r186).rd hA158 0 (by omega)),r188⟩ fun hS184=>Rt 7 hS184<|re<|tn<|rt<|rct B182 (.int .i64 0)<|?_
 have hX2:pduP dir (ascBody x)=(M82,E83):=(congrArg (pduP dir) (ascBody_eq x)).trans hX84
 have hs:ascP dir b=(⟨(x.getD 0 0),0,M82⟩,0):=by
   unfold ascP
   (try simp only [q17,q22,q27,q71,q71n,q125,bs,if_true,if_false,decide_true,decide_false,frmOf,hds,hth,hX2,reduceIte])
   all_goals rfl
 refine pf_eq hs ?_
 have U189:=u1 hu118 hu121 (nr hg116)
 have U190:=ut0 U189 hu171
 have U191:=u1 (Upd.mono (S':=[g10]) U190 all0) hu183 im
 have r192:=ub U176 B13
 have r193:=MsgRd.upd hM88 U191 (safe_cons (safe1 r192 (by decide)) safe0)
 have U194:=ut0 U124 hu171
 have U195:=u1 U194 hu183 (nr hg12)
 exact ⟨_,rfl,⟨#[.int .u8 M82.code,.int .u8 M82.fail,.int .u16 M82.addr,.int .u16 M82.count,.int .u16 M82.value,.int .u16 M82.and_,.int .u16 M82.or_,.int .u16 M82.addr2,.int .u16 M82.sub,.int .u16 M82.status,.int .u16 M82.events,.int .u16 M82.messages,.slice A104 M82.words.length k105,.slice A106 M82.bits.length k107,.slice A108 M82.data.length k109,.slice A110 M82.recs.length k111,.int .u8 M82.mei,.int .u8 M82.kind,.int .u8 M82.level,.int .u8 M82.more,.int .u8 M82.next,.slice A112 M82.objects.length k113],(by as_aux_lemma=>kernel_rfl),r193,b8 (x:=(x.getD 0 0)) (by omega),b16 (x:=0) (by omega)⟩,U195⟩
theorem asc_parse {m:Bool} {v:Value} {b:List Int} {w:World} {dir:Int} (h:RdB m w v b) (hb:b.length≤1048576) : Calls Tryz.prog 42 #[.int .i64 dir,v] w (PFrm (ascP dir b) w):=by
  obtain ⟨A,cp,rfl,_,_⟩:=h.shape
  exact asc_parse0 h hb
open Go.RowKit
def ascB (u:Int) (l:List Int) : List Int:=([58]++putH (([u]++l)++[lrcOf ([u]++l)]))++[13,10]
def ascW (dir u t:Int) (M:Msg) : Option (List Int) :=
  match pduW dir M with
  | none=>none
  | some l=>if t != 0 then none else some (ascB u l)
def PWriteF (res:Option (List Int)) (w:World) (e:Ending) (w':World) : Prop :=
  match res with
  | some l=>∃ v,e = .returned (.tuple #[v,.int .i64 0])∧OwnF w.heap.size w' v l∧Upd [] w w'
  | none=>e = .returned (.tuple #[.slice none 0 0,.int .i64 1])∧Upd [] w w'
theorem nsF_eq {x y:Option (List Int)} (h:x=y) {w:World} {e:Ending} {w':World} (k:PWriteF y w e w') : PWriteF x w e w':=by rw [h]; exact k
theorem OwnF.weaken {base base':Nat} {w:World} {v:Value} {xs:List Int} (h:OwnF base w v xs) (k:base'≤base) : OwnF base' w v xs:=by
  obtain ⟨g,cap,cur,n,h1,h2,h3⟩:=h
  exact ⟨g,cap,cur,n,h1,Nat.le_trans k h2,h3⟩
theorem lrcOf_rng (b:List Int) : 0≤lrcOf b∧lrcOf b < 256:=by unfold lrcOf; omega
set_option maxRecDepth 100000 in
set_option maxHeartbeats 4000000 in
theorem asc_write {m:Bool} {cs:Array Value} {M:Msg} {w:World} {dir u t:Int} (h:MsgRd m w cs.toList M) (hf:MsgFew M) (hu:B8 u) (ht:B16 t) : Calls Tryz.prog 43 #[.int .i64 dir,.agg (#[.int .u8 u,.int .u16 t]++cs)] w (PWriteF (ascW dir u t M) w):=by
 have hM:=h
 obtain ⟨hu1,hu2⟩:=hu
 obtain ⟨ht1,ht2⟩:=ht
 obtain ⟨vw,vb,vd,vr,vo,h0,hw,hbt,hd,hr,ho,hR⟩:=h
 obtain rfl:cs=(msgCells M vw vb vd vr vo).toArray:=by apply Array.toList_inj.1; simpa using h0
 clear h0
 obtain ⟨Aw,kw,rfl,_,_⟩:=hw.shape
 obtain ⟨Ab,kb,rfl,_,_⟩:=hbt.shape
 obtain ⟨Ad,kd,rfl,_,_⟩:=hd.shape
 obtain ⟨Ar,kr,rfl,_,_⟩:=hr.shape
 obtain ⟨Ao,ko,rfl,_,_⟩:=ho.shape
 obtain ⟨q0,q1,q2,q3,q4,q5,q6,q7,q8,q9,q10,q11,q16,q17,q18,q19,q20⟩:=hR
 simp only [B8,B16] at q0 q1 q2 q3 q4 q5 q6 q7 q8 q9 q10 q11 q16 q17 q18 q19 q20
 refine en 39 Tryz.func43 rfl<|sg<|L0<|Obx #[.int .u8 u,.int .u16 t,.int .u8 M.code,.int .u8 M.fail,.int .u16 M.addr,.int .u16 M.count,.int .u16 M.value,.int .u16 M.and_,.int .u16 M.or_,.int .u16 M.addr2,.int .u16 M.sub,.int .u16 M.status,.int .u16 M.events,.int .u16 M.messages,.slice Aw M.words.length kw,.slice Ab M.bits.length kb,.slice Ad M.data.length kd,.slice Ar M.recs.length kr,.int .u8 M.mei,.int .u8 M.kind,.int .u8 M.level,.int .u8 M.more,.int .u8 M.next,.slice Ao M.objects.length ko] fun g10 w11 hg12 B13 hu14=>Pl 2<|ng<|Pl 2<|L0<|Ola B13 2 22<|?_
 rcases hwr:pduW dir M with _ | lw
 have r18:=MsgRd.old hM hu14
 have hw15:=pdu_write (dir:=dir) r18 hf
 rw [hwr] at hw15
 refine L0<|Oc<|m1 hw15 fun w16 hu17=>Pl 5<|nt<|sq<|sg<|Pl 8<|nt<|c1<|sg<|Pl 2<|nl<|?_
 refine tn<|rt<|tr<|rr (.tuple #[.slice none 0 0,.int .i64 1])<|?_
 have hs:ascW dir u t M=none:=by
   unfold ascW
   (try simp only [hwr,bs,if_true,if_false,decide_true,decide_false,reduceIte])
   all_goals rfl
 refine nsF_eq hs ?_
 have U19:=ut0 hu14 hu17
 exact ⟨rfl,U19⟩
 have hlw:=pduW_len hwr
 have r23:=MsgRd.old hM hu14
 have hw20:=pdu_write (dir:=dir) r23 hf
 rw [hwr] at hw20
 refine L0<|Oc<|so2 hw20 fun A26 cp27 w21 rd30 hl28 hm29 hu22=>Pl 5<|nt<|sq<|sg<|Pl 5<|?_
 have r31:=ub hu22 B13
 refine L1<|Olb r31 1<|Pl 2<|nt<|?_
 have U32:=ut0 hu14 hu22
 refine cb ((t != 0)) (fun q33=>?_) (fun q33=>?_)
 have q33p:=ne_of_bnei q33
 refine sg<|Pl 2<|nt<|rt<|tr<|rr (.tuple #[.slice none 0 0,.int .i64 1])<|?_
 have hs:ascW dir u t M=none:=by
   unfold ascW
   (try simp only [hwr,q33,bs,if_true,if_false,decide_true,decide_false,reduceIte])
   all_goals rfl
 refine nsF_eq hs ?_
 exact ⟨rfl,U32⟩
 have q33p:=eq_of_bnei q33
 refine skn<|sg<|Pl 2<|L0<|Olb r31 0<|L0<|Olt (m:=1) (e:=5) #[.int .u8 u] fun g34 w35 hg36 B37 hu38=>?_
 have ow39:=litB hg36 (xs:=[u]) (by as_aux_lemma=>kernel_rfl) (rng_cons (by omega) rng_nil) (by (try simp only [List.length_cons,List.length_nil]); omega) B37
 refine Pl 1<|?_
 have r40:=own_stay rd30 hu38 (fun x hx=>not0) (fun _ _ h=>h)
 refine L0<|Oapp one_u8 (xs:=([u])) (ys:=lw) (.int .u8 0) 1 ow39 (r40).rd (by (try simp only [List.length_append,List.length_cons,List.length_nil,putW_length]); omega) hu38.size fun A41 cp42 w43 ho44 hu45=>Pl 1<|ng<|Pl 2<|L0<|Oc (args:=#[.slice A41 (([u]++lw).length) cp42])<|m1 (lrcof_any (ho44).rd) fun w46 hu47=>?_
 have r49:=own_stay ho44 hu47 (fun x hx=>not0) (fun _ _ h=>h)
 have hl48:=lrcOf_rng ([u]++lw)
 refine L0<|Olt (m:=1) (e:=5) #[.int .u8 (lrcOf ([u]++lw))] fun g50 w51 hg52 B53 hu54=>?_
 have ow55:=litB hg52 (xs:=[(lrcOf ([u]++lw))]) (by as_aux_lemma=>kernel_rfl) (rng_cons (by omega) rng_nil) (by (try simp only [List.length_cons,List.length_nil]); omega) B53
 have r56:=own_stay r49 hu54 (fun x hx=>not0) (fun _ _ h=>h)
 refine L0<|Oapp one_u8 (xs:=([u]++lw)) (ys:=([(lrcOf ([u]++lw))])) (.int .u8 0) 1 r56 (ow55).rd (by (try simp only [List.length_append,List.length_cons,List.length_nil,putW_length]); omega) (le (le (le hu38.size hu45.size) hu47.size) hu54.size) fun A57 cp58 w59 ho60 hu61=>L0<|Oc (args:=#[.slice A57 ((([u]++lw)++[(lrcOf ([u]++lw))]).length) cp58])<|m1 (hput_any (ho60).rd (by simp only [List.length_append,List.length_cons,List.length_nil]; omega)) fun w62 hu63=>?_
 have hp64:Byts (putH (([u]++lw)++[(lrcOf ([u]++lw))])):=putH_byts (RdB.range (ho60).rd)
 have hz65:Byts ([58]++(putH (([u]++lw)++[(lrcOf ([u]++lw))]))):=byts_app (by decide) hp64
 refine L0<|Or_ (.string (strOfNums ([58]++(putH (([u]++lw)++[(lrcOf ([u]++lw))]))))) (run_adds (a:=⟨#[58]⟩) (b:=(strOfNums (putH (([u]++lw)++[(lrcOf ([u]++lw))])))) (xs:=([58])) (ys:=(putH (([u]++lw)++[(lrcOf ([u]++lw))]))) rfl (by kernel_rfl) (by kernel_rfl) rfl rfl (by simp only [putH_len,List.length_append,List.length_cons,List.length_nil]; omega))<|?_
 have hz66:Byts (([58]++(putH (([u]++lw)++[(lrcOf ([u]++lw))])))++[13,10]):=byts_app hz65 (by decide)
 refine L0<|Or_ (.string (strOfNums (([58]++(putH (([u]++lw)++[(lrcOf ([u]++lw))])))++[13,10]))) (run_adds (a:=(strOfNums ([58]++(putH (([u]++lw)++[(lrcOf ([u]++lw))]))))) (b:=⟨#[13,10]⟩) (xs:=([58]++(putH (([u]++lw)++[(lrcOf ([u]++lw))])))) (ys:=([13,10])) rfl (by kernel_rfl) (by kernel_rfl) rfl rfl (by simp only [putH_len,List.length_append,List.length_cons,List.length_nil]; omega))<|L0<|Ocs (xs:=(([58]++(putH (([u]++lw)++[(lrcOf ([u]++lw))])))++[13,10])) Tryz.underlying9 Tryz.underlying29 Tryz.underlying5 hz66 (by simp only [putH_len,List.length_append,List.length_cons,List.length_nil]; omega) fun A67 cp68 w69 ho70 hu71=>Pl 2<|nt<|rt<|rr (.tuple #[.slice A67 ((([58]++(putH (([u]++lw)++[(lrcOf ([u]++lw))])))++[13,10]).length) cp68,.int .i64 0])<|?_
 have hs:ascW dir u t M=(some (([58]++(putH (([u]++lw)++[(lrcOf ([u]++lw))])))++[13,10])):=by
   unfold ascW
   (try simp only [hwr,q33,bs,if_true,if_false,decide_true,decide_false,reduceIte])
   all_goals rfl
 refine nsF_eq hs ?_
 have U72:=ut0 U32 hu38
 have U73:=ut U72 hu45 (all_app (ob_new ow39 U32.size) all0)
 have U74:=ut0 U73 hu47
 have U75:=ut0 U74 hu54
 have U76:=ut U75 hu61 (all_app (ob_new ho44 U32.size) all0)
 have U77:=ut0 U76 hu63
 have U78:=ut0 U77 hu71
 exact ⟨_,rfl,ho70.weaken (le (le (le (le (le (le (le hu14.size hu22.size) hu38.size) hu45.size) hu47.size) hu54.size) hu61.size) hu63.size),U78⟩
open Go.RowKit
theorem asc_parse_x {m:Bool} {v:Value} {b:List Int} {w:World} {dir:Int} {F:Frm} {E:Int} (hX:ascP dir b=(F,E)) (h:RdB m w v b) (hb:b.length≤1048576) : Calls Tryz.prog 42 #[.int .i64 dir,v] w (fun e w'=>∃ x,e = .returned (.tuple #[.agg (fcl F.unit F.tid F.msg x),.int .i64 E])∧(MsgRd true w' (mcl F.msg x).toList F.msg∧(0≤F.unit∧F.unit < 256)∧(0≤F.tid∧F.tid < 65536))∧Upd [] w w'):=by
  refine (asc_parse h hb).mono ?_
  rintro e w' ⟨cs,rfl,h1,h2⟩
  rw [hX] at h1 ⊢
  obtain ⟨c,rfl,h3,h4,h5⟩:=h1
  obtain ⟨x,rfl⟩:=mcl_of h3
  exact ⟨x,by rw [fcl_eq],⟨h3,h4,h5⟩,h2⟩
theorem asc_write_n {m:Bool} {x:SL} {M:Msg} {w:World} {dir u t:Int} (hX:ascW dir u t M=none) (h:MsgRd m w (mcl M x).toList M) (hf:MsgFew M) (hu:0≤u∧u < 256) (ht:0≤t∧t < 65536) : Calls Tryz.prog 43 #[.int .i64 dir,.agg (fcl u t M x)] w (fun e w'=>e = .returned (.tuple #[.slice none 0 0,.int .i64 1])∧Upd [] w w'):=by
  have:=asc_write (dir:=dir) h hf hu ht
  rw [hX] at this
  rw [fcl_eq]
  exact this
theorem asc_write_s {m:Bool} {x:SL} {M:Msg} {w:World} {dir u t:Int} {l:List Int} (hX:ascW dir u t M=some l) (h:MsgRd m w (mcl M x).toList M) (hf:MsgFew M) (hu:0≤u∧u < 256) (ht:0≤t∧t < 65536) : Calls Tryz.prog 43 #[.int .i64 dir,.agg (fcl u t M x)] w (fun e w'=>∃ v,e = .returned (.tuple #[v,.int .i64 0])∧OwnF w.heap.size w' v l∧Upd [] w w'):=by
  have:=asc_write (dir:=dir) h hf hu ht
  rw [hX] at this
  rw [fcl_eq]
  exact this
open Go.RowKit
theorem run_cvs {P:Program} {w:World} {t e:TypeId} {g n c:Nat} {C:Array Value} (ht:P.underlying t=some (.slice e)) (he:P.underlying e=some (.int .u8)) (hb:w.heap[g]? = some (.cells C e (0,0))) :
    ∃ w2,(convert t t (.slice (some ⟨g,0,none⟩) n c)).run P w = .ok (.slice (some ⟨g,0,none⟩) n c) w2∧w2.heap[g]? = some (.cells C e (C.size,C.size + 1))∧Upd [g] w w2:=by
  have hsh:w.shape? g=some (e,C.size):=by
    unfold World.shape?
    rw [hb]
  refine ⟨w.freeze ⟨g,C.size,none⟩ 1,?_,?_,?_⟩
  · simp [convert,run_underlying ht,run_underlying he,markStringish,hsh]
  · unfold World.freeze
    rw [if_neg (by decide)]
    simp [Array.getElem?_modify,hb]
  · unfold World.freeze
    rw [if_neg (by decide)]
    refine ⟨rfl,rfl,rfl,by simp,fun k hk hn=>?_⟩
    have hne:¬ g=k:=fun q=>hn (by rw [q]; exact List.mem_singleton.2 rfl)
    simp [Array.getElem?_modify,hne]
theorem lit_frz {w:World} {g:Nat} {C:Array Value} {fr:Nat × Nat} {xs:List Int} (hb:w.heap[g]? = some (.cells C 5 fr)) (hC:C=(xs.map (Value.int .u8)).toArray) (hr:∀ x,x∈xs→0≤x∧x < 256) (hl:xs.length≤4194304) : RdB true w (.slice (some ⟨g,0,none⟩) xs.length xs.length) xs:=by
  refine ⟨_,xs.length,rfl,Nat.le_refl _,by unfold maxLen; omega,(fun h=>by cases h),fun _=>⟨g,0,C,_,fr,rfl,hb,fun _=>rfl,fun j x hj=>?_⟩⟩
  refine ⟨[.int .u8 x],rfl,⟨rfl,hr x (List.mem_of_getElem? hj)⟩,fun i u hi=>?_⟩
  cases i with
  | succ i=>simp at hi
  | zero =>
    have hi:Value.int .u8 x=u:=by simpa using hi
    subst hi
    subst hC
    simp only [Nat.zero_add,Nat.mul_one,Nat.add_zero]
    rw [List.getElem?_toArray,List.getElem?_map,hj]
    rfl
theorem far_blk {k g h:Nat} (hne:h ≠ g) : 0 < k→∀ x,x∈ob (some ⟨h,0,none⟩)→x ≠ g:=fun _ x hx=>by
  simp [ob] at hx
  subst hx
  exact hne
theorem far_nrow {k h:Nat} {A:Option Addr} (hn:h ∉ ob A) : Far k (some ⟨h,0,none⟩) (ob A):=fun _ x hx=>by
  simp [ob] at hx
  subst hx
  exact hn
section
variable {P:Program} {n:Nat} {D:List Deferred} {F:Fr} {w:World} {K:Fr→World→Prop} {Q:Exit→Act→World→Prop} {d:Option Tmp} {t:TypeId} {s:String} {af:Array Edge} {gu:Option (Nat × Bool)}
theorem Ocvs {ty e:TypeId} {x:Operand} {g m c:Nat} {C:Array Value} (hb:w.heap[g]? = some (.cells C e (0,0))) (h:∀ w',w'.heap[g]? = some (.cells C e (C.size,C.size + 1))→Upd [g] w w'→K (pt d (.slice (some ⟨g,0,none⟩) m c) F) w')
    (hx:evo F x=some (.slice (some ⟨g,0,none⟩) m c):=by kernel_rfl) (hs:(slE P ty,P.underlying e,dok n d)=(some e,some (.int .u8),true):=by kernel_rfl) : OG P ⟨d,.convert ty ty x,t,s,af,gu⟩ n D F w K Q:=by
  simp only [Prod.mk.injEq] at hs
  obtain ⟨h1,h2,h3⟩:=hs
  obtain ⟨w2,hr,hB,hu⟩:=run_cvs (n:=m) (c:=c) (slE_some h1) h2 hb
  refine ⟨fun a ha K' hK=>OW.mk ?_⟩
  have hx':=ha.ev hx
  unfold Oper.wp execOp
  simp only [hx',Sem.run_bind,Sem.run_pure,hr,Result.andThen_ok]
  exact hK _ _ _ (h w2 hB hu) (ha.put h3)
end
open Go.RowKit
structure SA where
  dir:Int
  held:List Int
abbrev saC (S:SA) (A:Option Addr) (cp:Nat) : Array Value:=#[.int .i64 S.dir,.slice A S.held.length cp]
abbrev SaB (w:World) (g:Nat) (S:SA) (A:Option Addr) (cp:Nat) : Prop:=w.heap[g]? = some (.cells (saC S A cp) 90 (0,0))
def SA.tail (d:Int) (h:List Int) : SA × List Ev:=if decide (513 < ((h.length:Nat) : Int))=true then (⟨d,[]⟩,[Ev.bad 3]) else if endsB h [13,10]=true then (⟨d,[]⟩,[Ev.mk (ascP d h).2 (ascP d h).1]) else (⟨d,h⟩,[])
def SA.byte (S:SA) (c:Int) : SA × List Ev:=if ((c == 58) && (decide (0 < ((S.held.length:Nat) : Int))))=true then (⟨S.dir,[58]⟩,[Ev.bad 12]) else if ((c != 58) && (((S.held.length:Nat) : Int) == 0))=true then (S,[]) else SA.tail S.dir (S.held++[c])
def SA.feed (S:SA) (b:List Int) : SA × List Ev:=b.foldl (fun p c=>((p.1.byte c).1,p.2++(p.1.byte c).2)) (S,[])
def SA.ok (S:SA) : Prop:=(∀ x,x∈S.held→0≤x∧x < 256)∧S.held.length≤513
theorem SA.ok_le {S:SA} (h:S.ok) : S.held.length≤513:=h.2
theorem SA.byte_ok {S S2:SA} {c:Int} {L2:List Ev} (h:S.ok) (hc:0≤c∧c < 256) (hx:S.byte c=(S2,L2)) : S2.ok∧L2.length≤1:=by
  have h0:∀ d,(SA.mk d []).ok:=fun d=>⟨fun x hx=>(by cases hx),Nat.zero_le _⟩
  unfold SA.byte at hx
  split at hx
  · injection hx with e1 e2
    subst e1 e2
    exact ⟨⟨fun x hx=>(by rw [List.mem_singleton] at hx; rw [hx]; decide),(by show 1≤513; decide)⟩,Nat.le_refl _⟩
  split at hx
  · injection hx with e1 e2
    subst e1 e2
    exact ⟨h,Nat.zero_le _⟩
  unfold SA.tail at hx
  split at hx
  · injection hx with e1 e2
    subst e1 e2
    exact ⟨h0 _,Nat.le_refl _⟩
  rename_i hl
  split at hx
  · injection hx with e1 e2
    subst e1 e2
    exact ⟨h0 _,Nat.le_refl _⟩
  · injection hx with e1 e2
    subst e1 e2
    refine ⟨⟨fun x hx=>?_,?_⟩,Nat.zero_le _⟩
    · rcases List.mem_append.1 hx with k | k
      · exact h.1 x k
      · rw [List.mem_singleton] at k; rw [k]; exact hc
    · simp only [decide_eq_true_eq] at hl
      show (S.held++[c]).length≤513
      omega
theorem sa_snoc {S0 T T2:SA} {L L2:List Ev} {b:List Int} {k:Nat} (hk:k < b.length) (h:(T,L)=S0.feed (b.take k)) (hx:T.byte (b.getD k 0)=(T2,L2)) : (T2,L++L2)=S0.feed (b.take (k + 1)):=by
  rw [List.take_succ_eq_append_getElem hk]
  unfold SA.feed at h ⊢
  rw [List.foldl_append,← h]
  rw [List.getD_eq_getElem?_getD,List.getElem?_eq_getElem hk] at hx
  simp only [Option.getD_some] at hx
  simp only [List.foldl_cons,List.foldl_nil,hx]
theorem sa_snoc0 {S0 T T2:SA} {L:List Ev} {b:List Int} {k:Nat} (hk:k < b.length) (h:(T,L)=S0.feed (b.take k)) (hx:T.byte (b.getD k 0)=(T2,[])) : (T2,L)=S0.feed (b.take (k + 1)):=by
  have:=sa_snoc hk h hx
  rwa [List.append_nil] at this
theorem sab_1 {T:SA} {c:Int} (h:((c == 58) && (decide (0 < ((T.held.length:Nat) : Int))))=true) : T.byte c=(⟨T.dir,[58]⟩,[Ev.bad 12]):=by unfold SA.byte; rw [if_pos h]
theorem sab_2 {T:SA} {c:Int} (h:((c == 58) && (decide (0 < ((T.held.length:Nat) : Int))))=false) (h2:((c != 58) && (((T.held.length:Nat) : Int) == 0))=true) : T.byte c=(T,[]):=by unfold SA.byte; rw [if_neg (by rw [h]; decide),if_pos h2]
theorem sab_3 {T:SA} {c:Int} (h:((c == 58) && (decide (0 < ((T.held.length:Nat) : Int))))=false) (h2:((c != 58) && (((T.held.length:Nat) : Int) == 0))=false) (h3:decide (513 < (((T.held++[c]).length:Nat) : Int))=true) : T.byte c=(⟨T.dir,[]⟩,[Ev.bad 3]):=by unfold SA.byte; rw [if_neg (by rw [h]; decide),if_neg (by rw [h2]; decide)]; unfold SA.tail; rw [if_pos h3]
theorem sab_4 {T:SA} {c:Int} {F:Frm} {E:Int} (h:((c == 58) && (decide (0 < ((T.held.length:Nat) : Int))))=false) (h2:((c != 58) && (((T.held.length:Nat) : Int) == 0))=false) (h3:decide (513 < (((T.held++[c]).length:Nat) : Int))=false) (h4:endsB (T.held++[c]) [13,10]=true) (hX:ascP T.dir (T.held++[c])=(F,E)) : T.byte c=(⟨T.dir,[]⟩,[Ev.mk E F]):=by unfold SA.byte; rw [if_neg (by rw [h]; decide),if_neg (by rw [h2]; decide)]; unfold SA.tail; rw [if_neg (by rw [h3]; decide),if_pos h4,hX]
theorem sab_5 {T:SA} {c:Int} (h:((c == 58) && (decide (0 < ((T.held.length:Nat) : Int))))=false) (h2:((c != 58) && (((T.held.length:Nat) : Int) == 0))=false) (h3:decide (513 < (((T.held++[c]).length:Nat) : Int))=false) (h4:endsB (T.held++[c]) [13,10]=false) : T.byte c=(⟨T.dir,T.held++[c]⟩,[]):=by unfold SA.byte; rw [if_neg (by rw [h]; decide),if_neg (by rw [h2]; decide)]; unfold SA.tail; rw [if_neg (by rw [h3]; decide),if_neg (by rw [h4]; decide)]
def PFe (base n0:Nat) (S2:SA) (L:List Ev) (g:Nat) (A:Option Addr) (w:World) (e:Ending) (w':World) : Prop:=∃ v A2 cp2 n2,e = .returned v∧OwnV n2 w.heap.size w' v L∧SaB w' g S2 A2 cp2∧OwnB base w' (.slice A2 S2.held.length cp2) S2.held∧(∀ x,x∈ob A2→x∈ob A∨w.heap.size≤x)∧(n0≤n2∧n2≤w'.heap.size)∧(∀ x,x∈ob A2→n2≤x)∧Upd (g :: (ob A++[])) w w'
theorem getDsa {b:List Int} (h:∀ x,x∈b→0≤x∧x < 256) (k:Nat) : 0≤b.getD k 0∧b.getD k 0 < 256:=by
  rw [List.getD_eq_getElem?_getD]
  cases hj:b[k]? with
  | none=>simp
  | some x=>exact h x (List.mem_of_getElem? hj)
set_option maxRecDepth 100000 in
set_option maxHeartbeats 4000000 in
theorem sasc_new0 {w:World}:Calls Tryz.prog 38 #[.int .i64 0] w (fun e w'=>∃ g,e = .returned (.pointer (some ⟨g,0,none⟩))∧w.heap.size≤g∧SaB w' g ⟨0,[]⟩ none 0∧Upd [] w w'):=by
 refine en 12 Tryz.func38 rfl<|sg<|Pl 1<|nt<|sq<|sg<|Pl 6<|nt<|c0<|sk<|?_
 refine tn<|sg<|Pl 2<|L0<|Obx #[.int .i64 0,.slice none 0 0] fun g10 w11 hg12 B13 hu14=>Pl 1<|nt<|rt<|rr (.pointer (some ⟨g10,0,none⟩))<|?_
 exact ⟨g10,rfl,hg12,B13,hu14⟩
set_option maxRecDepth 100000 in
set_option maxHeartbeats 4000000 in
theorem sasc_new1 {w:World}:Calls Tryz.prog 38 #[.int .i64 1] w (fun e w'=>∃ g,e = .returned (.pointer (some ⟨g,0,none⟩))∧w.heap.size≤g∧SaB w' g ⟨1,[]⟩ none 0∧Upd [] w w'):=by
 refine en 12 Tryz.func38 rfl<|sg<|Pl 1<|nt<|sq<|sg<|Pl 6<|nt<|c0<|sk<|?_
 refine tn<|sg<|Pl 2<|L0<|Obx #[.int .i64 1,.slice none 0 0] fun g10 w11 hg12 B13 hu14=>Pl 1<|nt<|rt<|rr (.pointer (some ⟨g10,0,none⟩))<|?_
 exact ⟨g10,rfl,hg12,B13,hu14⟩
set_option maxRecDepth 100000 in
set_option maxHeartbeats 4000000 in
theorem sasc_held {w:World} {g:Nat} {S:SA} {A:Option Addr} {cp:Nat} (hb:SaB w g S A cp) (hr:RdB true w (.slice A S.held.length cp) S.held) : Calls Tryz.prog 40 #[.pointer (some ⟨g,0,none⟩)] w (PVal (.int .i64 ((S.held.length:Nat) : Int)) w):=by
 have hcm:=RdG.len hr
 refine en 8 Tryz.func40 rfl<|sg<|Pl 1<|ng<|Pl 3<|L0<|Olb hb 1<|Pl 2<|nt<|rt<|?_
 refine rr (.int .i64 ((S.held.length:Nat) : Int))<|?_
 exact ⟨rfl,(Upd.refl [] _)⟩
set_option maxRecDepth 100000 in
set_option maxHeartbeats 4000000 in
theorem sasc_feed0 {w:World} {g base:Nat} {S:SA} {A:Option Addr} {cp:Nat} {m:Bool} {B:Option Addr} {cpb:Nat} {b:List Int} (hb:SaB w g S A cp) (ho:OwnB base w (.slice A S.held.length cp) S.held) (hbs:base≤w.heap.size) (hok0:S.ok) {n0:Nat} (hn0:n0≤w.heap.size) (hlo:∀ x,x∈ob A→n0≤x) (hsl:RdB m w (.slice B b.length cpb) b) (hdg:0 < b.length→∀ x,x∈ob B→x ≠ g) (hda:Far b.length B (ob A)) (hbl:b.length≤1048576) :
    Calls Tryz.prog 39 #[.pointer (some ⟨g,0,none⟩),.slice B b.length cpb] w (PFe base n0 (S.feed b).1 (S.feed b).2 g A w):=by
 have hdl:=RdG.low hsl
 have hok0l:=SA.ok_le hok0
 have hrb:=RdB.range hsl
 refine en 98 Tryz.func39 rfl<|sg<|Pl 1<|nt<|scp<|sg<|Pl 1<|nt<|sq<|lbl<|?_
 refine tn<|sq<|sg<|Pl 3<|nt<|bk<|?_
 refine glp (fun x=>[(0,.pointer (some ⟨g,0,none⟩)),(4,.slice none 0 0),(5,.slice x.2.2.2.2.2.1 x.2.2.1.length x.2.2.2.2.2.2.1),(10,.slice B b.length cpb),(11,.int .i64 ((b.length:Nat) : Int)),(12,.int .i64 ((x.1:Nat) : Int))]) (fun (x:Nat × SA × List Ev × Option Addr × Nat × Option Addr × Nat × Nat) w'=>Upd (g :: (ob A++[])) w w'∧SaB w' g x.2.1 x.2.2.2.1 x.2.2.2.2.1∧OwnB base w' (.slice x.2.2.2.1 x.2.1.held.length x.2.2.2.2.1) x.2.1.held∧OwnV x.2.2.2.2.2.2.2 w.heap.size w' (.slice x.2.2.2.2.2.1 x.2.2.1.length x.2.2.2.2.2.2.1) x.2.2.1∧x.2.2.2.2.2.2.2≤w'.heap.size∧RdB m w' (.slice B b.length cpb) b∧((x.2.1,x.2.2.1)=S.feed (b.take x.1))∧(x.2.1.ok)∧(x.2.1.held.length≤513)∧(x.1≤b.length)∧(x.2.2.1.length≤x.1)∧(∀ y,y∈ob x.2.2.2.1→y∈ob A∨w.heap.size≤y)∧(n0≤x.2.2.2.2.2.2.2)∧(∀ y,y∈ob x.2.2.2.1→x.2.2.2.2.2.2.2≤y)) (fun x=>b.length - x.1) (0,S,[],A,cp,none,0,n0) ⟨Upd.refl _ _,hb,ho,(OwnG.nil w.heap.size _ _ (evLow n0) _),(Nat.le_trans hn0 lr),hsl,rfl,hok0,hok0l,(by (try dsimp only); exact Nat.zero_le _),(by (try dsimp only); exact Nat.zero_le _),hat_self,(by (try dsimp only); exact Nat.le_refl _),hlo⟩ ?_
 rintro ⟨k,T,L,Ah,ch,Bq,cq,n⟩ w10 ⟨hu11,f12,f13,f14,f15,f16,p17,p18,p19,p20,p21,p22,p23,p24⟩
 refine wkc [(0,.pointer (some ⟨g,0,none⟩)),(4,.slice none 0 0),(5,.slice Bq L.length cq),(10,.slice B b.length cpb),(11,.int .i64 ((b.length:Nat) : Int)),(12,.int .i64 ((k:Nat) : Int))] ?_
 have f26:SaB w10 g T Ah ch:=f12
 have f27:OwnB base w10 (.slice Ah T.held.length ch) T.held:=f13
 have f28:OwnV n w.heap.size w10 (.slice Bq L.length cq) L:=f14
 have f29:n≤w10.heap.size:=f15
 have hnl:=f29
 have f30:RdB m w10 (.slice B b.length cpb) b:=f16
 have p31:(T,L)=S.feed (b.take k):=p17
 have p32:T.ok:=p18
 have p33:T.held.length≤513:=p19
 have p34:k≤b.length:=p20
 have p35:L.length≤k:=p21
 have p36:∀ y,y∈ob Ah→y∈ob A∨w.heap.size≤y:=p22
 have p37:n0≤n:=p23
 have p38:∀ y,y∈ob Ah→n≤y:=p24
 have hlow:=p38
 have hn0l:=p37
 have hat0:=p36
 have hok:=p32
 have hpj:=p31
 have hle:=SA.ok_le hok
 refine sg<|Pl 1<|nt<|sq<|cb ((decide (((k:Nat) : Int) < ((b.length:Nat) : Int)))) (fun q39=>?_) (fun q39=>?_)
 have q39p:=of_decide_eq_true q39
 refine skn<|sq<|bk<|sg<|x23 (RdB.at_ f30 k (by omega)) fun b40 o41 hA42 hl43 hr44=>L0<|Oix b.length k hA42 (by omega)<|L0<|Old (p:=⟨b40,o41 + k,none⟩) (v:=.int .u8 (b.getD k 0)) hl43<|Pl 1<|nt<|sq<|bk<|?_
 refine sg<|Pl 3<|cu 7 [19] 26 ((((b.getD k 0) == 58) && (decide (0 < ((T.held.length:Nat) : Int))))) (fun K K46=>?_) ?_
 refine bl 19 (((b.getD k 0) == 58)) (fun q45=>?_) (fun q45=>?_)
 have q45p:=eq_of_beqi q45
 exact Pl 3<|L1<|Olb f26 1<|Pl 3<|ce K46 (decide (0 < ((T.held.length:Nat) : Int))) (by rw [q45]; rfl)
 have q45p:=ne_of_beqi q45
 exact Pl 7<|ce K46 false (by rw [q45]; rfl)
 refine Pl 1<|nt<|cb ((((b.getD k 0) == 58) && (decide (0 < ((T.held.length:Nat) : Int))))) (fun q47=>?_) (fun q47=>?_)
 have q47a:=(and_t q47).1
 have q47b:=(and_t q47).2
 have q47ap:=eq_of_beqi q47a
 have q47bp:=of_decide_eq_true q47b
 refine sg<|Pl 2<|L0<|Olt (m:=1) (e:=61) #[.int .i64 12,.int .u8 0,.int .u16 0,.int .u8 0,.int .u8 0,.int .u16 0,.int .u16 0,.int .u16 0,.int .u16 0,.int .u16 0,.int .u16 0,.int .u16 0,.int .u16 0,.int .u16 0,.int .u16 0,.slice none 0 0,.slice none 0 0,.slice none 0 0,.slice none 0 0,.int .u8 0,.int .u8 0,.int .u8 0,.int .u8 0,.int .u8 0,.slice none 0 0] fun g48 w49 hg50 B51 hu52=>?_
 have hE53:=litE (w0:=w10) (x:=(Ev.bad 12)) hg50 B51 ⟨⟨none,0,none,0,none,0,none,0,none,0⟩,by kernel_rfl,SL_nil,(show (0:Int)≤0∧(0:Int) < 256 from by decide),(show (0:Int)≤0∧(0:Int) < 65536 from by decide)⟩
 have r54:=own_stay f28 hu52 (fun x hx=>not0) (fun x cs q=>evLow.upd hu52 apt_nil q)
 have hl61:n≤w49.heap.size:=Nat.le_trans hnl hu52.size
 refine L0<|Oape (R:=evLow w49.heap.size) (xs:=L) (ys:=([Ev.bad 12])) (.agg #[.int .i64 0,.int .u8 0,.int .u16 0,.int .u8 0,.int .u8 0,.int .u16 0,.int .u16 0,.int .u16 0,.int .u16 0,.int .u16 0,.int .u16 0,.int .u16 0,.int .u16 0,.int .u16 0,.int .u16 0,.slice none 0 0,.slice none 0 0,.slice none 0 0,.slice none 0 0,.int .u8 0,.int .u8 0,.int .u8 0,.int .u8 0,.int .u8 0,.slice none 0 0]) 25 168 (OwnV.up hl61 (Nat.le_refl _) r54) (OwnE.low hE53).rd evLow.ones (fun w' hv x cs q=>evLow.upd hv (apt_o r54 (by decide) apt_nil) q) (by (try simp only [List.length_append,List.length_cons,List.length_nil,putW_length]); omega) (le hu11.size hu52.size) fun A55 cp56 w57 ho58 hu59 hat60=>Pl 1<|ng<|Pl 1<|L0<|Olt (m:=1) (e:=5) #[.int .u8 58] fun g62 w63 hg64 B65 hu66=>?_
 have ow67:=litB hg64 (xs:=[58]) (by as_aux_lemma=>kernel_rfl) (rng_cons (by omega) rng_nil) (by (try simp only [List.length_cons,List.length_nil]); omega) B65
 refine Pl 2<|?_
 have U68:=ut (Upd.mono (S':=(ob Bq++[])) hu52 all0) hu59 (all_app (fun x hx=>Or.inl (by simp [hx])) all0)
 have U69:=ut0 U68 hu66
 have r70:=Upd.blk U69 (not_app (not_old (blk_lt hb) lr f28) not0) f26
 refine L0<|Ost r70 1 #[.int .i64 T.dir,.slice (some ⟨g62,0,none⟩) 1 1] fun w71 B72 hu73=>nt<|xt<|by_<|tx<|bx<|tn<|go<|L0<|Oi (((k:Nat) : Int) + 1)<|Pl 1<|nl<|?_
 have U74:=ut0 hu11 hu52
 have U75:=ut U74 hu59 (all_app (ob_new f28 lr) all0)
 have U76:=ut0 U75 hu66
 have U77:=u1 U76 hu73 im
 have r78:=own_stay ow67 hu73 (fun x hx=>(not_cons (fun e=>(not_old (blk_lt hb) U75.size ow67) (e ▸ hx)) not0)) (fun _ _ h=>h)
 have U79:=u1 (Upd.mono (S':=[g]) hu66 all0) hu73 im
 have r80:=Upd.blk U68 (not_app (not_old (blk_lt hb) lr f28) not0) f26
 have r81:=own_stay ho58 U79 (fun x hx=>(not_cons (fun e=>(not_old (blk_lt hb) lr ho58) (e ▸ hx)) not0)) (fun x cs q=>evLow.upd U79 (apt_b r80 (by decide) apt_nil) q)
 have U82:=u1 (Upd.mono (S':=(ob Bq++(g :: []))) U69 (all_app (fun x hx=>Or.inl (by simp [hx])) all0)) hu73 im
 have r83:=RdB.far f30 U82 (far_app (far_own hdl f28 (Nat.le_refl _)) (far_cons hdg far_nil))
 have hx84:=sab_1 (T:=T) (c:=(b.getD k 0)) q47
 have ho85:=SA.byte_ok hok (getDsa hrb k) hx84
 exact lpe ((k + 1),(SA.mk T.dir [58]),(L++[Ev.bad 12]),some ⟨g62,0,none⟩,1,A55,cp56,w49.heap.size) ⟨U77,B72,(own_base (Nat.le_trans hbs U75.size) r78),r81,(le (le hu59.size hu66.size) hu73.size),r83,(by (try dsimp only); exact sa_snoc (by omega) hpj hx84),(by (try dsimp only); exact ho85.1),(by (try dsimp only); have q:=SA.ok_le ho85.1; exact q),(by (try dsimp only); omega),(by (try dsimp only); (try simp only [List.length_append,List.length_cons,List.length_nil]); omega),(by (try dsimp only); exact (hat_lit ow67 U75.size)),(by (try dsimp only); exact Nat.le_trans hn0l (Nat.le_trans hnl hu52.size)),(by (try dsimp only); exact (low_lit ow67 hu59.size))⟩ (by omega)
 refine sg<|Pl 3<|cu 7 [38] 45 ((((b.getD k 0) != 58) && (((T.held.length:Nat) : Int) == 0))) (fun K K87=>?_) ?_
 refine bl 38 (((b.getD k 0) != 58)) (fun q86=>?_) (fun q86=>?_)
 have q86p:=ne_of_bnei q86
 exact Pl 3<|L1<|Olb f26 1<|Pl 3<|ce K87 (((T.held.length:Nat) : Int) == 0) (by rw [q86]; rfl)
 have q86p:=eq_of_bnei q86
 exact Pl 7<|ce K87 false (by rw [q86]; rfl)
 refine Pl 1<|nt<|cb ((((b.getD k 0) != 58) && (((T.held.length:Nat) : Int) == 0))) (fun q88=>?_) (fun q88=>?_)
 have q88a:=(and_t q88).1
 have q88b:=(and_t q88).2
 have q88ap:=ne_of_bnei q88a
 have q88bp:=eq_of_beqi q88b
 refine xt<|by_<|tx<|bx<|tn<|go<|L0<|Oi (((k:Nat) : Int) + 1)<|Pl 1<|nl<|?_
 have hx89:=sab_2 (T:=T) (c:=(b.getD k 0)) q47 q88
 have ho90:=SA.byte_ok hok (getDsa hrb k) hx89
 exact lpe ((k + 1),T,L,Ah,ch,Bq,cq,n) ⟨hu11,f26,f27,f28,(Nat.le_trans hnl lr),f30,(by (try dsimp only); exact sa_snoc0 (by omega) hpj hx89),(by (try dsimp only); exact ho90.1),(by (try dsimp only); have q:=SA.ok_le ho90.1; exact q),(by (try dsimp only); omega),(by (try dsimp only); (try simp only [List.length_append,List.length_cons,List.length_nil]); omega),(by (try dsimp only); exact hat0),(by (try dsimp only); exact hn0l),(by (try dsimp only); exact hlow)⟩ (by omega)
 refine sk<|bn<|tn<|sg<|Pl 4<|L0<|Olb f26 1<|Pl 1<|L0<|Olt (m:=1) (e:=5) #[.int .u8 (b.getD k 0)] fun g91 w92 hg93 B94 hu95=>?_
 have ow96:=litB hg93 (xs:=[(b.getD k 0)]) (by as_aux_lemma=>kernel_rfl) (rng_cons (by omega) rng_nil) (by (try simp only [List.length_cons,List.length_nil]); omega) B94
 have r97:=own_stay f27 hu95 (fun x hx=>not0) (fun _ _ h=>h)
 refine L0<|Oape (R:=u8R) (xs:=T.held) (ys:=([(b.getD k 0)])) (.int .u8 0) 1 1 r97 (ow96).rd u8_ones (fun _ _ _ _ h=>h) (by (try simp only [List.length_append,List.length_cons,List.length_nil,putW_length]); omega) (Nat.le_trans hbs (le hu11.size hu95.size)) fun A98 cp99 w100 ho101 hu102 hat103=>Pl 2<|?_
 have U104:=ut (Upd.mono (S':=(ob Ah++[])) hu95 all0) hu102 (all_app (fun x hx=>Or.inl (by simp [hx])) all0)
 have r105:=Upd.blk U104 (not_app (not_type f26 f27 (by decide)) not0) f26
 refine L0<|Ost r105 1 #[.int .i64 T.dir,.slice A98 ((T.held++[(b.getD k 0)]).length) cp99] fun w106 B107 hu108=>nt<|sq<|bk<|sg<|Pl 3<|L0<|Olb B107 1<|Pl 3<|nt<|?_
 have U109:=ut0 hu11 hu95
 have U110:=ut U109 hu102 (all_app (ob_from hat0 (fun x hx=>Or.inl (by simp [hx])) lr) all0)
 have U111:=u1 U110 hu108 im
 refine cb ((decide (513 < (((T.held++[(b.getD k 0)]).length:Nat) : Int)))) (fun q112=>?_) (fun q112=>?_)
 have q112p:=of_decide_eq_true q112
 refine go<|Pl 2<|L0<|Olt (m:=1) (e:=61) #[.int .i64 3,.int .u8 0,.int .u16 0,.int .u8 0,.int .u8 0,.int .u16 0,.int .u16 0,.int .u16 0,.int .u16 0,.int .u16 0,.int .u16 0,.int .u16 0,.int .u16 0,.int .u16 0,.int .u16 0,.slice none 0 0,.slice none 0 0,.slice none 0 0,.slice none 0 0,.int .u8 0,.int .u8 0,.int .u8 0,.int .u8 0,.int .u8 0,.slice none 0 0] fun g113 w114 hg115 B116 hu117=>?_
 have hE118:=litE (w0:=w106) (x:=(Ev.bad 3)) hg115 B116 ⟨⟨none,0,none,0,none,0,none,0,none,0⟩,by kernel_rfl,SL_nil,(show (0:Int)≤0∧(0:Int) < 256 from by decide),(show (0:Int)≤0∧(0:Int) < 65536 from by decide)⟩
 have U119:=u1 (Upd.mono (S':=(ob Ah++(g :: []))) U104 (all_app (fun x hx=>Or.inl (by simp [hx])) all0)) hu108 im
 have U120:=ut0 U119 hu117
 have r121:=own_stay f28 U120 (fun x hx=>(not_app ((rows_type f28 f27 (by decide)) x hx) (not_cons (fun e=>(not_old (blk_lt hb) lr f28) (e ▸ hx)) not0))) (fun x cs q=>evLow.upd U120 (apt_n hlow (apt_b f26 (by decide) apt_nil)) q)
 have hl128:n≤w114.heap.size:=Nat.le_trans hnl U120.size
 refine L0<|Oape (R:=evLow w114.heap.size) (xs:=L) (ys:=([Ev.bad 3])) (.agg #[.int .i64 0,.int .u8 0,.int .u16 0,.int .u8 0,.int .u8 0,.int .u16 0,.int .u16 0,.int .u16 0,.int .u16 0,.int .u16 0,.int .u16 0,.int .u16 0,.int .u16 0,.int .u16 0,.int .u16 0,.slice none 0 0,.slice none 0 0,.slice none 0 0,.slice none 0 0,.int .u8 0,.int .u8 0,.int .u8 0,.int .u8 0,.int .u8 0,.slice none 0 0]) 25 168 (OwnV.up hl128 (Nat.le_refl _) r121) (OwnE.low hE118).rd evLow.ones (fun w' hv x cs q=>evLow.upd hv (apt_o r121 (by decide) apt_nil) q) (by (try simp only [List.length_append,List.length_cons,List.length_nil,putW_length]); omega) (le (le (le (le hu11.size hu95.size) hu102.size) hu108.size) hu117.size) fun A122 cp123 w124 ho125 hu126 hat127=>Pl 1<|nl<|bn<|tn<|go<|Pl 3<|?_
 have U129:=ut (Upd.mono (S':=(ob Bq++[])) hu117 all0) hu126 (all_app (fun x hx=>Or.inl (by simp [hx])) all0)
 have r130:=Upd.blk U129 (not_app (not_old (blk_lt hb) lr f28) not0) B107
 refine L0<|Ost r130 1 #[.int .i64 T.dir,.slice none 0 0] fun w131 B132 hu133=>nl<|bn<|tn<|go<|L0<|Oi (((k:Nat) : Int) + 1)<|Pl 1<|nl<|?_
 have U134:=ut0 U111 hu117
 have U135:=ut U134 hu126 (all_app (ob_new f28 lr) all0)
 have U136:=u1 U135 hu133 im
 have r137:=own_stay ho125 hu133 (fun x hx=>(not_cons (fun e=>(not_old (blk_lt hb) lr ho125) (e ▸ hx)) not0)) (fun x cs q=>evLow.upd hu133 (apt_b r130 (by decide) apt_nil) q)
 have U138:=ut (Upd.mono (S':=(ob Ah++(g :: (ob Bq++[])))) U120 (all_app (fun x hx=>Or.inl (by simp [hx])) (ac im all0))) hu126 (all_app (fun x hx=>Or.inl (by simp [hx])) all0)
 have U139:=u1 U138 hu133 im
 have r140:=RdB.far f30 U139 (far_app (far_frm hda hdl hat0) (far_cons hdg (far_app (far_own hdl f28 (Nat.le_refl _)) far_nil)))
 have hx141:=sab_3 (T:=T) (c:=(b.getD k 0)) q47 q88 q112
 have ho142:=SA.byte_ok hok (getDsa hrb k) hx141
 exact lpe ((k + 1),(SA.mk T.dir []),(L++[Ev.bad 3]),none,0,A122,cp123,w114.heap.size) ⟨U136,B132,(OwnG.nil base _ _ u8R _),r137,(le hu126.size hu133.size),r140,(by (try dsimp only); exact sa_snoc (by omega) hpj hx141),(by (try dsimp only); exact ho142.1),(by (try dsimp only); have q:=SA.ok_le ho142.1; exact q),(by (try dsimp only); omega),(by (try dsimp only); (try simp only [List.length_append,List.length_cons,List.length_nil]); omega),(by (try dsimp only); exact hat_none),(by (try dsimp only); exact Nat.le_trans hn0l (Nat.le_trans hnl U120.size)),(by (try dsimp only); exact low_none)⟩ (by omega)
 have q112p:=of_decide_eq_false q112
 refine sg<|Pl 3<|L0<|Olb B107 1<|L0<|Olt (m:=2) (e:=5) #[.int .u8 13,.int .u8 10] fun g143 w144 hg145 B146 hu147=>?_
 have ow148:=litB hg145 (xs:=[13,10]) (by as_aux_lemma=>kernel_rfl) (rng_cons (by omega) (rng_cons (by omega) rng_nil)) (by (try simp only [List.length_cons,List.length_nil]); omega) B146
 refine L0<|Ocvs (m:=2) (c:=2) B146 fun w149 B150 hu151=>?_
 have hr152:=lit_frz B150 (xs:=[13,10]) (by as_aux_lemma=>kernel_rfl) (rng_cons (by omega) (rng_cons (by omega) rng_nil)) (by (try simp only [List.length_cons,List.length_nil]); omega)
 have U155:=ut0 hu108 hu147
 have U156:=u1 U155 hu151 (ni hu108.size hg145)
 have r157:=own_stay ho101 U156 (fun x hx=>(not_cons (fun e=>(not_type r105 ho101 (by decide)) (e ▸ hx)) not0)) (fun _ _ h=>h)
 refine L0<|Oc (args:=#[.slice A98 ((T.held++[(b.getD k 0)]).length) cp99,.slice (some ⟨g143,0,none⟩) 2 2])<|m1 (suf_any (xs:=(T.held++[(b.getD k 0)])) (ys:=[13,10]) (r157).rd hr152) fun w153 hu154=>Pl 1<|nt<|?_
 have U158:=ut0 U111 hu147
 have U159:=u1 U158 hu151 (ni U111.size hg145)
 have U160:=ut0 U159 hu154
 refine cb ((endsB (T.held++[(b.getD k 0)]) ([13,10]))) (fun q161=>?_) (fun q161=>?_)
 refine sq<|Rg 15 (fun w'=>w'.cell? ⟨g,0,none⟩=some (.int .i64 T.dir)∧w'.cell? ⟨g,1,none⟩=some (.slice A98 ((T.held++[(b.getD k 0)]).length) cp99)) fun w202 hu203=>?_
 have U205:=u1 hu147 hu151 (nr hg145)
 have U206:=ut0 U205 hu154
 have U207:=ut0 U206 hu203
 have r208:=ub U207 B107
 refine hld ⟨(blk_at r208 rfl),(blk_at r208 rfl)⟩ fun hS204=>Rt 0 hS204<|Rt 1 hS204<|Rt 2 hS204<|Rl 3 hS204 (fun _ hs=>hs.1)<|Rt 4 hS204<|Rt 5 hS204<|Rt 6 hS204<|Rl 7 hS204 (fun _ hs=>hs.2)<|?_
 refine R2 8 12 rfl rfl ?_ ?_
 have U209:=ut0 hu154 hu203
 have r210:=own_stay r157 U209 (fun x hx=>not0) (fun _ _ h=>h)
 refine pr (ascP T.dir (T.held++[(b.getD k 0)])) fun F211 E212 hX213=>?_
 refine  Oc<|e2 (asc_parse_x hX213 (r210).rd (by simp only [List.length_append,List.length_cons,List.length_nil,List.length_replicate]; omega)) fun x214 w215 hx220 hu219=>?_
 obtain ⟨hM216,hF217,hF218⟩:=hx220
 have r222:=ub hu219 r208
 refine hld ⟨(blk_at r222 rfl),(blk_at r222 rfl)⟩ fun hS221=>Rt 9 hS221<|Rt 10 hS221<|Rt 11 hS221<|R0 12 rfl<|Oal #[.int .u8 0,.int .u16 0,.int .u8 0,.int .u8 0,.int .u16 0,.int .u16 0,.int .u16 0,.int .u16 0,.int .u16 0,.int .u16 0,.int .u16 0,.int .u16 0,.int .u16 0,.int .u16 0,.slice none 0 0,.slice none 0 0,.slice none 0 0,.slice none 0 0,.int .u8 0,.int .u8 0,.int .u8 0,.int .u8 0,.int .u8 0,.slice none 0 0] fun g223 w224 hg225 B226 hu227=>?_
 have r229:=ub hu227 r222
 refine hld ⟨(blk_at r229 rfl),(blk_at r229 rfl)⟩ fun hS228=>R0 13 rfl<|Osw B226 (fcl F211.unit F211.tid F211.msg x214) fun w230 B231 hu232=>?_
 have ne234:=nb (blk_lt hb) (le (le (le (le (le (le (le (le hu11.size hu95.size) hu102.size) hu108.size) hu147.size) hu151.size) hu154.size) hu203.size) hu219.size) hg225
 have r235:=ub1 hu232 ne234 r229
 refine hld ⟨(blk_at r235 rfl),(blk_at r235 rfl)⟩ fun hS233=>Rt 14 hS233<|re<|tn<|go<|Pl 2<|L0<|Olw B231<|Pl 1<|L0<|Olt (m:=1) (e:=61) (evl ⟨E212,F211⟩ x214) fun g236 w237 hg238 B239 hu240=>?_
 have U241:=u1 hu227 hu232 (nr hg225)
 have U242:=ut0 U241 hu240
 have r243:=MsgRd.upd hM216 U242 safe0
 have hE244:=litE (w0:=w230) (x:=(Ev.mk E212 F211)) hg238 B239 ⟨x214,rfl,r243,hF217,hF218⟩
 have U245:=u1 (Upd.mono (S':=(ob Ah++(g :: []))) U104 (all_app (fun x hx=>Or.inl (by simp [hx])) all0)) hu108 im
 have U246:=ut0 U245 hu147
 have U247:=u1 U246 hu151 (ni U245.size hg145)
 have U248:=ut0 U247 hu154
 have U249:=ut0 U248 hu203
 have U250:=ut0 U249 hu219
 have U251:=ut0 U250 hu227
 have U252:=u1 U251 hu232 (ni U250.size hg225)
 have U253:=ut0 U252 hu240
 have r254:=own_stay f28 U253 (fun x hx=>(not_app ((rows_type f28 f27 (by decide)) x hx) (not_cons (fun e=>(not_old (blk_lt hb) lr f28) (e ▸ hx)) not0))) (fun x cs q=>evLow.upd U253 (apt_n hlow (apt_b f26 (by decide) apt_nil)) q)
 have hl261:n≤w237.heap.size:=Nat.le_trans hnl U253.size
 refine L0<|Oape (R:=evLow w237.heap.size) (xs:=L) (ys:=([Ev.mk E212 F211])) (.agg #[.int .i64 0,.int .u8 0,.int .u16 0,.int .u8 0,.int .u8 0,.int .u16 0,.int .u16 0,.int .u16 0,.int .u16 0,.int .u16 0,.int .u16 0,.int .u16 0,.int .u16 0,.int .u16 0,.int .u16 0,.slice none 0 0,.slice none 0 0,.slice none 0 0,.slice none 0 0,.int .u8 0,.int .u8 0,.int .u8 0,.int .u8 0,.int .u8 0,.slice none 0 0]) 25 168 (OwnV.up hl261 (Nat.le_refl _) r254) (OwnE.low hE244).rd evLow.ones (fun w' hv x cs q=>evLow.upd hv (apt_o r254 (by decide) apt_nil) q) (by (try simp only [List.length_append,List.length_cons,List.length_nil,putW_length]); omega) (le (le (le (le (le (le (le (le (le (le (le hu11.size hu95.size) hu102.size) hu108.size) hu147.size) hu151.size) hu154.size) hu203.size) hu219.size) hu227.size) hu232.size) hu240.size) fun A255 cp256 w257 ho258 hu259 hat260=>Pl 1<|nl<|bn<|tn<|go<|Pl 3<|?_
 have U262:=ut (Upd.mono (S':=(ob Bq++[])) hu240 all0) hu259 (all_app (fun x hx=>Or.inl (by simp [hx])) all0)
 have r263:=Upd.blk U262 (not_app (not_old (blk_lt hb) lr f28) not0) r235
 refine L0<|Ost r263 1 #[.int .i64 T.dir,.slice none 0 0] fun w264 B265 hu266=>nl<|bn<|tn<|go<|L0<|Oi (((k:Nat) : Int) + 1)<|Pl 1<|nl<|?_
 have U267:=ut0 U160 hu203
 have U268:=ut0 U267 hu219
 have U269:=ut0 U268 hu227
 have U270:=u1 U269 hu232 (ni U268.size hg225)
 have U271:=ut0 U270 hu240
 have U272:=ut U271 hu259 (all_app (ob_new f28 lr) all0)
 have U273:=u1 U272 hu266 im
 have r274:=own_stay ho258 hu266 (fun x hx=>(not_cons (fun e=>(not_old (blk_lt hb) lr ho258) (e ▸ hx)) not0)) (fun x cs q=>evLow.upd hu266 (apt_b r263 (by decide) apt_nil) q)
 have U275:=ut (Upd.mono (S':=(ob Ah++(g :: (ob Bq++[])))) U253 (all_app (fun x hx=>Or.inl (by simp [hx])) (ac im all0))) hu259 (all_app (fun x hx=>Or.inl (by simp [hx])) all0)
 have U276:=u1 U275 hu266 im
 have r277:=RdB.far f30 U276 (far_app (far_frm hda hdl hat0) (far_cons hdg (far_app (far_own hdl f28 (Nat.le_refl _)) far_nil)))
 have hx278:=sab_4 (T:=T) (c:=(b.getD k 0)) q47 q88 q112 q161 hX213
 have ho279:=SA.byte_ok hok (getDsa hrb k) hx278
 exact lpe ((k + 1),(SA.mk T.dir []),(L++[Ev.mk E212 F211]),none,0,A255,cp256,w237.heap.size) ⟨U273,B265,(OwnG.nil base _ _ u8R _),r274,(le hu259.size hu266.size),r277,(by (try dsimp only); exact sa_snoc (by omega) hpj hx278),(by (try dsimp only); exact ho279.1),(by (try dsimp only); have q:=SA.ok_le ho279.1; exact q),(by (try dsimp only); omega),(by (try dsimp only); (try simp only [List.length_append,List.length_cons,List.length_nil]); omega),(by (try dsimp only); exact hat_none),(by (try dsimp only); exact Nat.le_trans hn0l (Nat.le_trans hnl U253.size)),(by (try dsimp only); exact low_none)⟩ (by omega)
 refine  Oal #[.int .u8 0,.int .u16 0,.int .u8 0,.int .u8 0,.int .u16 0,.int .u16 0,.int .u16 0,.int .u16 0,.int .u16 0,.int .u16 0,.int .u16 0,.int .u16 0,.int .u16 0,.int .u16 0,.slice none 0 0,.slice none 0 0,.slice none 0 0,.slice none 0 0,.int .u8 0,.int .u8 0,.int .u8 0,.int .u8 0,.int .u8 0,.slice none 0 0] fun g280 w281 hg282 B283 hu284=>?_
 have r286:=ub hu284 r208
 refine hld ⟨(blk_at r286 rfl),(blk_at r286 rfl)⟩ fun hS285=>?_
 have U287:=ut0 hu154 hu203
 have U288:=ut0 U287 hu284
 have r289:=own_stay r157 U288 (fun x hx=>not0) (fun _ _ h=>h)
 refine pr (ascP T.dir (T.held++[(b.getD k 0)])) fun F290 E291 hX292=>?_
 refine R0 8 rfl<|Oc<|e2 (asc_parse_x hX292 (r289).rd (by simp only [List.length_append,List.length_cons,List.length_nil,List.length_replicate]; omega)) fun x293 w294 hx299 hu298=>?_
 obtain ⟨hM295,hF296,hF297⟩:=hx299
 have r301:=ub hu298 r286
 refine hld ⟨(blk_at r301 rfl),(blk_at r301 rfl)⟩ fun hS300=>Rt 9 hS300<|Rt 10 hS300<|Rt 11 hS300<|?_
 have r302:=ub hu298 B283
 refine R0 13 rfl<|Osw r302 (fcl F290.unit F290.tid F290.msg x293) fun w303 B304 hu305=>?_
 have ne307:=nb (blk_lt hb) (le (le (le (le (le (le (le hu11.size hu95.size) hu102.size) hu108.size) hu147.size) hu151.size) hu154.size) hu203.size) hg282
 have r308:=ub1 hu305 ne307 r301
 refine hld ⟨(blk_at r308 rfl),(blk_at r308 rfl)⟩ fun hS306=>Rt 14 hS306<|re<|tn<|go<|Pl 2<|L0<|Olw B304<|Pl 1<|L0<|Olt (m:=1) (e:=61) (evl ⟨E291,F290⟩ x293) fun g309 w310 hg311 B312 hu313=>?_
 have U314:=ut0 hu305 hu313
 have r315:=MsgRd.upd hM295 U314 (safe_cons (safe1 r302 (by decide)) safe0)
 have hE316:=litE (w0:=w303) (x:=(Ev.mk E291 F290)) hg311 B312 ⟨x293,rfl,r315,hF296,hF297⟩
 have U317:=u1 (Upd.mono (S':=(ob Ah++(g :: []))) U104 (all_app (fun x hx=>Or.inl (by simp [hx])) all0)) hu108 im
 have U318:=ut0 U317 hu147
 have U319:=u1 U318 hu151 (ni U317.size hg145)
 have U320:=ut0 U319 hu154
 have U321:=ut0 U320 hu203
 have U322:=ut0 U321 hu284
 have U323:=ut0 U322 hu298
 have U324:=u1 U323 hu305 (ni U321.size hg282)
 have U325:=ut0 U324 hu313
 have r326:=own_stay f28 U325 (fun x hx=>(not_app ((rows_type f28 f27 (by decide)) x hx) (not_cons (fun e=>(not_old (blk_lt hb) lr f28) (e ▸ hx)) not0))) (fun x cs q=>evLow.upd U325 (apt_n hlow (apt_b f26 (by decide) apt_nil)) q)
 have hl333:n≤w310.heap.size:=Nat.le_trans hnl U325.size
 refine L0<|Oape (R:=evLow w310.heap.size) (xs:=L) (ys:=([Ev.mk E291 F290])) (.agg #[.int .i64 0,.int .u8 0,.int .u16 0,.int .u8 0,.int .u8 0,.int .u16 0,.int .u16 0,.int .u16 0,.int .u16 0,.int .u16 0,.int .u16 0,.int .u16 0,.int .u16 0,.int .u16 0,.int .u16 0,.slice none 0 0,.slice none 0 0,.slice none 0 0,.slice none 0 0,.int .u8 0,.int .u8 0,.int .u8 0,.int .u8 0,.int .u8 0,.slice none 0 0]) 25 168 (OwnV.up hl333 (Nat.le_refl _) r326) (OwnE.low hE316).rd evLow.ones (fun w' hv x cs q=>evLow.upd hv (apt_o r326 (by decide) apt_nil) q) (by (try simp only [List.length_append,List.length_cons,List.length_nil,putW_length]); omega) (le (le (le (le (le (le (le (le (le (le (le hu11.size hu95.size) hu102.size) hu108.size) hu147.size) hu151.size) hu154.size) hu203.size) hu284.size) hu298.size) hu305.size) hu313.size) fun A327 cp328 w329 ho330 hu331 hat332=>Pl 1<|nl<|bn<|tn<|go<|Pl 3<|?_
 have U334:=ut (Upd.mono (S':=(ob Bq++[])) hu313 all0) hu331 (all_app (fun x hx=>Or.inl (by simp [hx])) all0)
 have r335:=Upd.blk U334 (not_app (not_old (blk_lt hb) lr f28) not0) r308
 refine L0<|Ost r335 1 #[.int .i64 T.dir,.slice none 0 0] fun w336 B337 hu338=>nl<|bn<|tn<|go<|L0<|Oi (((k:Nat) : Int) + 1)<|Pl 1<|nl<|?_
 have U339:=ut0 U160 hu203
 have U340:=ut0 U339 hu284
 have U341:=ut0 U340 hu298
 have U342:=u1 U341 hu305 (ni U339.size hg282)
 have U343:=ut0 U342 hu313
 have U344:=ut U343 hu331 (all_app (ob_new f28 lr) all0)
 have U345:=u1 U344 hu338 im
 have r346:=own_stay ho330 hu338 (fun x hx=>(not_cons (fun e=>(not_old (blk_lt hb) lr ho330) (e ▸ hx)) not0)) (fun x cs q=>evLow.upd hu338 (apt_b r335 (by decide) apt_nil) q)
 have U347:=ut (Upd.mono (S':=(ob Ah++(g :: (ob Bq++[])))) U325 (all_app (fun x hx=>Or.inl (by simp [hx])) (ac im all0))) hu331 (all_app (fun x hx=>Or.inl (by simp [hx])) all0)
 have U348:=u1 U347 hu338 im
 have r349:=RdB.far f30 U348 (far_app (far_frm hda hdl hat0) (far_cons hdg (far_app (far_own hdl f28 (Nat.le_refl _)) far_nil)))
 have hx350:=sab_4 (T:=T) (c:=(b.getD k 0)) q47 q88 q112 q161 hX292
 have ho351:=SA.byte_ok hok (getDsa hrb k) hx350
 exact lpe ((k + 1),(SA.mk T.dir []),(L++[Ev.mk E291 F290]),none,0,A327,cp328,w310.heap.size) ⟨U345,B337,(OwnG.nil base _ _ u8R _),r346,(le hu331.size hu338.size),r349,(by (try dsimp only); exact sa_snoc (by omega) hpj hx350),(by (try dsimp only); exact ho351.1),(by (try dsimp only); have q:=SA.ok_le ho351.1; exact q),(by (try dsimp only); omega),(by (try dsimp only); (try simp only [List.length_append,List.length_cons,List.length_nil]); omega),(by (try dsimp only); exact hat_none),(by (try dsimp only); exact Nat.le_trans hn0l (Nat.le_trans hnl U325.size)),(by (try dsimp only); exact low_none)⟩ (by omega)
 refine xt<|by_<|tx<|bx<|tn<|go<|L0<|Oi (((k:Nat) : Int) + 1)<|Pl 1<|nl<|?_
 have U352:=u1 hu147 hu151 (nr hg145)
 have U353:=ut0 U352 hu154
 have r354:=ub U353 B107
 have r355:=own_stay r157 hu154 (fun x hx=>not0) (fun _ _ h=>h)
 have U356:=u1 (Upd.mono (S':=(ob Ah++(g :: []))) U104 (all_app (fun x hx=>Or.inl (by simp [hx])) all0)) hu108 im
 have U357:=ut0 U356 hu147
 have U358:=u1 U357 hu151 (ni U356.size hg145)
 have U359:=ut0 U358 hu154
 have r360:=own_stay f28 U359 (fun x hx=>(not_app ((rows_type f28 f27 (by decide)) x hx) (not_cons (fun e=>(not_old (blk_lt hb) lr f28) (e ▸ hx)) not0))) (fun x cs q=>evLow.upd U359 (apt_n hlow (apt_b f26 (by decide) apt_nil)) q)
 have r361:=RdB.far f30 U359 (far_app (far_frm hda hdl hat0) (far_cons hdg far_nil))
 have hx362:=sab_5 (T:=T) (c:=(b.getD k 0)) q47 q88 q112 q161
 have ho363:=SA.byte_ok hok (getDsa hrb k) hx362
 exact lpe ((k + 1),(SA.mk T.dir (T.held++[(b.getD k 0)])),L,A98,cp99,Bq,cq,n) ⟨U160,r354,r355,r360,(Nat.le_trans hnl U359.size),r361,(by (try dsimp only); exact sa_snoc0 (by omega) hpj hx362),(by (try dsimp only); exact ho363.1),(by (try dsimp only); have q:=SA.ok_le ho363.1; exact q),(by (try dsimp only); omega),(by (try dsimp only); (try simp only [List.length_append,List.length_cons,List.length_nil]); omega),(by (try dsimp only); exact (hat_trans hat103 hat0 U109.size)),(by (try dsimp only); exact hn0l),(by (try dsimp only); exact (low_frm hat103 hlow (Nat.le_trans hnl hu95.size)))⟩ (by omega)
 have q39p:=of_decide_eq_false q39
 refine xt<|tx<|tx<|bx<|tn<|sg<|Pl 2<|nt<|rt<|gr<|rr (.slice Bq L.length cq)<|?_
 have hs:S.feed b=(T,L):=by rw [hpj,List.take_of_length_le (by omega)]
 rw [hs]
 exact ⟨_,Ah,ch,n,rfl,f28,f26,f27,hat0,⟨hn0l,Nat.le_trans hnl lr⟩,hlow,hu11⟩
open Go.RowKit
def SasAt (n base:Nat) (w:World) (g:Nat) (A:Option Addr) (cp:Nat) (S:SA) : Prop:=SaB w g S A cp∧OwnB base w (.slice A S.held.length cp) S.held∧S.ok∧n≤w.heap.size∧(∀ x,x∈ob A→n≤x)∧base≤w.heap.size
section
variable {n base g cp:Nat} {w w':World} {A:Option Addr} {S:SA} {X:List Nat}
theorem SasAt.row (h:SasAt n base w g A cp S) : OwnB base w (.slice A S.held.length cp) S.held:=h.2.1
theorem SasAt.low (h:SasAt n base w g A cp S) : ∀ x,x∈ob A→n≤x:=h.2.2.2.2.1
theorem SasAt.nle (h:SasAt n base w g A cp S) : n≤w.heap.size:=h.2.2.2.1
theorem SasAt.le (h:SasAt n base w g A cp S) : S.held.length≤513:=SA.ok_le h.2.2.1
theorem SasAt.lt (h:SasAt n base w g A cp S) : g < w.heap.size:=blk_lt h.1
theorem SasAt.cells (h:SasAt n base w g A cp S) : ∃ cs fr,w.heap[g]? = some (.cells cs 90 fr):=⟨_,_,h.1⟩
theorem SasAt.upd (h:SasAt n base w g A cp S) (hu:Upd X w w') (hg:g ∉ X) (hr:∀ x,x∈ob A→x ∉ X) : SasAt n base w' g A cp S :=
  ⟨hu.blk hg h.1,own_stay h.2.1 hu hr (fun _ _ q=>q),h.2.2.1,Nat.le_trans h.2.2.2.1 hu.size,h.2.2.2.2.1,Nat.le_trans h.2.2.2.2.2 hu.size⟩
end
theorem SA.feed_ok:∀ (b:List Int) (S:SA) (L:List Ev),S.ok→(∀ x,x∈b→0≤x∧x < 256)→(b.foldl (fun (p:SA × List Ev) c=>((p.1.byte c).1,p.2++(p.1.byte c).2)) (S,L)).1.ok∧(b.foldl (fun (p:SA × List Ev) c=>((p.1.byte c).1,p.2++(p.1.byte c).2)) (S,L)).2.length≤L.length + b.length
  | [],S,L,h,_=>⟨h,Nat.le_refl _⟩
  | c :: t,S,L,h,hb=>by
    have k:=SA.byte_ok (S2:=(S.byte c).1) (L2:=(S.byte c).2) h (hb c (List.mem_cons_self ..)) rfl
    have q:=SA.feed_ok t (S.byte c).1 (L++(S.byte c).2) k.1 (fun x hx=>hb x (List.mem_cons_of_mem _ hx))
    refine ⟨q.1,Nat.le_trans q.2 ?_⟩
    rw [List.length_append,List.length_cons]
    omega
theorem SA.feed_le {S S2:SA} {b:List Int} {L:List Ev} (h:S.ok) (hb:∀ x,x∈b→0≤x∧x < 256) (hX:S.feed b=(S2,L)) : L.length≤b.length:=by
  have q:=(SA.feed_ok b S [] h hb).2
  have e:L=(S.feed b).2:=(congrArg Prod.snd hX).symm
  rw [e]
  rw [List.length_nil,Nat.zero_add] at q
  exact q
def PSg (n base:Nat) (S2:SA) (L:List Ev) (g:Nat) (A:Option Addr) (w:World) (e:Ending) (w':World) : Prop:=∃ v A2 cp2 n2,e = .returned v∧OwnV n2 w.heap.size w' v L∧SasAt n2 base w' g A2 cp2 S2∧(∀ x,x∈ob A2→x∈ob A∨w.heap.size≤x)∧n≤n2∧Upd (g :: (ob A++[])) w w'
theorem sas_feed_x {w:World} {n base g cp cpb nb:Nat} {S S2:SA} {L:List Ev} {A B:Option Addr} {m:Bool} {b:List Int} (hX:S.feed b=(S2,L)) (h:SasAt n base w g A cp S) (hsl:RdB m w (.slice B nb cpb) b) (hdg:0 < nb→∀ x,x∈ob B→x ≠ g) (hda:Far nb B (ob A)) (hbl:b.length≤1048576) :
    Calls Tryz.prog 39 #[.pointer (some ⟨g,0,none⟩),.slice B nb cpb] w (PSg n base S2 L g A w):=by
  obtain ⟨h1,h2,h3,h4,h5,h6⟩:=h
  obtain rfl:nb=b.length:=by
    obtain ⟨_,_,e,_⟩:=hsl.shape
    injection e
  refine (sasc_feed0 h1 h2 h6 h3 h4 h5 hsl hdg hda hbl).mono ?_
  rintro e w' ⟨v,A2,cp2,n2,he,k1,k2,k3,k4,⟨k5,k6⟩,k7,k8⟩
  have hok:=(SA.feed_ok b S [] h3 (RdB.range hsl)).1
  rw [hX] at k1 k2 k3
  have e2:S2=(S.feed b).1:=(congrArg Prod.fst hX).symm
  exact ⟨v,A2,cp2,n2,he,k1,⟨k2,k3,by rw [e2]; exact hok,k6,k7,Nat.le_trans h6 k8.size⟩,k4,k5,k8⟩
theorem sas_new (d:Int) {w:World} (hq:Calls Tryz.prog 38 #[.int .i64 d] w (fun e w'=>∃ g,e = .returned (.pointer (some ⟨g,0,none⟩))∧w.heap.size≤g∧SaB w' g ⟨d,[]⟩ none 0∧Upd [] w w')) :
    Calls Tryz.prog 38 #[.int .i64 d] w (fun e w'=>∃ g,e = .returned (.pointer (some ⟨g,0,none⟩))∧w.heap.size≤g∧SasAt w.heap.size w.heap.size w' g none 0 ⟨d,[]⟩∧Upd [] w w'):=by
  refine hq.mono ?_
  rintro e w' ⟨g,he,h1,h2,h3⟩
  exact ⟨g,he,h1,⟨h2,OwnG.nil ..,⟨(fun x hx=>by cases hx),(show 0≤513 from by decide)⟩,h3.size,low_none,h3.size⟩,h3⟩
theorem sas_held {w:World} {n base g cp:Nat} {S:SA} {A:Option Addr} (h:SasAt n base w g A cp S) : Calls Tryz.prog 40 #[.pointer (some ⟨g,0,none⟩)] w (PVal (.int .i64 ((S.held.length:Nat) : Int)) w):=sasc_held h.1 h.2.1.rd
end Go.Proofs.YtgjlbabefogepaaGreat
namespace Go.Proofs.YtgjlbabefogepaaGreat
open Go.WideShapes
def byB (w:World) (b:List Int) (cs:List Value) : Prop:=∃ v,cs=[v]∧RdB false w v b∧b.length≤140737488355328
section
variable {H:Type} {enc:TypeId × Value→H} {w:World} {base:Nat} {spare:Nat→Bool} {held:Bool} {n:Nat} {y:DataW H × List MemPlace}
theorem sl_len {cs:List Value} (h:DataW.trod enc Tryz.prog w base spare held n 29 cs=some y) (hp:∀ e2 s2,y.1 = .slice e2 s2→e2.length≤140737488355328) : ∃ b,byB w b cs:=by
  obtain ⟨v,xs,hc,hr⟩:=sl_u8 h
  refine ⟨xs,v,hc,hr,?_⟩
  obtain ⟨A,c,hv,_,_⟩:=hr.shape
  rcases DataW.trod_slice Tryz.underlying29 h with ⟨h1,_⟩ | ⟨a,len,cap,elems,rest,m,_,h1,h2,_,_,_,h3,_⟩
  · rw [hc] at h1
    simp only [List.cons.injEq,and_true] at h1
    rw [h1] at hv
    injection hv with _ h4 _
    omega
  · rw [hc] at h1
    simp only [List.cons.injEq,and_true] at h1
    rw [h1] at hv
    injection hv with _ h4 _
    have:=hp _ _ (by rw [h2])
    rw [List.length_map] at this
    omega
theorem bb_open {cs:List Value} (h:DataW.trod enc Tryz.prog w base spare held n 22 cs=some y) (hp:∀ elems sp,y.1 = .slice elems sp→∀ d,d∈elems→∀ e2 s2,d = .slice e2 s2→e2.length≤140737488355328) :
    ∃ v xs,cs=[v]∧RdBs false w v xs∧∀ x,x∈xs→x.length≤140737488355328:=by
  obtain ⟨v,xs,hc,hr⟩:=rd_openP (R:=byB) (sz:=1) (Pd:=fun d=>∀ e2 s2,d = .slice e2 s2→e2.length≤140737488355328) Tryz.underlying22 (by kernel_rfl) (by decide) (fun _ _ _ _ h hp=>sl_len h hp) hp h
  refine ⟨v,xs,hc,RdG.any hr (fun _ _ ⟨v,h1,h2,_⟩=>⟨v,h1,h2⟩),fun x hx=>?_⟩
  obtain ⟨A,c,rfl,_,_⟩:=hr.shape
  obtain ⟨j,hj⟩:=List.getElem?_of_mem hx
  have hl:=(List.getElem?_eq_some_iff.1 hj).1
  obtain ⟨_,_,_,_,_,_,_,_,_,⟨_,_,_,h4⟩,_⟩:=RdG.elt hr [] j hl
  rw [List.getD_eq_getElem?_getD,hj] at h4
  exact h4
end
theorem mem_weightsAll {H:Type} {P:Program} {e:TypeId} {d:DataW H} {k:Nat} (hk:k∈d.weights P e) : ∀ {l:List (DataW H)},d∈l→k∈DataW.weightsAll P e l
  | [],h=>by cases h
  | x :: r,h=>by
    simp only [DataW.weightsAll,List.mem_append]
    rcases List.mem_cons.1 h with rfl | h
    · exact .inl hk
    · exact .inr (mem_weightsAll hk h)
theorem bb_size {H:Type} {ts:List TypeId} {ds:List (DataW H)} (h:(DataW.weightsEach Tryz.prog ts ds).all (·≤reachBytes)=true) {j:Nat} {d:DataW H} (ht:ts[j]? = some 22) (hd:ds[j]? = some d) :
    ∀ elems sp,d = .slice elems sp→∀ d2,d2∈elems→∀ e2 s2,d2 = .slice e2 s2→e2.length≤140737488355328:=by
  rintro elems sp rfl d2 hm e2 s2 rfl
  have hw:(e2.length + s2.length) * Tryz.prog.bytesOf 5∈(DataW.slice elems sp).weights Tryz.prog 22:=by
    simp only [DataW.weights,Tryz.underlying22,List.mem_cons,List.mem_append]
    refine .inr (.inl (mem_weightsAll ?_ hm))
    simp only [DataW.weights,Tryz.underlying29,List.mem_cons]
    exact .inl trivial
  have h2:=List.all_eq_true.1 h _ (DataW.weights_mem_each ht hd _ hw)
  have h3:(e2.length + s2.length) * Tryz.prog.bytesOf 5≤reachBytes:=by simpa using h2
  rw [show Tryz.prog.bytesOf 5=1 from by kernel_rfl] at h3
  have h4:reachBytes < 2 ^ 47:=reachBytes_lt
  omega
open Go.RowKit
section
variable {H:Type} {enc:TypeId × Value→H} {w:World} {base:Nat} {spare:Nat→Bool} {held:Bool} {n:Nat} {y:DataW H × List MemPlace}
theorem head_open {cs:List Value} (h:DataW.trod enc Tryz.prog w base spare held n 39 cs=some y) : ∃ u t,cs=[.int .u8 u,.int .u16 t]∧(0≤u∧u < 256)∧(0≤t∧t < 65536):=by
  obtain ⟨xs,m,rfl,_,hlen,hxs,hf⟩:=DataW.trod_struct Tryz.underlying39 h
  rw [show Tryz.prog.cellsOf 39=2 from by kernel_rfl] at hlen
  replace hxs:xs.length=2:=hxs.trans (by kernel_rfl)
  obtain ⟨y0,g0⟩ : ∃ y,xs[0]? = some y:=⟨_,List.getElem?_eq_getElem (show 0 < xs.length by omega)⟩
  have f0:DataW.trod enc Tryz.prog w base spare held m 5 ((cs.drop 0).take (Tryz.prog.cellsOf 5))=xs[0]?:=hf 0 _ rfl
  rw [g0] at f0
  rw [show Tryz.prog.cellsOf 5=1 from by kernel_rfl] at f0
  obtain ⟨x0,e0,r0⟩:=el_u8 f0
  obtain ⟨y1,g1⟩ : ∃ y,xs[1]? = some y:=⟨_,List.getElem?_eq_getElem (show 1 < xs.length by omega)⟩
  have f1:DataW.trod enc Tryz.prog w base spare held m 37 ((cs.drop 1).take (Tryz.prog.cellsOf 37))=xs[1]?:=hf 1 _ rfl
  rw [g1] at f1
  rw [show Tryz.prog.cellsOf 37=1 from by kernel_rfl] at f1
  obtain ⟨x1,e1,r1⟩:=el_u16 f1
  have hcs:cs=[.int .u8 x0,.int .u16 x1]:=by
    show cs.drop 0=_
    rw [peel e0,peel e1,drop_all hlen]
  exact ⟨x0,x1,hcs,r0,r1⟩
set_option maxRecDepth 20000 in
theorem frm_open {cs:List Value} (h:DataW.trod enc Tryz.prog w base spare held n 47 cs=some y) : ∃ u t M c,cs=[.int .u8 u,.int .u16 t]++c∧MsgRd false w c M∧(0≤u∧u < 256)∧(0≤t∧t < 65536):=by
  obtain ⟨xs,m,rfl,_,hlen,hxs,hf⟩:=DataW.trod_struct Tryz.underlying47 h
  rw [show Tryz.prog.cellsOf 47=24 from by kernel_rfl] at hlen
  replace hxs:xs.length=2:=hxs.trans (by kernel_rfl)
  obtain ⟨y0,g0⟩ : ∃ y,xs[0]? = some y:=⟨_,List.getElem?_eq_getElem (show 0 < xs.length by omega)⟩
  have f0:DataW.trod enc Tryz.prog w base spare held m 39 ((cs.drop 0).take (Tryz.prog.cellsOf 39))=xs[0]?:=hf 0 _ rfl
  rw [g0] at f0
  rw [show Tryz.prog.cellsOf 39=2 from by kernel_rfl] at f0
  obtain ⟨u,t,e0,hu,ht⟩:=head_open f0
  obtain ⟨y1,g1⟩ : ∃ y,xs[1]? = some y:=⟨_,List.getElem?_eq_getElem (show 1 < xs.length by omega)⟩
  have f1:DataW.trod enc Tryz.prog w base spare held m 45 ((cs.drop 2).take (Tryz.prog.cellsOf 45))=xs[1]?:=hf 1 _ rfl
  rw [g1] at f1
  rw [show Tryz.prog.cellsOf 45=22 from by kernel_rfl] at f1
  obtain ⟨M,hM⟩:=msg_open f1
  refine ⟨u,t,M,(cs.drop 2).take 22,?_,hM,hu,ht⟩
  rw [← e0,List.take_of_length_le (show (cs.drop 2).length≤22 by rw [List.length_drop]; omega)]
  exact (List.take_append_drop 2 cs).symm
set_option maxRecDepth 20000 in
open Go.WideShapes in
theorem frm_arg {v:Value} {d:DataW H} {p:List MemPlace} (hv:∃ b0,Value.okWide Tryz.prog w .any b0 47 v) (h:DataW.Trod enc Tryz.prog w base spare held 47 v d p) : ∃ u t M x,v = .agg (fcl u t M x)∧MsgRd false w (mcl M x).toList M∧(0≤u∧u < 256)∧(0≤t∧t < 65536):=by
  obtain ⟨b0,hv⟩:=hv
  obtain ⟨cs,rfl,hsz⟩:=okWide_struct Tryz.underlying47 hv
  obtain ⟨fuel,hf⟩:=h
  obtain ⟨u,t,M,c,e0,hM,hu,ht⟩:=frm_open hf
  obtain ⟨x,hx⟩:=mcl_of (cs:=c.toArray) (by simpa using hM)
  refine ⟨u,t,M,x,?_,?_,hu,ht⟩
  · rw [fcl_eq,← hx]
    congr 1
    apply Array.toList_inj.1
    rw [show cs.toList=_ from e0]
    simp
  · rw [← hx]
    simpa using hM
end
end Go.Proofs.YtgjlbabefogepaaGreat
namespace Go.Proofs.YtgjlbabefogepaaGreat
open Go.WideShapes
section
variable {H:Type} {enc:TypeId × Value→H} {w:World} {base:Nat} {spare:Nat→Bool} {held:Bool} {n:Nat} {y:DataW H × List MemPlace}
theorem fr_el {cs:List Value} (h:DataW.trod enc Tryz.prog w base spare held n 47 cs=some y) : ∃ f,frR false w f cs:=by
  obtain ⟨u,t,M,c,e0,hM,hu,ht⟩:=frm_open h
  obtain ⟨x,hx⟩:=mcl_of (cs:=c.toArray) (by simpa using hM)
  have hc:c=(mcl M x).toList:=by rw [← hx]
  refine ⟨⟨u,t,M⟩,x,?_,?_,hu,ht⟩
  · rw [e0,fcl_eq,hc]
    simp
  · rw [← hc]
    exact hM
theorem fs_open {cs:List Value} (h:DataW.trod enc Tryz.prog w base spare held n 58 cs=some y) : ∃ v xs,cs=[v]∧RdF false w v xs :=
  rd_open (R:=frR false) Tryz.underlying58 (by kernel_rfl) (by decide) (fun _ _ _ _ h=>fr_el h) h
end
open Go.RowKit
def sumL:List (List Int)→Nat
  | []=>0
  | x :: t=>x.length + sumL t
def few19 (ls:List (List Int)) : Bool:=decide (ls.length≤60) && decide (sumL ls≤3000)
theorem sumL_app (a b:List (List Int)) : sumL (a++b)=sumL a + sumL b:=by
  induction a with
  | nil=>simp [sumL]
  | cons x t ih=>simp only [List.cons_append,sumL,ih]; omega
theorem sumL_flat (a:List (List Int)) : a.flatten.length=sumL a:=by
  induction a with
  | nil=>rfl
  | cons x t ih=>simp only [List.flatten_cons,List.length_append,sumL,ih]
theorem take_snoc {ls:List (List Int)} {k:Nat} (hk:k < ls.length) : ls.take (k + 1)=ls.take k++[ls.getD k []]:=by
  rw [List.take_succ_eq_append_getElem hk,List.getD_eq_getElem?_getD,List.getElem?_eq_getElem hk]
  rfl
theorem sumL_snoc {ls:List (List Int)} {k:Nat} (hk:k < ls.length) : sumL (ls.take (k + 1))=sumL (ls.take k) + (ls.getD k []).length:=by
  rw [take_snoc hk,sumL_app]
  rfl
theorem sumL_le {ls:List (List Int)} (hb:∀ x,x∈ls→x.length≤140737488355328) : ∀ k,k≤ls.length→sumL (ls.take k)≤k * 140737488355328
  | 0,_=>by simp [sumL]
  | k + 1,h=>by
    rw [sumL_snoc (by omega)]
    have h1:=sumL_le hb k (by omega)
    have h2:(ls.getD k []).length≤140737488355328:=by
      rw [List.getD_eq_getElem?_getD,List.getElem?_eq_getElem (by omega)]
      exact hb _ (List.getElem_mem _)
    rw [Nat.succ_mul]
    omega
theorem sumL_part {ls:List (List Int)} {k:Nat} (hk:k < ls.length) : sumL (ls.take k) + (ls.getD k []).length≤sumL ls:=by
  rw [← sumL_snoc hk]
  have:=sumL_app (ls.take (k + 1)) (ls.drop (k + 1))
  rw [List.take_append_drop] at this
  omega
theorem few19_step {ls:List (List Int)} {k:Nat} {n:Int} (hb:∀ x,x∈ls→x.length≤140737488355328) (h:k≤60→n=(sumL (ls.take k) : Nat)) (hk:k < ls.length) : k + 1≤60→IntKind.i64.wrap (n + (((ls.getD k []).length:Nat) : Int))=(sumL (ls.take (k + 1)) : Nat):=by
  intro h60
  have h1:=sumL_le hb (k + 1) hk
  have h2:=sumL_snoc hk
  rw [h (by omega),i64_in]
  · rw [h2]; omega
  · omega
theorem few19_end {ls:List (List Int)} {k:Nat} {n:Int} (h:k≤60→n=(sumL (ls.take k) : Nat)) (hk:k=ls.length) : (decide ((ls.length:Int)≤60) && decide (n≤3000))=few19 ls:=by
  subst hk
  rw [List.take_length] at h
  unfold few19
  by_cases h60:ls.length≤60
  · rw [h h60]
    congr 1
    · rw [decide_eq_decide]; omega
    · rw [decide_eq_decide]; omega
  · rw [decide_eq_false h60,decide_eq_false (by omega)]; rfl
theorem few19_le {ls:List (List Int)} (h:few19 ls=true) : ls.length≤60∧sumL ls≤3000:=by
  unfold few19 at h
  simpa using h
set_option maxRecDepth 100000 in
set_option maxHeartbeats 4000000 in
theorem few19_any {m:Bool} {A:Option Addr} {cp:Nat} {ls:List (List Int)} {w:World} (h:RdBs m w (.slice A ls.length cp) ls) (hbb:∀ x,x∈ls→x.length≤140737488355328) : Calls Tryz.prog 18 #[.slice A ls.length cp] w (PVal (.bool (few19 ls)) w):=by
 have hz:=RdG.len h
 refine en 25 Tryz.func18 rfl<|sg<|Pl 1<|ng<|Pl 1<|nt<|sq<|sg<|?_
 refine Pl 1<|nt<|bk<|?_
 refine glp (fun x=>[(0,.slice A ls.length cp),(2,.bool false),(3,.int .i64 x.2),(4,.int .i64 ((x.1:Nat) : Int))]) (fun (x:Nat × Int) w'=>Upd [] w w'∧(x.1≤ls.length)∧(x.1≤60→x.2=(sumL (ls.take x.1) : Nat))) (fun x=>ls.length - x.1) (0,0) ⟨Upd.refl _ _,(by (try dsimp only); omega),(by (try dsimp only); intro _; rfl)⟩ ?_
 rintro ⟨k,n⟩ w10 ⟨hu11,p12,p13⟩
 refine wkc [(0,.slice A ls.length cp),(2,.bool false),(3,.int .i64 n),(4,.int .i64 ((k:Nat) : Int))] ?_
 have p15:k≤ls.length:=p12
 have p16:k≤60→n=(sumL (ls.take k) : Nat):=p13
 refine sq<|sg<|Pl 4<|nt<|cb ((decide (((k:Nat) : Int) < ((ls.length:Nat) : Int)))) (fun q17=>?_) (fun q17=>?_)
 have q17p:=of_decide_eq_true q17
 refine skn<|sq<|bk<|go<|Pl 3<|x45 (RdBs.elt h k (by omega)) fun b18 o19 A20 cp21 hA22 hl23 hr24 hc25 hm26=>L0<|Oix ls.length k hA22 (by omega)<|L0<|Old (p:=⟨b18,o19 + k,none⟩) (v:=.slice A20 ((ls.getD k []).length) cp21) (uc hu11 hl23)<|Pl 3<|nl<|bn<|tn<|go<|?_
 exact Pl 1<|L0<|Oi (((k:Nat) : Int) + 1)<|Pl 1<|nl<|lpe ((k + 1),(IntKind.i64.wrap (n + (((ls.getD k []).length:Nat) : Int)))) ⟨hu11,(by (try dsimp only); omega),(few19_step hbb p16 (by omega))⟩ (by omega)
 have q17p:=of_decide_eq_false q17
 refine xt<|tx<|tx<|bx<|tn<|sg<|Pl 4<|cu 3 [21] 24 (((decide (((ls.length:Nat) : Int)≤60)) && (decide (n≤3000)))) (fun K K28=>?_) ?_
 refine bl 21 ((decide (((ls.length:Nat) : Int)≤60))) (fun q27=>?_) (fun q27=>?_)
 have q27p:=of_decide_eq_true q27
 exact Pl 3<|ce K28 (decide (n≤3000)) (by rw [q27]; rfl)
 have q27p:=of_decide_eq_false q27
 exact Pl 3<|ce K28 false (by rw [q27]; rfl)
 refine Pl 1<|nt<|rt<|rr (.bool ((decide (((ls.length:Nat) : Int)≤60)) && (decide (n≤3000))))<|?_
 have hs:((decide (((ls.length:Nat) : Int)≤60)) && (decide (n≤3000)))=few19 ls:=by first | exact few19_end p16 (by omega) | (rw [← few19_end p16 (by omega)]; simp only [q17,bs,if_true,if_false,decide_true,decide_false,Bool.true_and,Bool.false_and])
 rw [hs]
 exact ⟨rfl,hu11⟩
theorem join_len {ls:List (List Int)} {L:List Int} (h:sumL ls≤3000) (k:Nat) (hL:L=(ls.take k).flatten) : L.length + (ls.getD k []).length≤3000∨ls.length≤k:=by
  rcases Nat.lt_or_ge k ls.length with hk | hk
  · have:=sumL_part hk
    rw [hL,sumL_flat]
    exact .inl (by omega)
  · exact .inr hk
theorem join_snoc {ls:List (List Int)} {L:List Int} {k:Nat} (hL:L=(ls.take k).flatten) (hk:k < ls.length) : L++ls.getD k []=(ls.take (k + 1)).flatten:=by
  rw [take_snoc hk,List.flatten_append,hL]
  simp
def PJoin (ls:List (List Int)) (w:World) (e:Ending) (w':World) : Prop:=∃ v,e = .returned v∧OwnB w.heap.size w' v ls.flatten∧Upd [] w w'
set_option maxRecDepth 100000 in
set_option maxHeartbeats 4000000 in
theorem join19_any {m:Bool} {A:Option Addr} {cp:Nat} {ls:List (List Int)} {w:World} (h:RdBs m w (.slice A ls.length cp) ls) (hs3:sumL ls≤3000) : Calls Tryz.prog 22 #[.slice A ls.length cp] w (PJoin ls w):=by
 have hz:=RdG.len h
 refine en 18 Tryz.func22 rfl<|sg<|Pl 1<|ng<|Pl 1<|nt<|sq<|sg<|?_
 refine Pl 1<|nt<|bk<|?_
 refine glp (fun x=>[(0,.slice A ls.length cp),(2,.slice none 0 0),(3,.slice x.2.2.1 x.2.1.length x.2.2.2),(4,.int .i64 ((x.1:Nat) : Int))]) (fun (x:Nat × List Int × Option Addr × Nat) w'=>Upd [] w w'∧OwnB w.heap.size w' (.slice x.2.2.1 x.2.1.length x.2.2.2) x.2.1∧(x.1≤ls.length)∧(x.2.1=(ls.take x.1).flatten)∧(x.2.1.length + (ls.getD x.1 []).length≤3000∨ls.length≤x.1)) (fun x=>ls.length - x.1) (0,[],none,0) ⟨Upd.refl _ _,(OwnG.nil w.heap.size _ _ u8R _),(by (try dsimp only); omega),rfl,(by (try dsimp only); exact join_len hs3 0 rfl)⟩ ?_
 rintro ⟨k,L,B,cq⟩ w10 ⟨hu11,f12,p13,p14,p15⟩
 refine wkc [(0,.slice A ls.length cp),(2,.slice none 0 0),(3,.slice B L.length cq),(4,.int .i64 ((k:Nat) : Int))] ?_
 have f17:OwnB w.heap.size w10 (.slice B L.length cq) L:=f12
 have p18:k≤ls.length:=p13
 have p19:L=(ls.take k).flatten:=p14
 have p20:L.length + (ls.getD k []).length≤3000∨ls.length≤k:=p15
 refine sq<|sg<|Pl 4<|nt<|cb ((decide (((k:Nat) : Int) < ((ls.length:Nat) : Int)))) (fun q21=>?_) (fun q21=>?_)
 have q21p:=of_decide_eq_true q21
 refine skn<|sq<|bk<|go<|Pl 3<|x45 (RdBs.elt h k (by omega)) fun b22 o23 A24 cp25 hA26 hl27 hr28 hc29 hm30=>L0<|Oix ls.length k hA26 (by omega)<|L0<|Old (p:=⟨b22,o23 + k,none⟩) (v:=.slice A24 ((ls.getD k []).length) cp25) (uc hu11 hl27)<|?_
 have r31:=RdB.old hr28 hu11
 refine L0<|Oapp one_u8 (xs:=L) (ys:=(ls.getD k [])) (.int .u8 0) 1 f17 r31 (by (try simp only [List.length_append,List.length_cons,List.length_nil,putW_length]); omega) hu11.size fun A32 cp33 w34 ho35 hu36=>Pl 1<|nl<|bn<|tn<|go<|Pl 1<|L0<|Oi (((k:Nat) : Int) + 1)<|Pl 1<|nl<|?_
 have U37:=ut hu11 hu36 (all_app (ob_new f17 lr) all0)
 exact lpe ((k + 1),(L++(ls.getD k [])),A32,cp33) ⟨U37,ho35,(by (try dsimp only); omega),(by (try dsimp only); exact join_snoc p19 (by omega)),(by (try dsimp only); exact join_len hs3 _ (join_snoc p19 (by omega)))⟩ (by omega)
 have q21p:=of_decide_eq_false q21
 refine xt<|tx<|tx<|bx<|tn<|sg<|Pl 2<|nt<|rt<|rr (.slice B L.length cq)<|?_
 have hs:L=ls.flatten:=by rw [p19,List.take_of_length_le (by omega)]
 exact ⟨_,rfl,by rw [← hs]; exact f17,hu11⟩
open Go.RowKit
theorem eqn_head (a b c d:Int) (w:World) : (Op.equalIn 10000 39 (.agg #[.int .u8 a,.int .u16 b]) (.agg #[.int .u8 c,.int .u16 d])).run Tryz.prog w = .ok ((a == c) && (b == d)) w:=by
  have hS:Tryz.prog.underlying 39=some (.struct (Tryz.prog.fieldsOf 39)):=by kernel_rfl
  have hp:Tryz.prog.stoodInHeld 39=false:=by kernel_rfl
  rw [show (10000:Nat)=9998 + 1 + 1 from rfl,run_equalIn_agg w (9998 + 1) 39 _ _ hS hp]
  simp only [Program.fieldsOf,Tryz.underlying39]
  have p0:∀ v:Int,(part 5 #[.int .u8 v,.int .u16 b] 0).run Tryz.prog w = .ok (.int .u8 v) w:=fun v=>by simp [part,isAgg,run_underlying Tryz.underlying5,Result.andThen]
  have p0':∀ v:Int,(part 5 #[.int .u8 v,.int .u16 d] 0).run Tryz.prog w = .ok (.int .u8 v) w:=fun v=>by simp [part,isAgg,run_underlying Tryz.underlying5,Result.andThen]
  have p1:∀ v u:Int,(part 37 #[.int .u8 u,.int .u16 v] 1).run Tryz.prog w = .ok (.int .u16 v) w:=fun v u=>by simp [part,isAgg,run_underlying Tryz.underlying37,Result.andThen]
  have e0:=run_equalIn_int (P:=Tryz.prog) w 9998 5 .u8 _ a c Tryz.underlying5
  have e1:=run_equalIn_int (P:=Tryz.prog) w 9998 37 .u16 _ b d Tryz.underlying37
  simp only [Op.eqFields,Sem.run_bind,p0,p0',p1,e0,e1,Result.andThen_ok,ne_eq,String.reduceEq,not_false_eq_true,if_true,Sem.run_ite]
  cases (a == c) <;> cases (b == d) <;> simp
theorem run_headeq {ev:Operand→Value} {o:Oper} {x y:Operand} {t:TypeId} (a b c d:Int) {v:Bool} {w:World} (ho:o.op = .binOp .eql 39 x y t)
    (hx:ev x = .agg #[.int .u8 a,.int .u16 b]) (hy:ev y = .agg #[.int .u8 c,.int .u16 d]) (hv:((a == c) && (b == d))=v) : (execOp ev o).run Tryz.prog w = .ok (.value (.bool v)) w:=by
  subst hv
  have hg:(eqGuard .eql 39 x y (.agg #[.int .u8 a,.int .u16 b]) (.agg #[.int .u8 c,.int .u16 d])).run Tryz.prog w = .ok () w:=run_eqGuard_agg w _ _ _ _ _ _ (by kernel_rfl)
  unfold execOp
  simp only [ho,hx,hy,Sem.run_bind,hg,Result.andThen_ok,run_eql_struct,eqn_head,Sem.run_pure]
theorem run_headne {ev:Operand→Value} {o:Oper} {x y:Operand} {t:TypeId} (a b c d:Int) {v:Bool} {w:World} (ho:o.op = .binOp .neq 39 x y t)
    (hx:ev x = .agg #[.int .u8 a,.int .u16 b]) (hy:ev y = .agg #[.int .u8 c,.int .u16 d]) (hv:(!((a == c) && (b == d)))=v) : (execOp ev o).run Tryz.prog w = .ok (.value (.bool v)) w:=by
  subst hv
  have hg:(eqGuard .neq 39 x y (.agg #[.int .u8 a,.int .u16 b]) (.agg #[.int .u8 c,.int .u16 d])).run Tryz.prog w = .ok () w:=run_eqGuard_agg w _ _ _ _ _ _ (by kernel_rfl)
  unfold execOp
  simp only [ho,hx,hy,Sem.run_bind,hg,Result.andThen_ok,run_neq_struct,eqn_head,Sem.run_pure]
open Go.RowKit
deriving instance DecidableEq for Ev
theorem same19_eq (A B:Ev) : (((A.e == B.e) && ((A.f.unit == B.f.unit) && (A.f.tid == B.f.tid))) && decide (A.f.msg=B.f.msg))=decide (A=B):=by
  rw [Bool.eq_iff_iff]
  simp only [Bool.and_eq_true,beq_iff_eq,decide_eq_true_eq]
  obtain ⟨e,u,t,M⟩:=A
  obtain ⟨e2,u2,t2,M2⟩:=B
  simp only [Ev.mk.injEq,Frm.mk.injEq]
  constructor
  · rintro ⟨⟨h1,h2,h3⟩,h4⟩; exact ⟨h1,h2,h3,h4⟩
  · rintro ⟨h1,h2,h3,h4⟩; exact ⟨⟨h1,h2,h3⟩,h4⟩
theorem ev_pre {xs ys:List Ev} {k:Nat} (hk:k < xs.length) (hl:xs.length=ys.length) (h:xs.take k=ys.take k) (he:xs.getD k (Ev.bad 0)=ys.getD k (Ev.bad 0)) : xs.take (k + 1)=ys.take (k + 1):=by
  exact eqPre hl hk h he
theorem ev_all {xs ys:List Ev} {k:Nat} (h:xs.take k=ys.take k) (h1:k=xs.length) (h2:xs.length=ys.length) : decide (xs=ys)=true:=by
  rw [List.take_of_length_le (by omega),List.take_of_length_le (by omega)] at h
  exact decide_eq_true h
theorem ev_no {xs ys:List Ev} (k:Nat) (h:decide (xs.getD k (Ev.bad 0)=ys.getD k (Ev.bad 0))=false) : decide (xs=ys)=false:=by
  rw [decide_eq_false_iff_not] at h ⊢
  exact fun e=>h (by rw [e])
set_option maxRecDepth 100000 in
set_option maxHeartbeats 4000000 in
theorem same19_any {m m':Bool} {A B:Ev} {sA sB:SL} {w:World} (hA:MsgRd m w (mcl A.f.msg sA).toList A.f.msg) (hB:MsgRd m' w (mcl B.f.msg sB).toList B.f.msg) : Calls Tryz.prog 35 #[.agg (evl A sA),.agg (evl B sB)] w (PVal (.bool (decide (A=B))) w):=by
 refine en 28 Tryz.func35 rfl<|sg<|L0<|Obx (evl ⟨A.e,A.f⟩ sA) fun g10 w11 hg12 B13 hu14=>L0<|Obx (evl ⟨B.e,B.f⟩ sB) fun g15 w16 hg17 B18 hu19=>Pl 1<|ng<|Pl 1<|?_
 have r20:=ub hu19 B13
 refine L0<|Olb r20 0<|Pl 1<|L0<|Olb B18 0<|Pl 2<|cu 8 [10] 18 (((A.e == B.e) && ((A.f.unit == B.f.unit) && (A.f.tid == B.f.tid)))) (fun K K22=>?_) ?_
 refine bl 10 ((A.e == B.e)) (fun q21=>?_) (fun q21=>?_)
 have q21p:=eq_of_beqi q21
 exact Pl 2<|L1<|Ola r20 1 2<|Pl 2<|L1<|Ola B18 1 2<|L1<|Or_ (.bool ((A.f.unit == B.f.unit) && (A.f.tid == B.f.tid))) (run_headeq A.f.unit A.f.tid B.f.unit B.f.tid rfl (by kernel_rfl) (by kernel_rfl) rfl)<|Pl 1<|ce K22 ((A.f.unit == B.f.unit) && (A.f.tid == B.f.tid)) (by rw [q21]; rfl)
 have q21p:=ne_of_beqi q21
 exact Pl 8<|ce K22 false (by rw [q21]; rfl)
 refine Pl 1<|?_
 have U23:=ut0 hu14 hu19
 refine bl 19 (((A.e == B.e) && ((A.f.unit == B.f.unit) && (A.f.tid == B.f.tid)))) (fun q24=>?_) (fun q24=>?_)
 have q24a:=(and_t q24).1
 have q24b:=(and_t q24).2
 have q24ap:=eq_of_beqi q24a
 have q24ba:=(and_t q24b).1
 have q24bb:=(and_t q24b).2
 have q24bap:=eq_of_beqi q24ba
 have q24bbp:=eq_of_beqi q24bb
 refine Pl 2<|L1<|Ola r20 3 22<|Pl 2<|L1<|Ola B18 3 22<|?_
 have r25:=MsgRd.old hA U23
 have r26:=MsgRd.old hB U23
 refine L1<|Oc<|m1 (same7_any r25 r26) fun w27 hu28=>Pl 2<|nt<|rt<|rr (.bool (decide (A.f.msg=B.f.msg)))<|?_
 have hs:(decide (A.f.msg=B.f.msg))=decide (A=B):=by rw [← same19_eq]; simp only [q24,q24a,q24b,q24ba,q24bb,bs,if_true,if_false,decide_true,decide_false,Bool.true_and,Bool.false_and,Bool.and_true,Bool.and_false]
 rw [hs]
 have U29:=ut0 U23 hu28
 exact ⟨rfl,U29⟩
 refine Pl 9<|nt<|rt<|rr (.bool false)<|?_
 have hs:false=decide (A=B):=by rw [← same19_eq]; simp only [q24,bs,if_true,if_false,decide_true,decide_false,Bool.true_and,Bool.false_and,Bool.and_true,Bool.and_false]
 rw [hs]
 exact ⟨rfl,U23⟩
set_option maxRecDepth 100000 in
set_option maxHeartbeats 4000000 in
theorem all19_any {m m':Bool} {A B:Option Addr} {c d:Nat} {xs ys:List Ev} {w:World} (h1:RdE m w (.slice A xs.length c) xs) (h2:RdE m' w (.slice B ys.length d) ys) : Calls Tryz.prog 24 #[.slice A xs.length c,.slice B ys.length d] w (PVal (.bool (decide (xs=ys))) w):=by
 have hz1:=RdG.len h1
 have hz2:=RdG.len h2
 refine en 27 Tryz.func24 rfl<|sg<|Pl 1<|nt<|sq<|sg<|Pl 5<|nt<|cb ((((xs.length:Nat) : Int) != ((ys.length:Nat) : Int))) (fun q10=>?_) (fun q10=>?_)
 have q10p:=ne_of_bnei q10
 refine sg<|Pl 1<|nt<|rt<|tr<|rr (.bool false)<|?_
 have hs:decide (xs=ys)=false:=decide_eq_false (fun e=>by rw [e] at q10p; omega)
 rw [hs]
 exact ⟨rfl,(Upd.refl [] _)⟩
 have q10p:=eq_of_bnei q10
 refine skn<|sq<|sg<|Pl 1<|nt<|bk<|?_
 refine glp (fun x=>[(0,.slice A xs.length c),(1,.slice B ys.length d),(5,.int .i64 ((x:Nat) : Int))]) (fun (x:Nat) w'=>Upd [] w w'∧(xs.take x=ys.take x)∧(x≤xs.length)) (fun x=>xs.length - x) 0 ⟨Upd.refl _ _,rfl,(by (try dsimp only); omega)⟩ ?_
 rintro k w11 ⟨hu12,p13,p14⟩
 refine wkc [(0,.slice A xs.length c),(1,.slice B ys.length d),(5,.int .i64 ((k:Nat) : Int))] ?_
 have p16:xs.take k=ys.take k:=p13
 have p17:k≤xs.length:=p14
 refine sq<|sg<|Pl 4<|nt<|cb ((decide (((k:Nat) : Int) < ((xs.length:Nat) : Int)))) (fun q18=>?_) (fun q18=>?_)
 have q18p:=of_decide_eq_true q18
 refine skn<|sq<|bk<|sq<|x64 (RdE.elt h1 k (by omega) (Ev.bad 0)) fun b43 o44 cl45 t46 fr47 s48 hA49 hb50 hv51 hs52=>x64 (RdE.elt h2 k (by omega) (Ev.bad 0)) fun b53 o54 cl55 t56 fr57 s58 hA59 hb60 hv61 hs62=>Rg 10 (fun w'=>w'.heap[b43]? = some (.cells cl45 t46 fr47)∧w'.heap[b53]? = some (.cells cl55 t56 fr57)) fun w67 hu68=>?_
 have U70:=ut0 hu12 hu68
 have r71:=ub U70 hb50
 have r72:=ub U70 hb60
 refine hld ⟨r71,r72⟩ fun hS69=>Rt 0 hS69<|Rt 1 hS69<|Ri 2 hS69 25 xs.length k ((k:Nat) : Int) rfl hA49 (by omega)<|Rr 3 hS69 (.agg (evl ⟨(xs.getD k (Ev.bad 0)).e,(xs.getD k (Ev.bad 0)).f⟩ s48)) (fun w' hs=>lda_o (g:=b43) (off:=o44 + k * 25) [.int .i64 ((xs.getD k (Ev.bad 0)).e),.int .u8 ((xs.getD k (Ev.bad 0)).f.unit),.int .u16 ((xs.getD k (Ev.bad 0)).f.tid),.int .u8 ((xs.getD k (Ev.bad 0)).f.msg.code),.int .u8 ((xs.getD k (Ev.bad 0)).f.msg.fail),.int .u16 ((xs.getD k (Ev.bad 0)).f.msg.addr),.int .u16 ((xs.getD k (Ev.bad 0)).f.msg.count),.int .u16 ((xs.getD k (Ev.bad 0)).f.msg.value),.int .u16 ((xs.getD k (Ev.bad 0)).f.msg.and_),.int .u16 ((xs.getD k (Ev.bad 0)).f.msg.or_),.int .u16 ((xs.getD k (Ev.bad 0)).f.msg.addr2),.int .u16 ((xs.getD k (Ev.bad 0)).f.msg.sub),.int .u16 ((xs.getD k (Ev.bad 0)).f.msg.status),.int .u16 ((xs.getD k (Ev.bad 0)).f.msg.events),.int .u16 ((xs.getD k (Ev.bad 0)).f.msg.messages),.slice s48.aw ((xs.getD k (Ev.bad 0)).f.msg.words.length) s48.kw,.slice s48.ab ((xs.getD k (Ev.bad 0)).f.msg.bits.length) s48.kb,.slice s48.ad ((xs.getD k (Ev.bad 0)).f.msg.data.length) s48.kd,.slice s48.ar ((xs.getD k (Ev.bad 0)).f.msg.recs.length) s48.kr,.int .u8 ((xs.getD k (Ev.bad 0)).f.msg.mei),.int .u8 ((xs.getD k (Ev.bad 0)).f.msg.kind),.int .u8 ((xs.getD k (Ev.bad 0)).f.msg.level),.int .u8 ((xs.getD k (Ev.bad 0)).f.msg.more),.int .u8 ((xs.getD k (Ev.bad 0)).f.msg.next),.slice s48.ao ((xs.getD k (Ev.bad 0)).f.msg.objects.length) s48.ko] rfl (by kernel_rfl) hs.1 (by kernel_rfl) (by kernel_rfl) hs52)<|Rt 4 hS69<|Rt 5 hS69<|Ri 6 hS69 25 ys.length k ((k:Nat) : Int) rfl hA59 (by omega)<|Rr 7 hS69 (.agg (evl ⟨(ys.getD k (Ev.bad 0)).e,(ys.getD k (Ev.bad 0)).f⟩ s58)) (fun w' hs=>lda_o (g:=b53) (off:=o54 + k * 25) [.int .i64 ((ys.getD k (Ev.bad 0)).e),.int .u8 ((ys.getD k (Ev.bad 0)).f.unit),.int .u16 ((ys.getD k (Ev.bad 0)).f.tid),.int .u8 ((ys.getD k (Ev.bad 0)).f.msg.code),.int .u8 ((ys.getD k (Ev.bad 0)).f.msg.fail),.int .u16 ((ys.getD k (Ev.bad 0)).f.msg.addr),.int .u16 ((ys.getD k (Ev.bad 0)).f.msg.count),.int .u16 ((ys.getD k (Ev.bad 0)).f.msg.value),.int .u16 ((ys.getD k (Ev.bad 0)).f.msg.and_),.int .u16 ((ys.getD k (Ev.bad 0)).f.msg.or_),.int .u16 ((ys.getD k (Ev.bad 0)).f.msg.addr2),.int .u16 ((ys.getD k (Ev.bad 0)).f.msg.sub),.int .u16 ((ys.getD k (Ev.bad 0)).f.msg.status),.int .u16 ((ys.getD k (Ev.bad 0)).f.msg.events),.int .u16 ((ys.getD k (Ev.bad 0)).f.msg.messages),.slice s58.aw ((ys.getD k (Ev.bad 0)).f.msg.words.length) s58.kw,.slice s58.ab ((ys.getD k (Ev.bad 0)).f.msg.bits.length) s58.kb,.slice s58.ad ((ys.getD k (Ev.bad 0)).f.msg.data.length) s58.kd,.slice s58.ar ((ys.getD k (Ev.bad 0)).f.msg.recs.length) s58.kr,.int .u8 ((ys.getD k (Ev.bad 0)).f.msg.mei),.int .u8 ((ys.getD k (Ev.bad 0)).f.msg.kind),.int .u8 ((ys.getD k (Ev.bad 0)).f.msg.level),.int .u8 ((ys.getD k (Ev.bad 0)).f.msg.more),.int .u8 ((ys.getD k (Ev.bad 0)).f.msg.next),.slice s58.ao ((ys.getD k (Ev.bad 0)).f.msg.objects.length) s58.ko] rfl (by kernel_rfl) hs.2 (by kernel_rfl) (by kernel_rfl) hs62)<|?_
 have r73:=MsgRd.old (hv51.1) U70
 have r74:=MsgRd.old (hv61.1) U70
 refine R0 8 rfl<|Oc<|m1 (same19_any (A:=(xs.getD k (Ev.bad 0))) (B:=(ys.getD k (Ev.bad 0))) r73 r74) fun w75 hu76=>?_
 have r78:=ub hu76 r71
 have r79:=ub hu76 r72
 refine hld ⟨r78,r79⟩ fun hS77=>Rt 9 hS77<|re<|tn<|?_
 have U80:=ut0 U70 hu76
 refine cb ((!(decide ((xs.getD k (Ev.bad 0))=(ys.getD k (Ev.bad 0)))))) (fun q81=>?_) (fun q81=>?_)
 have q81n:(decide ((xs.getD k (Ev.bad 0))=(ys.getD k (Ev.bad 0))))=false:=by simpa using q81
 have q81np:=of_decide_eq_false q81n
 refine sg<|Pl 1<|nt<|rt<|br<|tr<|tr<|br<|tr<|rr (.bool false)<|?_
 have hs:decide (xs=ys)=false:=ev_no k q81n
 rw [hs]
 exact ⟨rfl,U80⟩
 have q81n:(decide ((xs.getD k (Ev.bad 0))=(ys.getD k (Ev.bad 0))))=true:=by simpa using q81
 have q81np:=of_decide_eq_true q81n
 exact sk<|bn<|tn<|go<|Pl 1<|L0<|Oi (((k:Nat) : Int) + 1)<|Pl 1<|nl<|lpe (k + 1) ⟨U80,(ev_pre (by omega) (by omega) p16 (of_decide_eq_true q81n)),(by (try dsimp only); omega)⟩ (by omega)
 have q18p:=of_decide_eq_false q18
 refine xt<|tx<|tx<|bx<|tn<|sg<|Pl 1<|nt<|rt<|rr (.bool true)<|?_
 have hs:decide (xs=ys)=true:=ev_all p16 (by omega) (by omega)
 rw [hs]
 exact ⟨rfl,hu12⟩
open Go.RowKit
def awM7:Msg:={ Msg.zero with code:=7 }
theorem aw7rd (w:World) : MsgRd true w (mC 7).toList awM7:=⟨nilS,nilS,nilS,nilS,nilS,rfl,RdG.nil ..,RdG.nil ..,RdG.nil ..,RdG.nil ..,RdG.nil ..,{ MsgRng.zero with code:=(by decide:(0:Int)≤7∧(7:Int) < 256) }⟩
theorem aw7few:MsgFew awM7:=⟨by decide,by decide,by decide,by decide,(fun r h=>nomatch h),by decide,(fun r h=>nomatch h)⟩
open Go.RowKit
theorem aw20a:SA.feed (SA.mk 0 []) [58,48,49]=((SA.mk 0 [58,48,49]),[]):=by kernel_rfl
theorem aw20b:SA.feed (SA.mk 0 [58,48,49]) [48,55,70,56,13,10]=((SA.mk 0 []),[⟨0,⟨1,0,awM7⟩⟩]):=by kernel_rfl
theorem aw20c:SA.feed (SA.mk 0 []) [58,48,49,58,48,49,48,55,70,56,13,10]=((SA.mk 0 []),[Ev.bad 12,⟨0,⟨1,0,awM7⟩⟩]):=by kernel_rfl
set_option maxRecDepth 100000 in
set_option maxHeartbeats 4000000 in
theorem awake20 {w:World}:Calls Tryz.prog 37 #[] w (PVal (.bool true) w):=by
 refine en 73 Tryz.func37 rfl<|sg<|Pl 1<|ng<|L0<|Oc<|e3 (sas_new 0 sasc_new0) fun g10 w11 hg12 hA13 hu14=>Pl 1<|nt<|sq<|sq<|?_
 refine go<|Pl 2<|nt<|c0<|skn<|sg<|Pl 1<|L0<|Olt (m:=3) (e:=5) #[.int .u8 58,.int .u8 48,.int .u8 49] fun g15 w16 hg17 B18 hu19=>?_
 have ow20:=litB hg17 (xs:=[58,48,49]) (by as_aux_lemma=>kernel_rfl) (rng_cons (by omega) (rng_cons (by omega) (rng_cons (by omega) rng_nil))) (by (try simp only [List.length_cons,List.length_nil]); omega) B18
 refine L0<|Ocvs (m:=3) (c:=3) B18 fun w21 B22 hu23=>?_
 have hr24:=lit_frz B22 (xs:=[58,48,49]) (by as_aux_lemma=>kernel_rfl) (rng_cons (by omega) (rng_cons (by omega) (rng_cons (by omega) rng_nil))) (by (try simp only [List.length_cons,List.length_nil]); omega)
 have U25:=u1 hu19 hu23 (nr hg17)
 have r26:=SasAt.upd hA13 U25 not0 ob_none_not
 have ne27:=nb (SasAt.lt hA13) lr hg17
 refine L0<|Oc (args:=#[.pointer (some ⟨g10,0,none⟩),.slice (some ⟨g15,0,none⟩) 3 3])<|?_
 refine (sas_feed_x aw20a r26 hr24 (far_blk (Ne.symm ne27)) far_none (by decide)).mono ?_
 rintro _ w35 ⟨v31,A32,cp33,n34,rfl,ho36,hA37,hat38,hn39,hu40⟩
 refine ⟨_,rfl,?_⟩
 have hu41:Upd [g10] w21 w35:=hu40
 have rd46:=ho36
 obtain ⟨A42,cp43,rfl,hl44,hm45⟩:=RdG.shape rd46.rd
 refine Pl 1<|ng<|Pl 1<|L0<|Oc<|m1 (sas_held hA37) fun w47 hu48=>Pl 1<|ng<|Pl 1<|L0<|Olt (m:=6) (e:=5) #[.int .u8 48,.int .u8 55,.int .u8 70,.int .u8 56,.int .u8 13,.int .u8 10] fun g49 w50 hg51 B52 hu53=>?_
 have ow54:=litB hg51 (xs:=[48,55,70,56,13,10]) (by as_aux_lemma=>kernel_rfl) (rng_cons (by omega) (rng_cons (by omega) (rng_cons (by omega) (rng_cons (by omega) (rng_cons (by omega) (rng_cons (by omega) rng_nil)))))) (by (try simp only [List.length_cons,List.length_nil]); omega) B52
 refine L0<|Ocvs (m:=6) (c:=6) B52 fun w55 B56 hu57=>?_
 have hr58:=lit_frz B56 (xs:=[48,55,70,56,13,10]) (by as_aux_lemma=>kernel_rfl) (rng_cons (by omega) (rng_cons (by omega) (rng_cons (by omega) (rng_cons (by omega) (rng_cons (by omega) (rng_cons (by omega) rng_nil)))))) (by (try simp only [List.length_cons,List.length_nil]); omega)
 have U59:=ut0 hu48 hu53
 have U60:=u1 U59 hu57 (ni hu48.size hg51)
 have r61:=SasAt.upd hA37 U60 not0 (fun x hx=>not0)
 have ne62:=nb (SasAt.lt hA13) (le (le (le hu19.size hu23.size) hu41.size) hu48.size) hg51
 refine L0<|Oc (args:=#[.pointer (some ⟨g10,0,none⟩),.slice (some ⟨g49,0,none⟩) 6 6])<|?_
 refine (sas_feed_x aw20b r61 hr58 (far_blk (Ne.symm ne62)) (far_nrow (not_young (SasAt.row hA37) hu48.size hg51)) (by decide)).mono ?_
 rintro _ w70 ⟨v66,A67,cp68,n69,rfl,ho71,hA72,hat73,hn74,hu75⟩
 refine ⟨_,rfl,?_⟩
 have rd80:=ho71
 obtain ⟨A76,cp77,rfl,hl78,hm79⟩:=RdG.shape rd80.rd
 refine Pl 1<|ng<|Pl 1<|L0<|Olt (m:=12) (e:=5) #[.int .u8 58,.int .u8 48,.int .u8 49,.int .u8 58,.int .u8 48,.int .u8 49,.int .u8 48,.int .u8 55,.int .u8 70,.int .u8 56,.int .u8 13,.int .u8 10] fun g81 w82 hg83 B84 hu85=>?_
 have ow86:=litB hg83 (xs:=[58,48,49,58,48,49,48,55,70,56,13,10]) (by as_aux_lemma=>kernel_rfl) (rng_cons (by omega) (rng_cons (by omega) (rng_cons (by omega) (rng_cons (by omega) (rng_cons (by omega) (rng_cons (by omega) (rng_cons (by omega) (rng_cons (by omega) (rng_cons (by omega) (rng_cons (by omega) (rng_cons (by omega) (rng_cons (by omega) rng_nil)))))))))))) (by (try simp only [List.length_cons,List.length_nil]); omega) B84
 refine L0<|Ocvs (m:=12) (c:=12) B84 fun w87 B88 hu89=>?_
 have hr90:=lit_frz B88 (xs:=[58,48,49,58,48,49,48,55,70,56,13,10]) (by as_aux_lemma=>kernel_rfl) (rng_cons (by omega) (rng_cons (by omega) (rng_cons (by omega) (rng_cons (by omega) (rng_cons (by omega) (rng_cons (by omega) (rng_cons (by omega) (rng_cons (by omega) (rng_cons (by omega) (rng_cons (by omega) (rng_cons (by omega) (rng_cons (by omega) rng_nil)))))))))))) (by (try simp only [List.length_cons,List.length_nil]); omega)
 have U91:=u1 hu85 hu89 (nr hg83)
 have r92:=SasAt.upd hA72 U91 not0 (fun x hx=>not0)
 have ne93:=nb (SasAt.lt hA13) (le (le (le (le (le (le hu19.size hu23.size) hu41.size) hu48.size) hu53.size) hu57.size) hu75.size) hg83
 refine L0<|Oc (args:=#[.pointer (some ⟨g10,0,none⟩),.slice (some ⟨g81,0,none⟩) 12 12])<|?_
 refine (sas_feed_x aw20c r92 hr90 (far_blk (Ne.symm ne93)) (far_nrow (not_young (SasAt.row hA72) lr hg83)) (by decide)).mono ?_
 rintro _ w101 ⟨v97,A98,cp99,n100,rfl,ho102,hA103,hat104,hn105,hu106⟩
 refine ⟨_,rfl,?_⟩
 have rd111:=ho102
 obtain ⟨A107,cp108,rfl,hl109,hm110⟩:=RdG.shape rd111.rd
 refine Pl 1<|nt<|sq<|sg<|Pl 8<|nt<|c0<|skn<|sg<|?_
 refine Pl 9<|?_
 have U112:=ut (Upd.mono (S':=(g10 :: (ob A67++[]))) U91 all0) hu106 (ac im (all_app (fun x hx=>Or.inl (by simp [hx])) all0))
 have r113:=own_stay rd80 U112 (fun x hx=>(not_cons (fun e=>(not_old (SasAt.lt hA13) (le (le (le (le (le hu19.size hu23.size) hu41.size) hu48.size) hu53.size) hu57.size) rd80) (e ▸ hx)) (not_app ((rows_type rd80 (SasAt.row hA72) (by decide)) x hx) not0))) (fun x cs q=>evLow.upd U112 (apt_s (SasAt.cells hA72) (by decide) (apt_n (low_le (Nat.le_refl _) (SasAt.low hA72)) apt_nil)) q)
 refine x64 (RdE.elt (OwnV.own r113).rd 0 (by decide) (Ev.bad 0)) fun b114 o115 cl116 t117 fr118 s119 hA120 hb121 hv122 hs123=>L1<|Oixs 25 1 0 hA120 (by omega)<|Pl 1<|L1<|Old (p:=⟨b114,o115 + 0 * 25 + 0,none⟩) (v:=.int .i64 0) (el_at hb121 hs123 0 (by kernel_rfl) (by decide))<|Pl 4<|L1<|Oixs 25 1 0 hA120 (by omega)<|Pl 3<|L1<|Old (p:=⟨b114,o115 + 0 * 25 + 1 + 2 + 0,none⟩) (v:=.int .u8 7) (el_at hb121 hs123 3 (by kernel_rfl) (by decide))<|Pl 4<|x64 (RdE.elt (OwnV.own rd111).rd 0 (by decide) (Ev.bad 0)) fun b124 o125 cl126 t127 fr128 s129 hA130 hb131 hv132 hs133=>L1<|Oixs 25 2 0 hA130 (by omega)<|Pl 1<|L1<|Old (p:=⟨b124,o125 + 0 * 25 + 0,none⟩) (v:=.int .i64 12) (el_at hb131 hs133 0 (by kernel_rfl) (by decide))<|Pl 4<|x64 (RdE.elt (OwnV.own rd111).rd 1 (by decide) (Ev.bad 0)) fun b134 o135 cl136 t137 fr138 s139 hA140 hb141 hv142 hs143=>?_
 refine L1<|Oixs 25 2 1 hA140 (by omega)<|Pl 1<|L1<|Old (p:=⟨b134,o135 + 1 * 25 + 0,none⟩) (v:=.int .i64 0) (el_at hb141 hs143 0 (by kernel_rfl) (by decide))<|Pl 4<|L1<|Oc<|m1 (sas_held hA103) fun w144 hu145=>Pl 3<|nt<|rt<|rr (.bool true)<|?_
 have U146:=ut0 hu14 hu19
 have U147:=u1 U146 hu23 (ni hu14.size hg17)
 have U148:=u1 U147 hu41 (nr hg12)
 have U149:=ut0 U148 hu48
 have U150:=ut0 U149 hu53
 have U151:=u1 U150 hu57 (ni U149.size hg51)
 have U152:=ut U151 hu75 (ac (nr hg12) (all_app (ob_new (SasAt.row hA37) lr) all0))
 have U153:=ut0 U152 hu85
 have U154:=u1 U153 hu89 (ni U152.size hg83)
 have U155:=ut U154 hu106 (ac (nr hg12) (all_app (ob_new (SasAt.row hA72) lr) all0))
 have U156:=ut0 U155 hu145
 exact ⟨rfl,U156⟩
end Go.Proofs.YtgjlbabefogepaaGreat
