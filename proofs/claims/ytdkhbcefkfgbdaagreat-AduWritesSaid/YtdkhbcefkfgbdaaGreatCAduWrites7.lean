/- Contracts of functions, part CAduWrites7. -/
import Derived.Test.YtdkhbcefkfgbdaaGreatCAduWrites1
import Derived.Test.YtdkhbcefkfgbdaaGreatCAduWrites2
import Derived.Test.YtdkhbcefkfgbdaaGreatCAduWrites3
import Derived.Test.YtdkhbcefkfgbdaaGreatCAduWrites4
import Derived.Test.YtdkhbcefkfgbdaaGreatCAduWrites5
import Derived.Test.YtdkhbcefkfgbdaaGreatCAduWrites6
import Derived.Deep.Slices
import Derived.ChangeArms
import Derived.WideShapes
set_option linter.unusedVariables false
set_option linter.unusedSimpArgs false
set_option maxRecDepth 100000
set_option maxHeartbeats 4000000
namespace Go.Proofs.YtdkhbcefkfgbdaaGreat
open Go.RowKit
theorem pi{w:World}{k dir:Int}{u t:Int}{M:aU}{xM:SL}{mM:Md}(hM:aJ mM w (fb M xM).toList M)(hbu:0≤u∧u<256)(hbt:0≤t∧t<65536) :
    Calls Tryz.prog 5 #[vI k,vI dir,.agg (ed u t M xM)] w (cl (.bool true) w):=by
 have hRM:=hM.rngs
 obtain⟨hcM,hdM⟩:=hRM
 refine en 45 Tryz.func5 rfl<|sg<|L0<|d6 (ed u t M xM) fun G H I q r=>Pl 1<|ng<|ay<|m1 (@zY _) fun J l=>ai 1<|sq<|go<|Pl 1<|?_
 have m:=ub l q
 refine L0<|mg m 2 22<|?_
 have n:=aI r l
 have o:=aJ.old hM n
 refine ay<|m1 (At o) fun K e=>ai 1<|sq<|aE 2<|?_
 have f:=aI n e
 refine cb ((!(iU M))) (fun g=>?_) (fun g=>?_)
 have c:(iU M)=false:=by simpa using g
 exact aE 2<|aX<|rr (.bool true)<|⟨rfl,f⟩
 have c:(iU M)=true:=by simpa using g
 refine bj<|al 2<|?_
 have h:=ub e m
 refine L0<|bN h<|?_
 have d:=aJ.old o e
 refine wo (iF k dir u t M) (fun b=>?_) (fun a b=>?_)
 refine ay<|m1 (rR d (kM c) (by omega) (by omega) b) fun L i=>Pl 5<|aM 2<|?_
 refine L0<|bN (ub i h)<|?_
 refine ay<|m1 (pT (aJ.old d i) (kM c) (by omega) (by omega) b) fun N s=>Pl 5<|aM 9<|L1<|Oc (args:=#[nS,nS])<|m1 (jD (xs:=([] : List Int)) (ys:=[]) (aS.nil true _ _ _ _) (aS.nil true _ _ _ _)) fun O v=>ai 2<|rt<|rr (.bool (decide (([] : List Int)=[])))<|?_
 have hs:(decide (([] : List Int)=[]))=true:=by first | (simp;done) | (exfalso;simp_all)
 rw[hs]
 exact⟨rfl,(aI f (aI i (aI s v)))⟩
 have P:=zf (d.rngs).1 b
 refine ay<|e2 (s6 d (kM c) (by omega) (by omega) b) fun Q R x j=>?_
 obtain⟨y,z,rfl,A,S⟩:=fU.shape x
 refine Pl 5<|aM 2<|?_
 refine L0<|bN (ub j h)<|?_
 refine ay<|e2 (pz (aJ.old d j) (kM c) (by omega) (by omega) b) fun T U B p=>?_
 obtain⟨C,D,rfl,E,V⟩:=fU.shape B
 refine Pl 5<|aM 9<|?_
 refine L1<|Oc (args:=#[.slice y a.length z,.slice C a.length D])<|m1 (jD (xs:=a) (ys:=a) (aZ.upd' A p aN) E) fun W F=>ai 2<|rt<|rr (.bool (decide (a=a)))<|?_
 have hs:(decide (a=a))=true:=by first | (simp;done) | (exfalso;simp_all)
 rw[hs]
 exact⟨rfl,(aI f (aI j (aI p F)))⟩
open Go.RowKit
section
variable {H:Type}{enc:TypeId × Value→H}{P:Program}{w:World}{base:Nat}{spare:Nat→Bool}{held:Bool}
theorem qV(b off:Nat)(sp:Option Nat)(n:Nat)(h:sp=none) : (⟨b,off,sp⟩ : Addr).add n=⟨b,off+n,none⟩:=jQ b off n sp h
theorem uO{b off:Nat}{sp:Option Nat}{v:Value}(h:w.cell? ⟨b,off,sp⟩=some v) : sp=none:=by
  cases sp with
  | none=>rfl
  | some s =>
    unfold World.cell? at h
    simp at h
    split at h<;>cases h
theorem yC{α:Type}{Pd:DataW H→Prop}{R:World→α→List Value→Prop}{t e:TypeId}{sz fuel:Nat}{cs:List Value}{x:DataW H × List MemPlace}(ht:P.underlying t=some (.slice e))(hsz:P.cellsOf e=sz)(hp:0<sz)
    (hel:∀ n cs' y,cs'.length=sz→DataW.trod enc P w base spare held n e cs'=some y→Pd y.1→∃ x,R w x cs') (hP:∀ elems spare,x.1 = .slice elems spare→∀ d,d∈elems→Pd d) (h:DataW.trod enc P w base spare held fuel t cs=some x) : ∃ v xs,cs=[v]∧aS false e sz R w v xs:=by
  rcases Go.Deep.open_slice ht h with⟨rfl,_⟩|⟨a,len,cap,m,n,D,Pl,rfl,_,hl,hm,hmm,hxe,hx⟩
  · exact⟨_,[],rfl,aS.nil ..⟩
  have hlm:len≤m:=by rw[hmm];split<;>omega
  have key:∀ i:Fin len,∃ y:α × List Value,w.cells? base (a.add (i*sz)) sz=some y.2∧y.2.length=sz∧R w y.1 y.2:=fun i=>by
    obtain⟨cs',h1,h2⟩:=hx i (by omega)
    rw[hsz] at h1
    obtain⟨_,hlen,_⟩:=World.cells?_some h1
    obtain⟨y,hy⟩:=hel n cs' _ hlen h2 (hP _ _ (by rw[hxe]) _ (List.mem_map.2 ⟨i.1,List.mem_range.2 i.2,rfl⟩))
    exact⟨(y,cs'),h1,hlen,hy⟩
  obtain⟨f,hf⟩:=Classical.axiomOfChoice key
  refine⟨_,List.ofFn fun i=>(f i).1,rfl,some a,cap,by simp,by simpa using hl,hm,(fun h=>by cases h),fun hpos=>?_⟩
  have hpos':0<len:=by simpa using hpos
  obtain⟨b,off,sp⟩:=a
  have hsp:sp=none:=by
    obtain⟨h1,h2,_⟩:=hf ⟨0,hpos'⟩
    obtain⟨_,_,h3⟩:=World.cells?_some h1
    have h4:=h3 0 hp
    rw[List.getElem?_eq_getElem (by omega)] at h4
    cases sp with
    | none=>rfl
    | some s =>
      simp[Addr.add] at h4
      exact uO h4
  subst hsp
  have hc:∀ i:Fin len,∀ k u,(f i).2[k]? = some u→w.cell? ⟨b,off+i*sz+k,none⟩=some u:=fun i k u hu=>by
    obtain⟨h1,h2,_⟩:=hf i
    obtain⟨_,_,h3⟩:=World.cells?_some h1
    have hk:k<sz:=by have:=(List.getElem?_eq_some_iff.1 hu).1;omega
    have h4:=h3 k hk
    rw[qV _ _ _ _ rfl,qV _ _ _ _ rfl] at h4
    rw[h4,hu]
  have h0:∃ u,w.cell? ⟨b,off+0*sz+0,none⟩=some u:=by
    obtain⟨_,h2,_⟩:=hf ⟨0,hpos'⟩
    exact⟨_,hc ⟨0,hpos'⟩ 0 _ (List.getElem?_eq_getElem (by omega))⟩
  obtain⟨u,hu⟩:=h0
  unfold World.cell? at hu
  split at hu
  · rename_i cells t' fr hb
    refine⟨b,off,cells,t',fr,rfl,hb,fun h=>(by cases h),fun j y hj=>?_⟩
    have hjl:j<len:=by have:=(List.getElem?_eq_some_iff.1 hj).1;simpa using this
    have hy:(f ⟨j,hjl⟩).1=y:=by
      rw[List.getElem?_ofFn] at hj
      simpa [hjl] using hj
    obtain⟨_,h2,h3⟩:=hf ⟨j,hjl⟩
    refine⟨(f ⟨j,hjl⟩).2,h2,by rw[← hy];exact h3,fun i u hi=>?_⟩
    have:=hc ⟨j,hjl⟩ i u hi
    rw[bF hb] at this
    exact this
  · cases hu
theorem kH{α:Type}{R:World→α→List Value→Prop}{t e:TypeId}{sz fuel:Nat}{cs:List Value}{x:DataW H × List MemPlace}(ht:P.underlying t=some (.slice e))(hsz:P.cellsOf e=sz)(hp:0<sz)
    (hel:∀ n cs' y,cs'.length=sz→DataW.trod enc P w base spare held n e cs'=some y→∃ x,R w x cs') (h:DataW.trod enc P w base spare held fuel t cs=some x) : ∃ v xs,cs=[v]∧aS false e sz R w v xs :=
  yC (Pd:=fun _=>True) ht hsz hp (fun n cs' y h1 h2 _=>hel n cs' y h1 h2) (fun _ _ _ _ _=>trivial) h
end
section
variable {H:Type}{enc:TypeId × Value→H}{w:World}{base:Nat}{spare:Nat→Bool}{held:Bool}{n:Nat}{y:DataW H × List MemPlace}
theorem sG{n:Int}(h:(Lit.int .u16 n).wf=true) : 0≤n∧n<65536:=by
  have:=bounds_u16 h
  omega
theorem jP{cs:List Value}(h:DataW.trod enc Tryz.prog w base spare held n 5 cs=some y) : ∃ x,wx w x cs:=by
  obtain⟨k,rfl,_,hw⟩:=DataW.trod_int Tryz.underlying5 h
  exact⟨k,rfl,vf hw⟩
theorem eY{cs:List Value}(h:DataW.trod enc Tryz.prog w base spare held n 37 cs=some y) : ∃ x,uU w x cs:=by
  obtain⟨k,rfl,_,hw⟩:=DataW.trod_int Tryz.underlying37 h
  exact⟨k,rfl,sG hw⟩
theorem AH{cs:List Value}(h:DataW.trod enc Tryz.prog w base spare held n 4 cs=some y) : ∃ x,oe w x cs:=by
  obtain⟨k,rfl,_⟩:=DataW.trod_bool Tryz.underlying4 h
  exact⟨k,rfl⟩
theorem Be{cs:List Value}(h:DataW.trod enc Tryz.prog w base spare held n 27 cs=some y) : ∃ v xs,cs=[v]∧aZ false w v xs:=kH Tryz.underlying27 (by kernel_rfl) (by decide) (fun _ _ _ _ h=>jP h) h
theorem yg{cs:List Value}(h:DataW.trod enc Tryz.prog w base spare held n 40 cs=some y) : ∃ v xs,cs=[v]∧ey false w v xs:=kH Tryz.underlying40 (by kernel_rfl) (by decide) (fun _ _ _ _ h=>eY h) h
theorem Ae{cs:List Value}(h:DataW.trod enc Tryz.prog w base spare held n 41 cs=some y) : ∃ v xs,cs=[v]∧j6 false w v xs:=kH Tryz.underlying41 (by kernel_rfl) (by decide) (fun _ _ _ _ h=>AH h) h
end
open Go.RowKit
theorem fc{cs:List Value}{o:Nat}{v:Value}(h:(cs.drop o).take 1=[v]) : cs.drop o=v :: cs.drop (o+1):=by
  cases hd:cs.drop o with
  | nil=>rw[hd] at h;cases h
  | cons a l =>
    rw[hd] at h
    have h1:a=v:=by simpa using h
    rw[h1,← List.drop_drop,hd]
    rfl
theorem kI{cs:List Value}{n:Nat}(h:cs.length=n) : cs.drop n=[]:=by rw[← h];simp
section
variable {H:Type}{enc:TypeId × Value→H}{w:World}{base:Nat}{spare:Nat→Bool}{held:Bool}{n:Nat}{y:DataW H × List MemPlace}
theorem Cy{cs:List Value}(h:DataW.trod enc Tryz.prog w base spare held n 98 cs=some y) : ∃ x,bI false w x cs:=by
  obtain⟨xs,m,rfl,_,hlen,hxs,hf⟩:=DataW.trod_struct Tryz.underlying98 h
  rw[show Tryz.prog.cellsOf 98=4 from by kernel_rfl] at hlen
  replace hxs:xs.length=4:=hxs.trans (by kernel_rfl)
  obtain⟨y0,g0⟩ : ∃ y,xs[0]? = some y:=⟨_,List.getElem?_eq_getElem (show 0<xs.length by omega)⟩
  have f0:DataW.trod enc Tryz.prog w base spare held m 37 ((cs.drop 0).take (Tryz.prog.cellsOf 37))=xs[0]?:=hf 0 _ rfl
  rw[g0] at f0
  rw[show Tryz.prog.cellsOf 37=1 from by kernel_rfl] at f0
  obtain⟨x0,e0,r0⟩:=eY f0
  obtain⟨y1,g1⟩ : ∃ y,xs[1]? = some y:=⟨_,List.getElem?_eq_getElem (show 1<xs.length by omega)⟩
  have f1:DataW.trod enc Tryz.prog w base spare held m 37 ((cs.drop 1).take (Tryz.prog.cellsOf 37))=xs[1]?:=hf 1 _ rfl
  rw[g1] at f1
  rw[show Tryz.prog.cellsOf 37=1 from by kernel_rfl] at f1
  obtain⟨x1,e1,r1⟩:=eY f1
  obtain⟨y2,g2⟩ : ∃ y,xs[2]? = some y:=⟨_,List.getElem?_eq_getElem (show 2<xs.length by omega)⟩
  have f2:DataW.trod enc Tryz.prog w base spare held m 37 ((cs.drop 2).take (Tryz.prog.cellsOf 37))=xs[2]?:=hf 2 _ rfl
  rw[g2] at f2
  rw[show Tryz.prog.cellsOf 37=1 from by kernel_rfl] at f2
  obtain⟨x2,e2,r2⟩:=eY f2
  obtain⟨y3,g3⟩ : ∃ y,xs[3]? = some y:=⟨_,List.getElem?_eq_getElem (show 3<xs.length by omega)⟩
  have f3:DataW.trod enc Tryz.prog w base spare held m 40 ((cs.drop 3).take (Tryz.prog.cellsOf 40))=xs[3]?:=hf 3 _ rfl
  rw[g3] at f3
  rw[show Tryz.prog.cellsOf 40=1 from by kernel_rfl] at f3
  obtain⟨v3,l3,e3,r3⟩:=yg f3
  have hcs:cs=[.int .u16 x0,.int .u16 x1,.int .u16 x2,v3]:=by
    show cs.drop 0=_
    rw[fc e0,fc e1,fc e2,fc e3,kI hlen]
  subst hcs
  exact⟨⟨x0,x1,x2,l3⟩,_,rfl,r3,r0,r1,r2⟩
theorem Bt{cs:List Value}(h:DataW.trod enc Tryz.prog w base spare held n 42 cs=some y) : ∃ v xs,cs=[v]∧nc false w v xs:=kH Tryz.underlying42 (by kernel_rfl) (by decide) (fun _ _ _ _ h=>Cy h) h
theorem C6{cs:List Value}(h:DataW.trod enc Tryz.prog w base spare held n 100 cs=some y) : ∃ x,dw false w x cs:=by
  obtain⟨xs,m,rfl,_,hlen,hxs,hf⟩:=DataW.trod_struct Tryz.underlying100 h
  rw[show Tryz.prog.cellsOf 100=2 from by kernel_rfl] at hlen
  replace hxs:xs.length=2:=hxs.trans (by kernel_rfl)
  obtain⟨y0,g0⟩ : ∃ y,xs[0]? = some y:=⟨_,List.getElem?_eq_getElem (show 0<xs.length by omega)⟩
  have f0:DataW.trod enc Tryz.prog w base spare held m 5 ((cs.drop 0).take (Tryz.prog.cellsOf 5))=xs[0]?:=hf 0 _ rfl
  rw[g0] at f0
  rw[show Tryz.prog.cellsOf 5=1 from by kernel_rfl] at f0
  obtain⟨x0,e0,r0⟩:=jP f0
  obtain⟨y1,g1⟩ : ∃ y,xs[1]? = some y:=⟨_,List.getElem?_eq_getElem (show 1<xs.length by omega)⟩
  have f1:DataW.trod enc Tryz.prog w base spare held m 27 ((cs.drop 1).take (Tryz.prog.cellsOf 27))=xs[1]?:=hf 1 _ rfl
  rw[g1] at f1
  rw[show Tryz.prog.cellsOf 27=1 from by kernel_rfl] at f1
  obtain⟨v1,l1,e1,r1⟩:=Be f1
  have hcs:cs=[.int .u8 x0,v1]:=by
    show cs.drop 0=_
    rw[fc e0,fc e1,kI hlen]
  subst hcs
  exact⟨⟨x0,l1⟩,_,rfl,r1,r0⟩
theorem BD{cs:List Value}(h:DataW.trod enc Tryz.prog w base spare held n 43 cs=some y) : ∃ v xs,cs=[v]∧o0 false w v xs:=kH Tryz.underlying43 (by kernel_rfl) (by decide) (fun _ _ _ _ h=>C6 h) h
theorem yS{cs:List Value}(h:DataW.trod enc Tryz.prog w base spare held n 45 cs=some y) : ∃ M,aJ false w cs M:=by
  obtain⟨xs,m,rfl,_,hlen,hxs,hf⟩:=DataW.trod_struct Tryz.underlying45 h
  rw[show Tryz.prog.cellsOf 45=22 from by kernel_rfl] at hlen
  replace hxs:xs.length=22:=hxs.trans (by kernel_rfl)
  obtain⟨y0,g0⟩ : ∃ y,xs[0]? = some y:=⟨_,List.getElem?_eq_getElem (show 0<xs.length by omega)⟩
  have f0:DataW.trod enc Tryz.prog w base spare held m 5 ((cs.drop 0).take (Tryz.prog.cellsOf 5))=xs[0]?:=hf 0 _ rfl
  rw[g0] at f0
  rw[show Tryz.prog.cellsOf 5=1 from by kernel_rfl] at f0
  obtain⟨x0,e0,r0⟩:=jP f0
  obtain⟨y1,g1⟩ : ∃ y,xs[1]? = some y:=⟨_,List.getElem?_eq_getElem (show 1<xs.length by omega)⟩
  have f1:DataW.trod enc Tryz.prog w base spare held m 5 ((cs.drop 1).take (Tryz.prog.cellsOf 5))=xs[1]?:=hf 1 _ rfl
  rw[g1] at f1
  rw[show Tryz.prog.cellsOf 5=1 from by kernel_rfl] at f1
  obtain⟨x1,e1,r1⟩:=jP f1
  obtain⟨y2,g2⟩ : ∃ y,xs[2]? = some y:=⟨_,List.getElem?_eq_getElem (show 2<xs.length by omega)⟩
  have f2:DataW.trod enc Tryz.prog w base spare held m 37 ((cs.drop 2).take (Tryz.prog.cellsOf 37))=xs[2]?:=hf 2 _ rfl
  rw[g2] at f2
  rw[show Tryz.prog.cellsOf 37=1 from by kernel_rfl] at f2
  obtain⟨x2,e2,r2⟩:=eY f2
  obtain⟨y3,g3⟩ : ∃ y,xs[3]? = some y:=⟨_,List.getElem?_eq_getElem (show 3<xs.length by omega)⟩
  have f3:DataW.trod enc Tryz.prog w base spare held m 37 ((cs.drop 3).take (Tryz.prog.cellsOf 37))=xs[3]?:=hf 3 _ rfl
  rw[g3] at f3
  rw[show Tryz.prog.cellsOf 37=1 from by kernel_rfl] at f3
  obtain⟨x3,e3,r3⟩:=eY f3
  obtain⟨y4,g4⟩ : ∃ y,xs[4]? = some y:=⟨_,List.getElem?_eq_getElem (show 4<xs.length by omega)⟩
  have f4:DataW.trod enc Tryz.prog w base spare held m 37 ((cs.drop 4).take (Tryz.prog.cellsOf 37))=xs[4]?:=hf 4 _ rfl
  rw[g4] at f4
  rw[show Tryz.prog.cellsOf 37=1 from by kernel_rfl] at f4
  obtain⟨x4,e4,r4⟩:=eY f4
  obtain⟨y5,g5⟩ : ∃ y,xs[5]? = some y:=⟨_,List.getElem?_eq_getElem (show 5<xs.length by omega)⟩
  have f5:DataW.trod enc Tryz.prog w base spare held m 37 ((cs.drop 5).take (Tryz.prog.cellsOf 37))=xs[5]?:=hf 5 _ rfl
  rw[g5] at f5
  rw[show Tryz.prog.cellsOf 37=1 from by kernel_rfl] at f5
  obtain⟨x5,e5,r5⟩:=eY f5
  obtain⟨y6,g6⟩ : ∃ y,xs[6]? = some y:=⟨_,List.getElem?_eq_getElem (show 6<xs.length by omega)⟩
  have f6:DataW.trod enc Tryz.prog w base spare held m 37 ((cs.drop 6).take (Tryz.prog.cellsOf 37))=xs[6]?:=hf 6 _ rfl
  rw[g6] at f6
  rw[show Tryz.prog.cellsOf 37=1 from by kernel_rfl] at f6
  obtain⟨x6,e6,r6⟩:=eY f6
  obtain⟨y7,g7⟩ : ∃ y,xs[7]? = some y:=⟨_,List.getElem?_eq_getElem (show 7<xs.length by omega)⟩
  have f7:DataW.trod enc Tryz.prog w base spare held m 37 ((cs.drop 7).take (Tryz.prog.cellsOf 37))=xs[7]?:=hf 7 _ rfl
  rw[g7] at f7
  rw[show Tryz.prog.cellsOf 37=1 from by kernel_rfl] at f7
  obtain⟨x7,e7,r7⟩:=eY f7
  obtain⟨y8,g8⟩ : ∃ y,xs[8]? = some y:=⟨_,List.getElem?_eq_getElem (show 8<xs.length by omega)⟩
  have f8:DataW.trod enc Tryz.prog w base spare held m 37 ((cs.drop 8).take (Tryz.prog.cellsOf 37))=xs[8]?:=hf 8 _ rfl
  rw[g8] at f8
  rw[show Tryz.prog.cellsOf 37=1 from by kernel_rfl] at f8
  obtain⟨x8,e8,r8⟩:=eY f8
  obtain⟨y9,g9⟩ : ∃ y,xs[9]? = some y:=⟨_,List.getElem?_eq_getElem (show 9<xs.length by omega)⟩
  have f9:DataW.trod enc Tryz.prog w base spare held m 37 ((cs.drop 9).take (Tryz.prog.cellsOf 37))=xs[9]?:=hf 9 _ rfl
  rw[g9] at f9
  rw[show Tryz.prog.cellsOf 37=1 from by kernel_rfl] at f9
  obtain⟨x9,e9,r9⟩:=eY f9
  obtain⟨ac,u⟩ : ∃ y,xs[10]? = some y:=⟨_,List.getElem?_eq_getElem (show 10<xs.length by omega)⟩
  have a:DataW.trod enc Tryz.prog w base spare held m 37 ((cs.drop 10).take (Tryz.prog.cellsOf 37))=xs[10]?:=hf 10 _ rfl
  rw[u] at a
  rw[show Tryz.prog.cellsOf 37=1 from by kernel_rfl] at a
  obtain⟨x10,v,x⟩:=eY a
  obtain⟨ad,z⟩ : ∃ y,xs[11]? = some y:=⟨_,List.getElem?_eq_getElem (show 11<xs.length by omega)⟩
  have b:DataW.trod enc Tryz.prog w base spare held m 37 ((cs.drop 11).take (Tryz.prog.cellsOf 37))=xs[11]?:=hf 11 _ rfl
  rw[z] at b
  rw[show Tryz.prog.cellsOf 37=1 from by kernel_rfl] at b
  obtain⟨x11,A,B⟩:=eY b
  obtain⟨ae,C⟩ : ∃ y,xs[12]? = some y:=⟨_,List.getElem?_eq_getElem (show 12<xs.length by omega)⟩
  have c:DataW.trod enc Tryz.prog w base spare held m 40 ((cs.drop 12).take (Tryz.prog.cellsOf 40))=xs[12]?:=hf 12 _ rfl
  rw[C] at c
  rw[show Tryz.prog.cellsOf 40=1 from by kernel_rfl] at c
  obtain⟨p,D,E,F⟩:=yg c
  obtain⟨af,G⟩ : ∃ y,xs[13]? = some y:=⟨_,List.getElem?_eq_getElem (show 13<xs.length by omega)⟩
  have d:DataW.trod enc Tryz.prog w base spare held m 41 ((cs.drop 13).take (Tryz.prog.cellsOf 41))=xs[13]?:=hf 13 _ rfl
  rw[G] at d
  rw[show Tryz.prog.cellsOf 41=1 from by kernel_rfl] at d
  obtain⟨q,H,I,J⟩:=Ae d
  obtain⟨ag,K⟩ : ∃ y,xs[14]? = some y:=⟨_,List.getElem?_eq_getElem (show 14<xs.length by omega)⟩
  have e:DataW.trod enc Tryz.prog w base spare held m 27 ((cs.drop 14).take (Tryz.prog.cellsOf 27))=xs[14]?:=hf 14 _ rfl
  rw[K] at e
  rw[show Tryz.prog.cellsOf 27=1 from by kernel_rfl] at e
  obtain⟨r,L,N,O⟩:=Be e
  obtain⟨ah,P⟩ : ∃ y,xs[15]? = some y:=⟨_,List.getElem?_eq_getElem (show 15<xs.length by omega)⟩
  have f:DataW.trod enc Tryz.prog w base spare held m 42 ((cs.drop 15).take (Tryz.prog.cellsOf 42))=xs[15]?:=hf 15 _ rfl
  rw[P] at f
  rw[show Tryz.prog.cellsOf 42=1 from by kernel_rfl] at f
  obtain⟨s,Q,R,S⟩:=Bt f
  obtain⟨ai,T⟩ : ∃ y,xs[16]? = some y:=⟨_,List.getElem?_eq_getElem (show 16<xs.length by omega)⟩
  have g:DataW.trod enc Tryz.prog w base spare held m 5 ((cs.drop 16).take (Tryz.prog.cellsOf 5))=xs[16]?:=hf 16 _ rfl
  rw[T] at g
  rw[show Tryz.prog.cellsOf 5=1 from by kernel_rfl] at g
  obtain⟨x16,U,V⟩:=jP g
  obtain⟨aj,W⟩ : ∃ y,xs[17]? = some y:=⟨_,List.getElem?_eq_getElem (show 17<xs.length by omega)⟩
  have i:DataW.trod enc Tryz.prog w base spare held m 5 ((cs.drop 17).take (Tryz.prog.cellsOf 5))=xs[17]?:=hf 17 _ rfl
  rw[W] at i
  rw[show Tryz.prog.cellsOf 5=1 from by kernel_rfl] at i
  obtain⟨x17,X,Y⟩:=jP i
  obtain⟨ak,Z⟩ : ∃ y,xs[18]? = some y:=⟨_,List.getElem?_eq_getElem (show 18<xs.length by omega)⟩
  have j:DataW.trod enc Tryz.prog w base spare held m 5 ((cs.drop 18).take (Tryz.prog.cellsOf 5))=xs[18]?:=hf 18 _ rfl
  rw[Z] at j
  rw[show Tryz.prog.cellsOf 5=1 from by kernel_rfl] at j
  obtain⟨x18,a0,a1⟩:=jP j
  obtain⟨al,a2⟩ : ∃ y,xs[19]? = some y:=⟨_,List.getElem?_eq_getElem (show 19<xs.length by omega)⟩
  have k:DataW.trod enc Tryz.prog w base spare held m 5 ((cs.drop 19).take (Tryz.prog.cellsOf 5))=xs[19]?:=hf 19 _ rfl
  rw[a2] at k
  rw[show Tryz.prog.cellsOf 5=1 from by kernel_rfl] at k
  obtain⟨x19,a3,a4⟩:=jP k
  obtain⟨am,a5⟩ : ∃ y,xs[20]? = some y:=⟨_,List.getElem?_eq_getElem (show 20<xs.length by omega)⟩
  have l:DataW.trod enc Tryz.prog w base spare held m 5 ((cs.drop 20).take (Tryz.prog.cellsOf 5))=xs[20]?:=hf 20 _ rfl
  rw[a5] at l
  rw[show Tryz.prog.cellsOf 5=1 from by kernel_rfl] at l
  obtain⟨x20,a6,a7⟩:=jP l
  obtain⟨an,a8⟩ : ∃ y,xs[21]? = some y:=⟨_,List.getElem?_eq_getElem (show 21<xs.length by omega)⟩
  have o:DataW.trod enc Tryz.prog w base spare held m 43 ((cs.drop 21).take (Tryz.prog.cellsOf 43))=xs[21]?:=hf 21 _ rfl
  rw[a8] at o
  rw[show Tryz.prog.cellsOf 43=1 from by kernel_rfl] at o
  obtain⟨t,a9,aa,ab⟩:=BD o
  have hcs:cs=[.int .u8 x0,.int .u8 x1,.int .u16 x2,.int .u16 x3,.int .u16 x4,.int .u16 x5,.int .u16 x6,.int .u16 x7,.int .u16 x8,.int .u16 x9,.int .u16 x10,.int .u16 x11,p,q,r,s,.int .u8 x16,.int .u8 x17,.int .u8 x18,.int .u8 x19,.int .u8 x20,t]:=by
    show cs.drop 0=_
    rw[fc e0,fc e1,fc e2,fc e3,fc e4,fc e5,fc e6,fc e7,fc e8,fc e9,fc v,fc A,fc E,fc I,fc N,fc R,fc U,fc X,fc a0,fc a3,fc a6,fc aa,kI hlen]
  subst hcs
  exact⟨⟨x0,x1,x2,x3,x4,x5,x6,x7,x8,x9,x10,x11,D,H,L,Q,x16,x17,x18,x19,x20,a9⟩,p,q,r,s,t,rfl,F,J,O,S,ab,⟨r0,r1,r2,r3,r4,r5,r6,r7,r8,r9,x,B,V,Y,a1,a4,a7⟩⟩
end
open Go.RowKit
section
variable {H:Type}{enc:TypeId × Value→H}{w:World}{base:Nat}{spare:Nat→Bool}{held:Bool}{n:Nat}{y:DataW H × List MemPlace}
theorem uK{cs:List Value}(h:DataW.trod enc Tryz.prog w base spare held n 39 cs=some y) : ∃ u t,cs=[.int .u8 u,.int .u16 t]∧(0≤u∧u<256)∧(0≤t∧t<65536):=by
  obtain⟨xs,m,rfl,_,hlen,hxs,hf⟩:=DataW.trod_struct Tryz.underlying39 h
  rw[show Tryz.prog.cellsOf 39=2 from by kernel_rfl] at hlen
  replace hxs:xs.length=2:=hxs.trans (by kernel_rfl)
  obtain⟨y0,g0⟩ : ∃ y,xs[0]? = some y:=⟨_,List.getElem?_eq_getElem (show 0<xs.length by omega)⟩
  have f0:DataW.trod enc Tryz.prog w base spare held m 5 ((cs.drop 0).take (Tryz.prog.cellsOf 5))=xs[0]?:=hf 0 _ rfl
  rw[g0] at f0
  rw[show Tryz.prog.cellsOf 5=1 from by kernel_rfl] at f0
  obtain⟨x0,e0,r0⟩:=jP f0
  obtain⟨y1,g1⟩ : ∃ y,xs[1]? = some y:=⟨_,List.getElem?_eq_getElem (show 1<xs.length by omega)⟩
  have f1:DataW.trod enc Tryz.prog w base spare held m 37 ((cs.drop 1).take (Tryz.prog.cellsOf 37))=xs[1]?:=hf 1 _ rfl
  rw[g1] at f1
  rw[show Tryz.prog.cellsOf 37=1 from by kernel_rfl] at f1
  obtain⟨x1,e1,r1⟩:=eY f1
  have hcs:cs=[.int .u8 x0,.int .u16 x1]:=by
    show cs.drop 0=_
    rw[fc e0,fc e1,kI hlen]
  exact⟨x0,x1,hcs,r0,r1⟩
theorem xv{cs:List Value}(h:DataW.trod enc Tryz.prog w base spare held n 47 cs=some y) : ∃ u t M c,cs=[.int .u8 u,.int .u16 t]++c∧aJ false w c M∧(0≤u∧u<256)∧(0≤t∧t<65536):=by
  obtain⟨xs,m,rfl,_,hlen,hxs,hf⟩:=DataW.trod_struct Tryz.underlying47 h
  rw[show Tryz.prog.cellsOf 47=24 from by kernel_rfl] at hlen
  replace hxs:xs.length=2:=hxs.trans (by kernel_rfl)
  obtain⟨y0,g0⟩ : ∃ y,xs[0]? = some y:=⟨_,List.getElem?_eq_getElem (show 0<xs.length by omega)⟩
  have f0:DataW.trod enc Tryz.prog w base spare held m 39 ((cs.drop 0).take (Tryz.prog.cellsOf 39))=xs[0]?:=hf 0 _ rfl
  rw[g0] at f0
  rw[show Tryz.prog.cellsOf 39=2 from by kernel_rfl] at f0
  obtain⟨u,t,e0,hu,ht⟩:=uK f0
  obtain⟨y1,g1⟩ : ∃ y,xs[1]? = some y:=⟨_,List.getElem?_eq_getElem (show 1<xs.length by omega)⟩
  have f1:DataW.trod enc Tryz.prog w base spare held m 45 ((cs.drop 2).take (Tryz.prog.cellsOf 45))=xs[1]?:=hf 1 _ rfl
  rw[g1] at f1
  rw[show Tryz.prog.cellsOf 45=22 from by kernel_rfl] at f1
  obtain⟨M,hM⟩:=yS f1
  refine⟨u,t,M,(cs.drop 2).take 22,?_,hM,hu,ht⟩
  rw[← e0,List.take_of_length_le (show(cs.drop 2).length≤22 by rw[List.length_drop];omega)]
  exact(List.take_append_drop 2 cs).symm
open Go.WideShapes in
theorem zG{v:Value}{d:DataW H}{p:List MemPlace}(hv:∃ b0,Value.okWide Tryz.prog w .any b0 47 v)(h:DataW.Trod enc Tryz.prog w base spare held 47 v d p) : ∃ u t M x,v = .agg (ed u t M x)∧aJ false w (fb M x).toList M∧(0≤u∧u<256)∧(0≤t∧t<65536):=by
  obtain⟨b0,hv⟩:=hv
  obtain⟨cs,rfl,hsz⟩:=okWide_struct Tryz.underlying47 hv
  obtain⟨fuel,hf⟩:=h
  obtain⟨u,t,M,c,e0,hM,hu,ht⟩:=xv hf
  obtain⟨x,hx⟩:=n8 (cs:=c.toArray) (by simpa using hM)
  refine⟨u,t,M,x,?_,?_,hu,ht⟩
  · rw[hZ,← hx]
    congr 1
    apply Array.toList_inj.1
    rw[show cs.toList=_ from e0]
    simp
  · rw[← hx]
    simpa using hM
end
end Go.Proofs.YtdkhbcefkfgbdaaGreat
