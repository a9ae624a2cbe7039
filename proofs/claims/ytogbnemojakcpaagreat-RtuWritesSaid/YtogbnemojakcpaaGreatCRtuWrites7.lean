/- Contracts of functions, part CRtuWrites7. -/
import Derived.Test.YtogbnemojakcpaaGreatCRtuWrites1
import Derived.Test.YtogbnemojakcpaaGreatCRtuWrites2
import Derived.Test.YtogbnemojakcpaaGreatCRtuWrites3
import Derived.Test.YtogbnemojakcpaaGreatCRtuWrites4
import Derived.Test.YtogbnemojakcpaaGreatCRtuWrites5
import Derived.Test.YtogbnemojakcpaaGreatCRtuWrites6
set_option linter.unusedVariables false
set_option linter.unusedSimpArgs false
set_option maxRecDepth 100000
set_option maxHeartbeats 4000000
namespace Go.Proofs.YtogbnemojakcpaaGreat
open Go.RowKit
theorem eB{cs:List Value}{o:Nat}{v:Value}(h:(cs.drop o).take 1=[v]) : cs.drop o=v :: cs.drop (o+1):=by
  cases hd:cs.drop o with
  | nil=>rw[hd] at h;cases h
  | cons a l =>
    rw[hd] at h
    have h1:a=v:=by simpa using h
    rw[h1,← List.drop_drop,hd]
    rfl
theorem iZ{cs:List Value}{n:Nat}(h:cs.length=n) : cs.drop n=[]:=by rw[← h];simp
section
variable {H:Type}{enc:TypeId × Value→H}{w:World}{base:Nat}{spare:Nat→Bool}{held:Bool}{n:Nat}{y:DataW H × List MemPlace}
theorem xT{cs:List Value}(h:DataW.trod enc Tryz.prog w base spare held n 109 cs=some y) : ∃ x,bq false w x cs:=by
  obtain⟨xs,m,rfl,_,hlen,hxs,hf⟩:=DataW.trod_struct Tryz.underlying109 h
  rw[show Tryz.prog.cellsOf 109=4 from by kernel_rfl] at hlen
  replace hxs:xs.length=4:=hxs.trans (by kernel_rfl)
  obtain⟨y0,g0⟩ : ∃ y,xs[0]? = some y:=⟨_,List.getElem?_eq_getElem (show 0<xs.length by omega)⟩
  have f0:DataW.trod enc Tryz.prog w base spare held m 24 ((cs.drop 0).take (Tryz.prog.cellsOf 24))=xs[0]?:=hf 0 _ rfl
  rw[g0] at f0
  rw[show Tryz.prog.cellsOf 24=1 from by kernel_rfl] at f0
  obtain⟨x0,e0,r0⟩:=ez f0
  obtain⟨y1,g1⟩ : ∃ y,xs[1]? = some y:=⟨_,List.getElem?_eq_getElem (show 1<xs.length by omega)⟩
  have f1:DataW.trod enc Tryz.prog w base spare held m 24 ((cs.drop 1).take (Tryz.prog.cellsOf 24))=xs[1]?:=hf 1 _ rfl
  rw[g1] at f1
  rw[show Tryz.prog.cellsOf 24=1 from by kernel_rfl] at f1
  obtain⟨x1,e1,r1⟩:=ez f1
  obtain⟨y2,g2⟩ : ∃ y,xs[2]? = some y:=⟨_,List.getElem?_eq_getElem (show 2<xs.length by omega)⟩
  have f2:DataW.trod enc Tryz.prog w base spare held m 24 ((cs.drop 2).take (Tryz.prog.cellsOf 24))=xs[2]?:=hf 2 _ rfl
  rw[g2] at f2
  rw[show Tryz.prog.cellsOf 24=1 from by kernel_rfl] at f2
  obtain⟨x2,e2,r2⟩:=ez f2
  obtain⟨y3,g3⟩ : ∃ y,xs[3]? = some y:=⟨_,List.getElem?_eq_getElem (show 3<xs.length by omega)⟩
  have f3:DataW.trod enc Tryz.prog w base spare held m 25 ((cs.drop 3).take (Tryz.prog.cellsOf 25))=xs[3]?:=hf 3 _ rfl
  rw[g3] at f3
  rw[show Tryz.prog.cellsOf 25=1 from by kernel_rfl] at f3
  obtain⟨v3,l3,e3,r3⟩:=tW f3
  have hcs:cs=[.int .u16 x0,.int .u16 x1,.int .u16 x2,v3]:=by
    show cs.drop 0=_
    rw[eB e0,eB e1,eB e2,eB e3,iZ hlen]
  subst hcs
  exact⟨⟨x0,x1,x2,l3⟩,_,rfl,r3,r0,r1,r2⟩
theorem xW{cs:List Value}(h:DataW.trod enc Tryz.prog w base spare held n 27 cs=some y) : ∃ v xs,cs=[v]∧lJ false w v xs:=je Tryz.underlying27 (by kernel_rfl) (by decide) (fun _ _ _ _ h=>xT h) h
theorem xS{cs:List Value}(h:DataW.trod enc Tryz.prog w base spare held n 111 cs=some y) : ∃ x,da false w x cs:=by
  obtain⟨xs,m,rfl,_,hlen,hxs,hf⟩:=DataW.trod_struct Tryz.underlying111 h
  rw[show Tryz.prog.cellsOf 111=2 from by kernel_rfl] at hlen
  replace hxs:xs.length=2:=hxs.trans (by kernel_rfl)
  obtain⟨y0,g0⟩ : ∃ y,xs[0]? = some y:=⟨_,List.getElem?_eq_getElem (show 0<xs.length by omega)⟩
  have f0:DataW.trod enc Tryz.prog w base spare held m 5 ((cs.drop 0).take (Tryz.prog.cellsOf 5))=xs[0]?:=hf 0 _ rfl
  rw[g0] at f0
  rw[show Tryz.prog.cellsOf 5=1 from by kernel_rfl] at f0
  obtain⟨x0,e0,r0⟩:=iJ f0
  obtain⟨y1,g1⟩ : ∃ y,xs[1]? = some y:=⟨_,List.getElem?_eq_getElem (show 1<xs.length by omega)⟩
  have f1:DataW.trod enc Tryz.prog w base spare held m 22 ((cs.drop 1).take (Tryz.prog.cellsOf 22))=xs[1]?:=hf 1 _ rfl
  rw[g1] at f1
  rw[show Tryz.prog.cellsOf 22=1 from by kernel_rfl] at f1
  obtain⟨v1,l1,e1,r1⟩:=wS f1
  have hcs:cs=[.int .u8 x0,v1]:=by
    show cs.drop 0=_
    rw[eB e0,eB e1,iZ hlen]
  subst hcs
  exact⟨⟨x0,l1⟩,_,rfl,r1,r0⟩
theorem xE{cs:List Value}(h:DataW.trod enc Tryz.prog w base spare held n 28 cs=some y) : ∃ v xs,cs=[v]∧mS false w v xs:=je Tryz.underlying28 (by kernel_rfl) (by decide) (fun _ _ _ _ h=>xS h) h
theorem uU{cs:List Value}(h:DataW.trod enc Tryz.prog w base spare held n 30 cs=some y) : ∃ M,aH false w cs M:=by
  obtain⟨xs,m,rfl,_,hlen,hxs,hf⟩:=DataW.trod_struct Tryz.underlying30 h
  rw[show Tryz.prog.cellsOf 30=22 from by kernel_rfl] at hlen
  replace hxs:xs.length=22:=hxs.trans (by kernel_rfl)
  obtain⟨y0,g0⟩ : ∃ y,xs[0]? = some y:=⟨_,List.getElem?_eq_getElem (show 0<xs.length by omega)⟩
  have f0:DataW.trod enc Tryz.prog w base spare held m 5 ((cs.drop 0).take (Tryz.prog.cellsOf 5))=xs[0]?:=hf 0 _ rfl
  rw[g0] at f0
  rw[show Tryz.prog.cellsOf 5=1 from by kernel_rfl] at f0
  obtain⟨x0,e0,r0⟩:=iJ f0
  obtain⟨y1,g1⟩ : ∃ y,xs[1]? = some y:=⟨_,List.getElem?_eq_getElem (show 1<xs.length by omega)⟩
  have f1:DataW.trod enc Tryz.prog w base spare held m 5 ((cs.drop 1).take (Tryz.prog.cellsOf 5))=xs[1]?:=hf 1 _ rfl
  rw[g1] at f1
  rw[show Tryz.prog.cellsOf 5=1 from by kernel_rfl] at f1
  obtain⟨x1,e1,r1⟩:=iJ f1
  obtain⟨y2,g2⟩ : ∃ y,xs[2]? = some y:=⟨_,List.getElem?_eq_getElem (show 2<xs.length by omega)⟩
  have f2:DataW.trod enc Tryz.prog w base spare held m 24 ((cs.drop 2).take (Tryz.prog.cellsOf 24))=xs[2]?:=hf 2 _ rfl
  rw[g2] at f2
  rw[show Tryz.prog.cellsOf 24=1 from by kernel_rfl] at f2
  obtain⟨x2,e2,r2⟩:=ez f2
  obtain⟨y3,g3⟩ : ∃ y,xs[3]? = some y:=⟨_,List.getElem?_eq_getElem (show 3<xs.length by omega)⟩
  have f3:DataW.trod enc Tryz.prog w base spare held m 24 ((cs.drop 3).take (Tryz.prog.cellsOf 24))=xs[3]?:=hf 3 _ rfl
  rw[g3] at f3
  rw[show Tryz.prog.cellsOf 24=1 from by kernel_rfl] at f3
  obtain⟨x3,e3,r3⟩:=ez f3
  obtain⟨y4,g4⟩ : ∃ y,xs[4]? = some y:=⟨_,List.getElem?_eq_getElem (show 4<xs.length by omega)⟩
  have f4:DataW.trod enc Tryz.prog w base spare held m 24 ((cs.drop 4).take (Tryz.prog.cellsOf 24))=xs[4]?:=hf 4 _ rfl
  rw[g4] at f4
  rw[show Tryz.prog.cellsOf 24=1 from by kernel_rfl] at f4
  obtain⟨x4,e4,r4⟩:=ez f4
  obtain⟨y5,g5⟩ : ∃ y,xs[5]? = some y:=⟨_,List.getElem?_eq_getElem (show 5<xs.length by omega)⟩
  have f5:DataW.trod enc Tryz.prog w base spare held m 24 ((cs.drop 5).take (Tryz.prog.cellsOf 24))=xs[5]?:=hf 5 _ rfl
  rw[g5] at f5
  rw[show Tryz.prog.cellsOf 24=1 from by kernel_rfl] at f5
  obtain⟨x5,e5,r5⟩:=ez f5
  obtain⟨y6,g6⟩ : ∃ y,xs[6]? = some y:=⟨_,List.getElem?_eq_getElem (show 6<xs.length by omega)⟩
  have f6:DataW.trod enc Tryz.prog w base spare held m 24 ((cs.drop 6).take (Tryz.prog.cellsOf 24))=xs[6]?:=hf 6 _ rfl
  rw[g6] at f6
  rw[show Tryz.prog.cellsOf 24=1 from by kernel_rfl] at f6
  obtain⟨x6,e6,r6⟩:=ez f6
  obtain⟨y7,g7⟩ : ∃ y,xs[7]? = some y:=⟨_,List.getElem?_eq_getElem (show 7<xs.length by omega)⟩
  have f7:DataW.trod enc Tryz.prog w base spare held m 24 ((cs.drop 7).take (Tryz.prog.cellsOf 24))=xs[7]?:=hf 7 _ rfl
  rw[g7] at f7
  rw[show Tryz.prog.cellsOf 24=1 from by kernel_rfl] at f7
  obtain⟨x7,e7,r7⟩:=ez f7
  obtain⟨y8,g8⟩ : ∃ y,xs[8]? = some y:=⟨_,List.getElem?_eq_getElem (show 8<xs.length by omega)⟩
  have f8:DataW.trod enc Tryz.prog w base spare held m 24 ((cs.drop 8).take (Tryz.prog.cellsOf 24))=xs[8]?:=hf 8 _ rfl
  rw[g8] at f8
  rw[show Tryz.prog.cellsOf 24=1 from by kernel_rfl] at f8
  obtain⟨x8,e8,r8⟩:=ez f8
  obtain⟨y9,g9⟩ : ∃ y,xs[9]? = some y:=⟨_,List.getElem?_eq_getElem (show 9<xs.length by omega)⟩
  have f9:DataW.trod enc Tryz.prog w base spare held m 24 ((cs.drop 9).take (Tryz.prog.cellsOf 24))=xs[9]?:=hf 9 _ rfl
  rw[g9] at f9
  rw[show Tryz.prog.cellsOf 24=1 from by kernel_rfl] at f9
  obtain⟨x9,e9,r9⟩:=ez f9
  obtain⟨ac,u⟩ : ∃ y,xs[10]? = some y:=⟨_,List.getElem?_eq_getElem (show 10<xs.length by omega)⟩
  have a:DataW.trod enc Tryz.prog w base spare held m 24 ((cs.drop 10).take (Tryz.prog.cellsOf 24))=xs[10]?:=hf 10 _ rfl
  rw[u] at a
  rw[show Tryz.prog.cellsOf 24=1 from by kernel_rfl] at a
  obtain⟨x10,v,x⟩:=ez a
  obtain⟨ad,z⟩ : ∃ y,xs[11]? = some y:=⟨_,List.getElem?_eq_getElem (show 11<xs.length by omega)⟩
  have b:DataW.trod enc Tryz.prog w base spare held m 24 ((cs.drop 11).take (Tryz.prog.cellsOf 24))=xs[11]?:=hf 11 _ rfl
  rw[z] at b
  rw[show Tryz.prog.cellsOf 24=1 from by kernel_rfl] at b
  obtain⟨x11,A,B⟩:=ez b
  obtain⟨ae,C⟩ : ∃ y,xs[12]? = some y:=⟨_,List.getElem?_eq_getElem (show 12<xs.length by omega)⟩
  have c:DataW.trod enc Tryz.prog w base spare held m 25 ((cs.drop 12).take (Tryz.prog.cellsOf 25))=xs[12]?:=hf 12 _ rfl
  rw[C] at c
  rw[show Tryz.prog.cellsOf 25=1 from by kernel_rfl] at c
  obtain⟨p,D,E,F⟩:=tW c
  obtain⟨af,G⟩ : ∃ y,xs[13]? = some y:=⟨_,List.getElem?_eq_getElem (show 13<xs.length by omega)⟩
  have d:DataW.trod enc Tryz.prog w base spare held m 26 ((cs.drop 13).take (Tryz.prog.cellsOf 26))=xs[13]?:=hf 13 _ rfl
  rw[G] at d
  rw[show Tryz.prog.cellsOf 26=1 from by kernel_rfl] at d
  obtain⟨q,H,I,J⟩:=vl d
  obtain⟨ag,K⟩ : ∃ y,xs[14]? = some y:=⟨_,List.getElem?_eq_getElem (show 14<xs.length by omega)⟩
  have e:DataW.trod enc Tryz.prog w base spare held m 22 ((cs.drop 14).take (Tryz.prog.cellsOf 22))=xs[14]?:=hf 14 _ rfl
  rw[K] at e
  rw[show Tryz.prog.cellsOf 22=1 from by kernel_rfl] at e
  obtain⟨r,L,N,O⟩:=wS e
  obtain⟨ah,P⟩ : ∃ y,xs[15]? = some y:=⟨_,List.getElem?_eq_getElem (show 15<xs.length by omega)⟩
  have f:DataW.trod enc Tryz.prog w base spare held m 27 ((cs.drop 15).take (Tryz.prog.cellsOf 27))=xs[15]?:=hf 15 _ rfl
  rw[P] at f
  rw[show Tryz.prog.cellsOf 27=1 from by kernel_rfl] at f
  obtain⟨s,Q,R,S⟩:=xW f
  obtain⟨ai,T⟩ : ∃ y,xs[16]? = some y:=⟨_,List.getElem?_eq_getElem (show 16<xs.length by omega)⟩
  have g:DataW.trod enc Tryz.prog w base spare held m 5 ((cs.drop 16).take (Tryz.prog.cellsOf 5))=xs[16]?:=hf 16 _ rfl
  rw[T] at g
  rw[show Tryz.prog.cellsOf 5=1 from by kernel_rfl] at g
  obtain⟨x16,U,V⟩:=iJ g
  obtain⟨aj,W⟩ : ∃ y,xs[17]? = some y:=⟨_,List.getElem?_eq_getElem (show 17<xs.length by omega)⟩
  have i:DataW.trod enc Tryz.prog w base spare held m 5 ((cs.drop 17).take (Tryz.prog.cellsOf 5))=xs[17]?:=hf 17 _ rfl
  rw[W] at i
  rw[show Tryz.prog.cellsOf 5=1 from by kernel_rfl] at i
  obtain⟨x17,X,Y⟩:=iJ i
  obtain⟨ak,Z⟩ : ∃ y,xs[18]? = some y:=⟨_,List.getElem?_eq_getElem (show 18<xs.length by omega)⟩
  have j:DataW.trod enc Tryz.prog w base spare held m 5 ((cs.drop 18).take (Tryz.prog.cellsOf 5))=xs[18]?:=hf 18 _ rfl
  rw[Z] at j
  rw[show Tryz.prog.cellsOf 5=1 from by kernel_rfl] at j
  obtain⟨x18,a0,a1⟩:=iJ j
  obtain⟨al,a2⟩ : ∃ y,xs[19]? = some y:=⟨_,List.getElem?_eq_getElem (show 19<xs.length by omega)⟩
  have k:DataW.trod enc Tryz.prog w base spare held m 5 ((cs.drop 19).take (Tryz.prog.cellsOf 5))=xs[19]?:=hf 19 _ rfl
  rw[a2] at k
  rw[show Tryz.prog.cellsOf 5=1 from by kernel_rfl] at k
  obtain⟨x19,a3,a4⟩:=iJ k
  obtain⟨am,a5⟩ : ∃ y,xs[20]? = some y:=⟨_,List.getElem?_eq_getElem (show 20<xs.length by omega)⟩
  have l:DataW.trod enc Tryz.prog w base spare held m 5 ((cs.drop 20).take (Tryz.prog.cellsOf 5))=xs[20]?:=hf 20 _ rfl
  rw[a5] at l
  rw[show Tryz.prog.cellsOf 5=1 from by kernel_rfl] at l
  obtain⟨x20,a6,a7⟩:=iJ l
  obtain⟨an,a8⟩ : ∃ y,xs[21]? = some y:=⟨_,List.getElem?_eq_getElem (show 21<xs.length by omega)⟩
  have o:DataW.trod enc Tryz.prog w base spare held m 28 ((cs.drop 21).take (Tryz.prog.cellsOf 28))=xs[21]?:=hf 21 _ rfl
  rw[a8] at o
  rw[show Tryz.prog.cellsOf 28=1 from by kernel_rfl] at o
  obtain⟨t,a9,aa,ab⟩:=xE o
  have hcs:cs=[.int .u8 x0,.int .u8 x1,.int .u16 x2,.int .u16 x3,.int .u16 x4,.int .u16 x5,.int .u16 x6,.int .u16 x7,.int .u16 x8,.int .u16 x9,.int .u16 x10,.int .u16 x11,p,q,r,s,.int .u8 x16,.int .u8 x17,.int .u8 x18,.int .u8 x19,.int .u8 x20,t]:=by
    show cs.drop 0=_
    rw[eB e0,eB e1,eB e2,eB e3,eB e4,eB e5,eB e6,eB e7,eB e8,eB e9,eB v,eB A,eB E,eB I,eB N,eB R,eB U,eB X,eB a0,eB a3,eB a6,eB aa,iZ hlen]
  subst hcs
  exact⟨⟨x0,x1,x2,x3,x4,x5,x6,x7,x8,x9,x10,x11,D,H,L,Q,x16,x17,x18,x19,x20,a9⟩,p,q,r,s,t,rfl,F,J,O,S,ab,⟨r0,r1,r2,r3,r4,r5,r6,r7,r8,r9,x,B,V,Y,a1,a4,a7⟩⟩
end
open Go.RowKit
section
variable {H:Type}{enc:TypeId × Value→H}{w:World}{base:Nat}{spare:Nat→Bool}{held:Bool}{n:Nat}{y:DataW H × List MemPlace}
theorem ro{cs:List Value}(h:DataW.trod enc Tryz.prog w base spare held n 42 cs=some y) : ∃ u t,cs=[.int .u8 u,.int .u16 t]∧(0≤u∧u<256)∧(0≤t∧t<65536):=by
  obtain⟨xs,m,rfl,_,hlen,hxs,hf⟩:=DataW.trod_struct Tryz.underlying42 h
  rw[show Tryz.prog.cellsOf 42=2 from by kernel_rfl] at hlen
  replace hxs:xs.length=2:=hxs.trans (by kernel_rfl)
  obtain⟨y0,g0⟩ : ∃ y,xs[0]? = some y:=⟨_,List.getElem?_eq_getElem (show 0<xs.length by omega)⟩
  have f0:DataW.trod enc Tryz.prog w base spare held m 5 ((cs.drop 0).take (Tryz.prog.cellsOf 5))=xs[0]?:=hf 0 _ rfl
  rw[g0] at f0
  rw[show Tryz.prog.cellsOf 5=1 from by kernel_rfl] at f0
  obtain⟨x0,e0,r0⟩:=iJ f0
  obtain⟨y1,g1⟩ : ∃ y,xs[1]? = some y:=⟨_,List.getElem?_eq_getElem (show 1<xs.length by omega)⟩
  have f1:DataW.trod enc Tryz.prog w base spare held m 24 ((cs.drop 1).take (Tryz.prog.cellsOf 24))=xs[1]?:=hf 1 _ rfl
  rw[g1] at f1
  rw[show Tryz.prog.cellsOf 24=1 from by kernel_rfl] at f1
  obtain⟨x1,e1,r1⟩:=ez f1
  have hcs:cs=[.int .u8 x0,.int .u16 x1]:=by
    show cs.drop 0=_
    rw[eB e0,eB e1,iZ hlen]
  exact⟨x0,x1,hcs,r0,r1⟩
theorem ti{cs:List Value}(h:DataW.trod enc Tryz.prog w base spare held n 44 cs=some y) : ∃ u t M c,cs=[.int .u8 u,.int .u16 t]++c∧aH false w c M∧(0≤u∧u<256)∧(0≤t∧t<65536):=by
  obtain⟨xs,m,rfl,_,hlen,hxs,hf⟩:=DataW.trod_struct Tryz.underlying44 h
  rw[show Tryz.prog.cellsOf 44=24 from by kernel_rfl] at hlen
  replace hxs:xs.length=2:=hxs.trans (by kernel_rfl)
  obtain⟨y0,g0⟩ : ∃ y,xs[0]? = some y:=⟨_,List.getElem?_eq_getElem (show 0<xs.length by omega)⟩
  have f0:DataW.trod enc Tryz.prog w base spare held m 42 ((cs.drop 0).take (Tryz.prog.cellsOf 42))=xs[0]?:=hf 0 _ rfl
  rw[g0] at f0
  rw[show Tryz.prog.cellsOf 42=2 from by kernel_rfl] at f0
  obtain⟨u,t,e0,hu,ht⟩:=ro f0
  obtain⟨y1,g1⟩ : ∃ y,xs[1]? = some y:=⟨_,List.getElem?_eq_getElem (show 1<xs.length by omega)⟩
  have f1:DataW.trod enc Tryz.prog w base spare held m 30 ((cs.drop 2).take (Tryz.prog.cellsOf 30))=xs[1]?:=hf 1 _ rfl
  rw[g1] at f1
  rw[show Tryz.prog.cellsOf 30=22 from by kernel_rfl] at f1
  obtain⟨M,hM⟩:=uU f1
  refine⟨u,t,M,(cs.drop 2).take 22,?_,hM,hu,ht⟩
  rw[← e0,List.take_of_length_le (show(cs.drop 2).length≤22 by rw[List.length_drop];omega)]
  exact(List.take_append_drop 2 cs).symm
open Go.WideShapes in
theorem wB{v:Value}{d:DataW H}{p:List MemPlace}(hv:∃ b0,Value.okWide Tryz.prog w .any b0 44 v)(h:DataW.Trod enc Tryz.prog w base spare held 44 v d p) : ∃ u t M x,v = .agg (qe u t M x)∧aH false w (p6 M x).toList M∧(0≤u∧u<256)∧(0≤t∧t<65536):=by
  obtain⟨b0,hv⟩:=hv
  obtain⟨cs,rfl,hsz⟩:=okWide_struct Tryz.underlying44 hv
  obtain⟨fuel,hf⟩:=h
  obtain⟨u,t,M,c,e0,hM,hu,ht⟩:=ti hf
  obtain⟨x,hx⟩:=qq (cs:=c.toArray) (by simpa using hM)
  refine⟨u,t,M,x,?_,?_,hu,ht⟩
  · rw[nG,← hx]
    congr 1
    apply Array.toList_inj.1
    rw[show cs.toList=_ from e0]
    simp
  · rw[← hx]
    simpa using hM
end
end Go.Proofs.YtogbnemojakcpaaGreat
