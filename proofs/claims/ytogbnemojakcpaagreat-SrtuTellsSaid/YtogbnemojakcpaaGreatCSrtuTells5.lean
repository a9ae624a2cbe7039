/- Contracts of functions, part CSrtuTells5. -/
import Derived.Test.YtogbnemojakcpaaGreatCSrtuTells1
import Derived.Test.YtogbnemojakcpaaGreatCSrtuTells2
import Derived.Test.YtogbnemojakcpaaGreatCSrtuTells3
import Derived.Test.YtogbnemojakcpaaGreatCSrtuTells4
import Derived.Deep.Slices
import Derived.ChangeArms
import Derived.WideShapes
import Derived.SizedLaws
set_option linter.unusedVariables false
set_option linter.unusedSimpArgs false
set_option maxRecDepth 100000
set_option maxHeartbeats 4000000
namespace Go.Proofs.YtogbnemojakcpaaGreat
open Go.RowKit
theorem fy{C:ai}(h:gj C){b:Bool}{x:Int}:gj (C.need b x):=fun y hy=>h y (by rwa [iR] at hy)
theorem fG{C:ai}(h:gj C){n:Int}:gj (C.bytesC n):=gf h n
theorem jY{C:ai}(h:gj C){n:Int}:gj (C.wordsC n):=c3 h n
theorem rV(C:ai)(x:Int) : (C.bytesC 1).need (!(C.bytesC 1).sh) x=C.bytesC 1:=by
  by_cases hf:C.fails 1=true
  · exact dn (dW hf)
  · have h:(C.bytesC 1).sh=false:=by
      unfold ai.bytesC
      rw[if_neg hf]
      unfold ai.fails at hf
      simp only[Bool.or_eq_true,decide_eq_true_eq,not_or] at hf
      show C.sh=false
      simpa using hf.1.1
    rw[h]
    unfold ai.need
    rw[if_neg (by rintro⟨_,h⟩;cases h)]
theorem pF{v:Int}(h:0≤v) : decide (0<v)=(v != 0):=by
  rw[Bool.eq_iff_iff]
  simp only[decide_eq_true_eq,bne_iff_ne,ne_eq]
  omega
def uA (C:ai) : ai:=((C.bytesC 1).need (!(C.bytesC 1).sh) 5).need (C.byteV==6) 9
def uJ (C:ai) : ai:=((uA C).wordsC 1).need (decide (0<(uA C).wordV)) 6
def uG (C:ai) : ai:=((uJ C).wordsC 1).need (decide ((uJ C).wordV≤9999)) 7
def pS (C:ai) : ai:=((uG C).wordsC 1).need (decide (0<(uG C).wordV)) 5
theorem qq(C:ai) : uA C=io C:=by unfold uA io;rw[rV]
theorem nQ{C:ai}(h:gj C) : gj (io C):=fy (fG h)
theorem py{C:ai}(h:gj C) : uJ C=ii C:=by unfold uJ ii;rw[qq,pF (bE (nQ h)).1]
theorem rX{C:ai}(h:gj C) : gj (ii C):=fy (jY (nQ h))
theorem pT{C:ai}(h:gj C) : uG C=lw C:=by unfold uG lw;rw[py h]
theorem s4{C:ai}(h:gj C) : gj (lw C):=fy (jY (rX h))
theorem oF{C:ai}(h:gj C) : pS C=cZ C:=by unfold pS cZ;rw[pT h,pF (bE (s4 h)).1]
theorem sT{C:ai}(h:C.e≠0) : C.endC=C:=by unfold ai.endC;exact dn h
theorem t3{b:List Int}(h:b.length≠0) : (ai.mk b false 0).byteV=b.getD 0 0∧(ai.mk b false 0).bytesC 1=⟨b.drop 1,false,0⟩:=by
  have hf:¬ (ai.mk b false 0).fails 1=true:=by
    unfold ai.fails
    simp only[Bool.or_eq_true,decide_eq_true_eq,not_or]
    exact⟨⟨by decide,by decide⟩,by omega⟩
  constructor
  · unfold ai.byteV ai.bytesR
    rw[if_neg hf]
    rcases b with _|⟨x,t⟩
    · exact absurd rfl h
    · rfl
  · unfold ai.bytesC
    rw[if_neg hf]
    rfl
def cj (b:List Int)(n:Int) : List Int:=(b.take (n+1).toNat).drop 1
def cV (one:Int→ai→Int × ai × cW)(c:Int)(b:List Int) : aU × Int :=
  if (aI one (cj b (b.getD 0 0)).length 0 ⟨cj b (b.getD 0 0),false,0⟩ []).1.e != 0 then (aU.zero,be (aI one (cj b (b.getD 0 0)).length 0 ⟨cj b (b.getD 0 0),false,0⟩ []).1.e)
  else if decide (b.getD 0 0+1<(b.length:Int)) then (aU.zero,3)
  else ({ aU.zero with code:=c,recs:=(aI one (cj b (b.getD 0 0)).length 0 ⟨cj b (b.getD 0 0),false,0⟩ []).2 },0)
def bv (one:Int→ai→Int × ai × cW)(may:Int→Bool)(c:Int)(b:List Int) : aU × Int :=
  if (b.length:Int)==0 then (aU.zero,2)
  else if !(may (b.getD 0 0)) then (aU.zero,5)
  else if decide ((b.length:Int)<b.getD 0 0+1) then (aU.zero,2)
  else cV one c b
theorem iu{M:aU}{C:ai}(h:C.e≠0) : aP M C=(aU.zero,C.e):=by
  unfold aP
  rw[sT h,if_neg h]
theorem gW{one:Int→ai→Int × ai × cW}{may:Int→Bool}{c:Int}{b:List Int}(hr:∀ x,x∈b→0≤x∧x<256) : aP (dD one may c ⟨b,false,0⟩).2 (dD one may c ⟨b,false,0⟩).1=bv one may c b:=by
  unfold bv
  by_cases h0:b.length=0
  · rw[if_pos (by rw[beq_iff_eq];omega)]
    obtain rfl:=List.eq_nil_of_length_eq_zero h0
    have e1:(km may ⟨[],false,0⟩).e=2:=by
      unfold km
      rw[dn (dW (by decide))]
      rfl
    have e2:((km may ⟨[],false,0⟩).bytesC (ai.mk [] false 0).byteV).e=2:=by
      have hs:(km may ⟨[],false,0⟩).sh=true:=by
        unfold km
        rw[dn (dW (by decide))]
        rfl
      unfold ai.bytesC
      rw[if_pos (by unfold ai.fails;rw[hs];rfl),dn (by show(km may ⟨[],false,0⟩).e≠0;rw[e1];decide)]
      exact e1
    unfold dD
    dsimp only
    rw[dn (by rw[e2];decide),iu (by rw[e2];decide),e2]
  rw[if_neg (by rw[beq_iff_eq];omega)]
  obtain⟨e1,e2⟩:=t3 h0
  have hn:0≤b.getD 0 0∧b.getD 0 0<256:=by
    rcases b with _|⟨x,t⟩
    · exact absurd rfl h0
    · exact hr x (by simp)
  by_cases hm:may (b.getD 0 0)=true
  · rw[if_neg (by rw[hm];decide)]
    have e3:km may ⟨b,false,0⟩=⟨b.drop 1,false,0⟩:=by
      unfold km
      rw[e1,e2,hm]
      rfl
    by_cases hs:(b.length:Int)<b.getD 0 0+1
    · rw[if_pos (by simpa using hs)]
      have hf:(ai.mk (b.drop 1) false 0).fails (b.getD 0 0)=true:=by
        unfold ai.fails
        simp only[Bool.or_eq_true,decide_eq_true_eq,List.length_drop]
        exact .inr (by omega)
      have e4:(km may ⟨b,false,0⟩).bytesC (ai.mk b false 0).byteV=⟨[],true,2⟩:=by
        rw[e1,e3]
        unfold ai.bytesC
        rw[if_pos hf]
        rfl
      unfold dD
      dsimp only
      rw[e4,dn (by decide),iu (by decide)]
    · rw[if_neg (by simpa using hs)]
      have hf:¬ (ai.mk (b.drop 1) false 0).fails (b.getD 0 0)=true:=by
        unfold ai.fails
        simp only[Bool.or_eq_true,decide_eq_true_eq,List.length_drop,not_or]
        exact⟨⟨by decide,by omega⟩,by omega⟩
      have e4:(km may ⟨b,false,0⟩).bytesC (ai.mk b false 0).byteV=⟨(b.drop 1).drop (b.getD 0 0).toNat,false,0⟩:=by
        rw[e1,e3]
        unfold ai.bytesC
        rw[if_neg hf]
      have e5:tw may ⟨b,false,0⟩=⟨cj b (b.getD 0 0),false,0⟩:=by
        unfold tw cj
        rw[e1,e3]
        unfold ai.bytesR
        rw[if_neg hf,show(b.getD 0 0+1).toNat=1+(b.getD 0 0).toNat from by omega,List.drop_take]
        rw[show 1+(b.getD 0 0).toNat-1=(b.getD 0 0).toNat from by omega]
      unfold dD cV sJ
      dsimp only
      rw[e4,e5]
      by_cases hz:(aI one (cj b (b.getD 0 0)).length 0 ⟨cj b (b.getD 0 0),false,0⟩ []).1.e=0
      · rw[hz,if_neg (by decide)]
        have e6:(ai.mk ((b.drop 1).drop (b.getD 0 0).toNat) false 0).need ((0:Int)==0) (be 0)=⟨(b.drop 1).drop (b.getD 0 0).toNat,false,0⟩:=rfl
        rw[e6]
        by_cases hl:b.getD 0 0+1<(b.length:Int)
        · rw[if_pos (by simpa using hl)]
          have e7:(ai.mk ((b.drop 1).drop (b.getD 0 0).toNat) false 0).endC=⟨(b.drop 1).drop (b.getD 0 0).toNat,false,3⟩:=by
            unfold ai.endC ai.need
            rw[if_pos ⟨rfl,by rw[beq_eq_false_iff_ne];simp only[List.length_drop];omega⟩]
          unfold aP
          rw[e7,if_neg (show ¬ (3:Int)=0 from by decide)]
        · rw[if_neg (by simpa using hl)]
          have e7:(ai.mk ((b.drop 1).drop (b.getD 0 0).toNat) false 0).endC=⟨(b.drop 1).drop (b.getD 0 0).toNat,false,0⟩:=by
            unfold ai.endC ai.need
            rw[if_neg (by rintro⟨_,h⟩;rw[beq_eq_false_iff_ne] at h;simp only[List.length_drop] at h;omega)]
          unfold aP
          rw[e7,if_pos rfl]
      · rw[if_pos (by simpa using hz)]
        have hw:be (aI one (cj b (b.getD 0 0)).length 0 ⟨cj b (b.getD 0 0),false,0⟩ []).1.e≠0:=by
          unfold be
          split
          · decide
          · exact hz
        have e6:(ai.mk ((b.drop 1).drop (b.getD 0 0).toNat) false 0).need ((aI one (cj b (b.getD 0 0)).length 0 ⟨cj b (b.getD 0 0),false,0⟩ []).1.e==0) (be (aI one (cj b (b.getD 0 0)).length 0 ⟨cj b (b.getD 0 0),false,0⟩ []).1.e)=⟨(b.drop 1).drop (b.getD 0 0).toNat,false,be (aI one (cj b (b.getD 0 0)).length 0 ⟨cj b (b.getD 0 0),false,0⟩ []).1.e⟩:=by
          unfold ai.need
          rw[if_pos ⟨rfl,by simpa using hz⟩]
        rw[e6,iu hw]
  · have hm:may (b.getD 0 0)=false:=by simpa using hm
    rw[if_pos (by rw[hm];rfl)]
    have e3:km may ⟨b,false,0⟩=⟨b.drop 1,false,5⟩:=by
      unfold km
      rw[e1,e2,hm]
      rfl
    have e4:((km may ⟨b,false,0⟩).bytesC (ai.mk b false 0).byteV).e=5:=by
      rw[e3]
      unfold ai.bytesC
      split
      · rfl
      · rfl
    unfold dD
    dsimp only
    rw[dn (by rw[e4];decide),iu (by rw[e4];decide),e4]
theorem nj{b:List Int}(hr:∀ x,x∈b→0≤x∧x<256) : aj aY 0 20 b=bv cn eD 20 b:=gW hr
theorem mL{b:List Int}(hr:∀ x,x∈b→0≤x∧x<256) : aj aY 1 20 b=bv bz eA 20 b:=gW hr
theorem qX{dir:Int}{b:List Int}(hd:dir=0∨dir=1)(hr:∀ x,x∈b→0≤x∧x<256) : aj aY dir 21 b=bv cm ex 21 b:=by
  unfold aj
  rw[if_pos hd]
  exact gW hr
theorem rk:∀ n:Nat,n<256→(decide (1≤(n:Int)%128)&&decide ((n:Int)%128≤3))=bI (n:Int):=by decide +kernel
theorem uf{x:Int}(h:0≤x∧x<256) : (decide (1≤x%128)&&decide (x%128≤3))=bI x:=by
  obtain⟨n,rfl⟩:=Int.eq_ofNat_of_zero_le h.1
  exact rk n (by omega)
theorem t1{x:Int}:(decide (0<x)&&decide (x<5))=(decide (1≤x)&&decide (x≤4)):=by
  rw[Bool.eq_iff_iff]
  simp only[Bool.and_eq_true,decide_eq_true_eq]
  omega
def dU (C:ai) : ai:=((dt C).bytesC 1).need (decide (0<(dt C).byteV)&&decide ((dt C).byteV<5)) 6
theorem qi(C:ai) : dU C=fQ C:=by unfold dU fQ;rw[t1]
def eK (C:ai) : ai:=(C.bytesC 1).need (decide (1≤C.byteV%128)&&decide (C.byteV%128≤3)) 6
def fk (C:ai) : ai:=((eK C).bytesC 1).need ((eK C).byteV==0 || (eK C).byteV==255) 6
def fl (C:ai) : ai:=((fk C).bytesC 1).need ((fk C).byteV==0 || (eK C).byteV==255) 6
def gy (kd:Int)(C:ai) : ai:=((fl C).bytesC 1).need ((fl C).byteV==1 || kd != 4) 5
def dj (kd:Int)(C:ai) : ai × List Obj:=e9 (fl C).byteV.toNat (gy kd C) []
theorem iF{C:ai}(h:gj C) : eK C=kH C:=by unfold eK kH;rw[uf (gi h)]
theorem lq{C:ai}(h:gj C) : fk C=kn C:=by unfold fk kn;rw[iF h]
theorem pC{C:ai}(h:gj C) : fl C=qY C:=by
  unfold fl qY
  rw[lq h,iF h]
  by_cases e:((kn C).bytesC 1).e=0
  · have h1:=(lF e).1
    unfold kn at h1
    have h2:=(nG (by decide) h1).2
    congr 1
    rw[Bool.eq_iff_iff]
    simp only[Bool.or_eq_true,beq_iff_eq,bne_iff_ne,ne_eq] at h2 ⊢
    omega
  · rw[dn e,dn e]
theorem lB{kd:Int}{C:ai}(h:gj C) : dj kd C=eo kd C:=by
  unfold dj eo gy uo
  rw[pC h,Bool.or_comm]
def bZ (dir c:Int)(C:ai) : Option (ai × aU) :=
  if c != 43 then none
  else if C.byteV==13 then some ((eG C).bytesC ((dt C).l.length:Int),{ aU.zero with code:=43,mei:=C.byteV,data:=(eG C).bytesR ((dt C).l.length:Int) })
  else if dir==0 then some ((dU C).bytesC 1,{ aU.zero with code:=43,mei:=C.byteV,kind:=(dt C).byteV,next:=(dU C).byteV })
  else some ((dj (dt C).byteV (dU C)).1,{ aU.zero with code:=43,mei:=C.byteV,kind:=(dt C).byteV,level:=(dU C).byteV,more:=(eK (dU C)).byteV,next:=(fk (dU C)).byteV,objects:=(dj (dt C).byteV (dU C)).2 })
theorem lm{dir c:Int}{b:List Int}(hr:∀ x,x∈b→0≤x∧x<256) : aj bZ dir c b=aj bJ dir c b:=by
  unfold aj
  split
  · rename_i hd
    unfold bZ bJ
    by_cases hc:c=43
    · subst hc
      have hD:gj (dU ⟨b,false,0⟩):=fy (fG (fy (fG (C:=⟨b,false,0⟩) hr)))
      have hl:(eG ⟨b,false,0⟩).l.length=(dt ⟨b,false,0⟩).l.length:=by unfold eG;rw[iR]
      rw[if_neg (show ¬ (((43:Int)!=43)=true) from by decide),if_neg (show ¬ (((43:Int)!=43)=true) from by decide),iF hD,lq hD,lB hD,qi,hl]
      rcases hd with rfl|rfl
      · rw[if_pos (show((0:Int)==0)=true from rfl),if_neg (show ¬ ((0:Int)==1)=true from by decide)]
      · rw[if_neg (show ¬ ((1:Int)==0)=true from by decide),if_pos (show((1:Int)==1)=true from rfl)]
    · rw[if_pos (by simpa using hc),if_pos (by simpa using hc)]
  · rfl
open Go.RowKit
theorem RC.safe{w0:World}{m:Md}{A:Option Addr}{cp:Nat}{full:List Int}{w:World}{g:Nat}{C:ai}(h:RC w0 m A cp full w g C)(D:List TypeId)(hD:159∉D) : c6 true D [g] w:=by
  obtain⟨k,h1,_⟩:=h.cell
  exact c6.one h1 hD
theorem RC.nrow{α:Type}{base sz n c:Nat}{e:TypeId}{R:World→α→List Value→Prop}{B:Option Addr}{xs:List α}{w0:World}{m:Md}{A:Option Addr}{cp:Nat}{full:List Int}{w:World}{g:Nat}{C:ai}(h:RC w0 m A cp full w g C)(ho:b6 base e sz R w (.slice B n c) xs)(ht:(159==e)=false) : g∉ob B:=by
  obtain⟨k,h1,_⟩:=h.cell
  exact eB h1 ho ht
theorem RC.fld2{w0:World}{m:Md}{A:Option Addr}{cp:Nat}{full:List Int}{w:World}{g:Nat}{C:ai}(h:RC w0 m A cp full w g C) : w.cell? ⟨g,2,none⟩=some (.bool C.sh):=by
  obtain⟨k,h1,_⟩:=h.cell
  rw[bR h1]
  rfl
def ss (w0:World)(m:Md)(A:Option Addr)(cp:Nat)(full:List Int)(g:Nat)(C':ai)(r:cW)(w:World)(e:Ending)(w':World) : Prop:=e = .returned (.agg #[.int .u16 r.file,.int .u16 r.record,.int .u16 r.count,.slice none 0 0])∧dF r.file∧dF r.record∧dF r.count∧RC w0 m A cp full w' g C'∧az [g] w w'
theorem jM{x:Int}(h : -1≤x∧x≤255) : 0≤Int.tdiv x 2∧Int.tdiv x 2≤127:=by
  by_cases h0:x = -1
  · subst h0;decide
  · rw[Int.tdiv_eq_ediv_of_nonneg (by omega)]
    omega
theorem fP{one:Int→ai→Int × ai × cW}{n:Nat}{s:Int}{C:ai}{L:List cW}{R:ai × List cW}(h3:(C.e=0∧C.l.length≤n∧aI one n s C L=R)∨(C.e≠0∧R.1=C))(hc:0<C.l.length)(he:C.e=0)(hlt:(one s C).2.1.l.length<C.l.length) :
    ((one s C).2.1.e=0∧(one s C).2.1.l.length≤n-1∧aI one (n-1) (one s C).1 (one s C).2.1 (L++[(one s C).2.2])=R)∨((one s C).2.1.e≠0∧R.1=(one s C).2.1):=by
  rcases h3 with⟨_,hn,hR⟩|⟨h,_⟩
  · obtain⟨k,rfl⟩ : ∃ k,n=k+1:=⟨n-1,by omega⟩
    unfold aI at hR
    rw[if_pos (by rw[he];simpa using hc)] at hR
    by_cases hz:(one s C).2.1.e=0
    · rw[if_neg (by rw[hz];decide)] at hR
      exact .inl ⟨hz,by omega,hR⟩
    · rw[if_pos (by simpa using hz)] at hR
      exact .inr ⟨hz,by rw[← hR]⟩
  · exact absurd he h
theorem er{one:Int→ai→Int × ai × cW}{n:Nat}{s:Int}{C:ai}{L:List cW}{R:ai × List cW}(h3:(C.e=0∧C.l.length≤n∧aI one n s C L=R)∨(C.e≠0∧R.1=C))(hq:(decide (0<((C.l.length:Nat) : Int))&&C.e==0)=false) : R.1.e=C.e∧(C.e=0→R.2=L):=by
  rcases h3 with⟨he,hn,hR⟩|⟨h,h2⟩
  · rw[f8 one n s C L hq] at hR
    rw[← hR]
    exact⟨rfl,fun _=>rfl⟩
  · rw[h2]
    exact⟨rfl,fun h3=>absurd h3 h⟩
def eM (R:ai × List cW)(w:World)(e:Ending)(w':World) : Prop:=∃ A2 n2 c2,e = .returned (.tuple #[.slice A2 n2 c2,.int .i64 (be R.1.e)])∧(be R.1.e=0→b6 w.heap.size 109 4 (b9 true) w' (.slice A2 n2 c2) R.2)∧az [] w w'
theorem iU{f:FuncId}{args:Array Value}{R:ai × List cW}{w:World}(h:Calls Tryz.prog f args w (eM R w))(h0:be R.1.e=0) : Calls Tryz.prog f args w (fun e w'=>∃ v,e = .returned (.tuple #[v,.int .i64 0])∧b6 w.heap.size 109 4 (b9 true) w' v R.2∧az [] w w'):=by
  refine h.mono ?_
  rintro e w' ⟨A2,n2,c2,rfl,h1,h2⟩
  exact⟨_,by rw[h0],h1 h0,h2⟩
theorem gQ{f:FuncId}{args:Array Value}{R:ai × List cW}{w:World}(h:Calls Tryz.prog f args w (eM R w)) : Calls Tryz.prog f args w (fun e w'=>∃ A2 n2 c2,e = .returned (.tuple #[.slice A2 n2 c2,.int .i64 (be R.1.e)])∧az [] w w'):=by
  refine h.mono ?_
  rintro e w' ⟨A2,n2,c2,rfl,h1,h2⟩
  exact⟨A2,n2,c2,rfl,h2⟩
theorem sC{w0:World}{m:Md}{A:Option Addr}{cp:Nat}{full:List Int}{w:World}{g:Nat}{C:ai}(hC:RC w0 m A cp full w g C) : Calls Tryz.prog 218 #[.pointer (some ⟨g,0,none⟩)] w (ss w0 m A cp full g (cZ C) (aF C) w):=by
 have hr:gj C:=RC.rng hC
 refine en 42 Tryz.func218 rfl<|sg<|L0<|bD #[.int .u16 0,.int .u16 0,.int .u16 0,.slice none 0 0] fun N O b i a=>ng<|Pl 1<|?_
 refine L0<|Oc<|m3 (de (RC.upd hC a am (az.step (RC.u hC) a))) fun P c j Q=>Pl 1<|ng<|Pl 4<|L0<|cY (p:=⟨g,2,none⟩) (v:=.bool ((C.bytesC 1).sh)) (RC.fld2 c)<|Pl 1<|L0<|Oc<|m2 (aL ((!((C.bytesC 1).sh))) 5 c) fun R k l=>ng<|?_
 refine Pl 3<|L0<|Oc<|m2 (aL ((C.byteV==6)) 9 k) fun S n o=>?_
 refine eH n fun x26 q r=>?_
 refine ng<|Pl 1<|L0<|Oc<|m3 (ci r) fun T s t U=>Pl 1<|ng<|Pl 3<|L0<|Oc<|m2 (aL ((decide (0<x26.wordV))) 6 s) fun V y z=>nl<|?_
 refine tn<|sg<|Pl 1<|L0<|Oc<|m3 (ci y) fun W B D X=>Pl 1<|ng<|Pl 3<|L0<|Oc<|m2 (aL ((decide ((((x26.wordsC 1).need (decide (0<x26.wordV)) 6).wordV)≤9999))) 7 B) fun Y E F=>?_
 refine eH E fun x43 G H=>?_
 refine ng<|Pl 1<|L0<|Oc<|m3 (ci H) fun Z I J a0=>Pl 1<|ng<|Pl 3<|L0<|Oc<|m2 (aL ((decide (0<x43.wordV))) 5 I) fun a1 K L=>nl<|?_
 refine tn<|sg<|Pl 4<|?_
 have d:=u1 j (u1 l (u1 o (u1 t (u1 z (u1 D (u1 F (u1 J L im) im) im) im) im) im) im) im
 have e:=nb (RC.lt hC) lr b
 refine L0<|aT (aK d (Ne.symm e) i) #[.int .u16 x26.wordV,.int .u16 (((x26.wordsC 1).need (decide (0<x26.wordV)) 6).wordV),.int .u16 x43.wordV,.slice none 0 0] fun a2 M f=>nt<|rt<|tJ M<|?_
 subst G q
 have e1:cZ C=(((((((((C.bytesC 1).need (!((C.bytesC 1).sh)) 5).need (C.byteV==6) 9).wordsC 1).need (decide (0<(((C.bytesC 1).need (!((C.bytesC 1).sh)) 5).need (C.byteV==6) 9).wordV)) 6).wordsC 1).need (decide (((((((C.bytesC 1).need (!((C.bytesC 1).sh)) 5).need (C.byteV==6) 9).wordsC 1).need (decide (0<(((C.bytesC 1).need (!((C.bytesC 1).sh)) 5).need (C.byteV==6) 9).wordV)) 6).wordV)≤9999)) 7).wordsC 1).need (decide (0<(((((((C.bytesC 1).need (!((C.bytesC 1).sh)) 5).need (C.byteV==6) 9).wordsC 1).need (decide (0<(((C.bytesC 1).need (!((C.bytesC 1).sh)) 5).need (C.byteV==6) 9).wordV)) 6).wordsC 1).need (decide (((((((C.bytesC 1).need (!((C.bytesC 1).sh)) 5).need (C.byteV==6) 9).wordsC 1).need (decide (0<(((C.bytesC 1).need (!((C.bytesC 1).sh)) 5).need (C.byteV==6) 9).wordV)) 6).wordV)≤9999)) 7).wordV)) 5):=by rw[← oF hr];rfl
 have e2:(aF C).file=(((C.bytesC 1).need (!((C.bytesC 1).sh)) 5).need (C.byteV==6) 9).wordV:=by show(io C).wordV=_;rw[← qq];rfl
 have e3:(aF C).record=(((((C.bytesC 1).need (!((C.bytesC 1).sh)) 5).need (C.byteV==6) 9).wordsC 1).need (decide (0<(((C.bytesC 1).need (!((C.bytesC 1).sh)) 5).need (C.byteV==6) 9).wordV)) 6).wordV:=by show(ii C).wordV=_;rw[← py hr];rfl
 have e4:(aF C).count=(((((((C.bytesC 1).need (!((C.bytesC 1).sh)) 5).need (C.byteV==6) 9).wordsC 1).need (decide (0<(((C.bytesC 1).need (!((C.bytesC 1).sh)) 5).need (C.byteV==6) 9).wordV)) 6).wordsC 1).need (decide (((((((C.bytesC 1).need (!((C.bytesC 1).sh)) 5).need (C.byteV==6) 9).wordsC 1).need (decide (0<(((C.bytesC 1).need (!((C.bytesC 1).sh)) 5).need (C.byteV==6) 9).wordV)) 6).wordV)≤9999)) 7).wordV:=by show(lw C).wordV=_;rw[← pT hr];rfl
 have h:=ue a (us d f) b
 unfold ss
 rw[e1,e2,e3,e4]
 exact⟨rfl,dJ (by omega),dJ (by omega),dJ (by omega),(RC.upd K f (aa e am) (hC.u.trans' h (fun x hx=>.inr (by simp at hx;subst hx;exact hC.new)))),h⟩
theorem qt{m:Md}{A:Option Addr}{cp:Nat}{b:List Int}{w:World}(hsl:aQ m w (.slice A b.length cp) b)(hb:b.length≤1048576) :
    Calls Tryz.prog 163 #[.int .i64 0,.int .u8 20,.slice A b.length cp] w (eM (aI cn b.length 0 ⟨b,false,0⟩ []) w):=by
 have hln:(b.length:Int)≤1048576:=by omega
 refine en 108 Tryz.func163 rfl<|sg<|Pl 2<|ng<|Pl 2<|L0<|dC #[.slice A b.length cp,.int .i64 0,.bool false,.int .i64 0] fun d U E a8 F=>Pl 1<|nt<|sq<|?_
 refine go<|Pl 1<|ng<|Pl 1<|nt<|sq<|bk<|?_
 have V:RC w _ A cp b U d (ai.mk b false 0):=⟨hsl,F,E,⟨0,a8,Nat.zero_le _,rfl⟩,by omega⟩
 refine gI (fun x=>[(0,.int .i64 0),(1,.int .u8 20),(6,.slice none 0 0),(7,.int .i64 0),(8,.pointer (some ⟨d,0,none⟩)),(9,.slice x.2.2.2.1 x.2.2.1.length x.2.2.2.2.1),(10,.int .i64 x.2.2.2.2.2)]) (fun(x:Nat × ai × List cW × Option Addr × Nat × Int) w'=>az [] w w'∧U.heap.size≤w'.heap.size∧RC w m A cp b w' d x.2.1∧b6 w.heap.size 109 4 (b9 true) w' (.slice x.2.2.2.1 x.2.2.1.length x.2.2.2.2.1) x.2.2.1∧(0≤x.2.2.2.2.2)∧(x.2.1.e=0→x.2.2.2.2.2≤245)∧(x.2.2.1.length+x.2.1.l.length≤b.length)∧((x.2.1.e=0∧x.2.1.l.length≤x.1∧aI cn x.1 x.2.2.2.2.2 x.2.1 x.2.2.1=aI cn b.length 0 ⟨b,false,0⟩ [])∨(x.2.1.e≠0∧(aI cn b.length 0 ⟨b,false,0⟩ []).1=x.2.1))) (fun x=>x.2.1.l.length) (b.length,(ai.mk b false 0),[],none,0,0) ⟨F,lr,V,(b6.nil w.heap.size _ _ (b9 true) _),(by(try dsimp only);omega),(fun _=>(show(0:Int)≤245 from by decide)),(by(try dsimp only);simp),.inl ⟨rfl,Nat.le_refl _,rfl⟩⟩ ?_
 rintro⟨n,C,L,B,cq,s⟩ W ⟨a9,G,ab,ad,ae,af,ag,aj⟩
 refine gJ [(0,.int .i64 0),(1,.int .u8 20),(6,.slice none 0 0),(7,.int .i64 0),(8,.pointer (some ⟨d,0,none⟩)),(9,.slice B L.length cq),(10,.int .i64 s)] ?_
 have a:RC w m A cp b W d C:=ab
 have hlC:=RC.clen a
 have hrC:gj C:=RC.rng a
 have i:b6 w.heap.size 109 4 (b9 true) W (.slice B L.length cq) L:=ad
 have aR:0≤s:=ae
 have aS:C.e=0→s≤245:=af
 have aU:L.length+C.l.length≤b.length:=ag
 have H:(C.e=0∧C.l.length≤n∧aI cn n s C L=aI cn b.length 0 ⟨b,false,0⟩ [])∨(C.e≠0∧(aI cn b.length 0 ⟨b,false,0⟩ []).1=C):=aj
 refine sq<|sg<|Pl 1<|L0<|Oc<|m1 (fS a) fun aV c=>?_
 have aW:=RC.clen a
 refine Pl 2<|cu 6 [20] 26 (((decide (0<((C.l.length:Nat) : Int)))&&(C.e==0))) (fun K X=>?_) ?_
 refine bl 20 ((decide (0<((C.l.length:Nat) : Int)))) (fun j=>?_) (fun j=>?_)
 have ak:=of_decide_eq_true j
 refine Pl 3<|?_
 exact L1<|cY (p:=⟨d,3,none⟩) (v:=.int .i64 C.e) (RC.fld (RC.upd a c am (az.step (RC.u a) c)))<|Pl 2<|ce X (C.e==0) (by rw[j];rfl)
 have ak:=of_decide_eq_false j
 exact Pl 6<|ce X false (by rw[j];rfl)
 refine nt<|?_
 have I:=aE a9 c
 refine cb (((decide (0<((C.l.length:Nat) : Int)))&&(C.e==0))) (fun f=>?_) (fun f=>?_)
 have J:=(aO f).1
 have M:=(aO f).2
 have aY:=of_decide_eq_true J
 have b0:=ap M
 refine aX<|bk<|sg<|Pl 1<|L0<|bD #[.int .u16 0,.int .u16 0,.int .u16 0,.slice none 0 0] fun b1 b2 k al N=>L0<|aT al #[.int .u16 0,.int .u16 0,.int .u16 0,.slice none 0 0] fun b3 an O=>nt<|sq<|sg<|Pl 6<|nl<|?_
 refine tn<|c0<|sg<|Pl 1<|?_
 have Y:=ud N O k
 have r:=aE c Y
 refine L0<|Oc<|m5 (sC (RC.upd a r am (az.step (RC.u a) r))) fun b4 ao ar au aw t=>?_
 obtain⟨b5,b7⟩:=ao
 obtain⟨b8,ba⟩:=ar
 obtain⟨bb,bc⟩:=au
 have P:=nb (RC.lt V) (le G c.size) k
 refine L0<|aT (aK t (Ne.symm P) an) #[.int .u16 ((aF C).file),.int .u16 ((aF C).record),.int .u16 ((aF C).count),.slice none 0 0] fun bd Z y=>ng<|Pl 2<|nt<|c0<|sg<|Pl 1<|L0<|Oi (s+2)<|Pl 1<|L0<|aZ Z 2<|?_
 refine L0<|Oi ((aF C).count)<|L0<|Oi (2*((aF C).count))<|L0<|Oi ((s+2)+(2*((aF C).count)))<|Pl 1<|nt<|go<|Pl 3<|?_
 have Q:=us t y
 have a0:=ud I (ue Y Q k) E
 refine L0<|Oc<|m2 (aL ((decide (((s+2)+(2*((aF C).count)))≤245))) 5 (RC.upd aw y (aa P am) a0)) fun bf ay o=>?_
 refine eH ay fun x68 aC a1=>?_
 refine nt<|go<|Pl 1<|?_
 refine L0<|bV (aK o (Ne.symm P) Z)<|L0<|gA (m:=1) (e:=109) #[.int .u16 ((aF C).file),.int .u16 ((aF C).record),.int .u16 ((aF C).count),.slice none 0 0] fun bh bj bm aD z=>?_
 have aG:=ip (R:=b9 true) (x:=(cW.mk ((aF C).file) ((aF C).record) ((aF C).count) ([]))) aD rfl ⟨_,rfl,(aB.nil true _ _ _ _),dJ (x:=(aF C).file) (by omega),dJ (x:=(aF C).record) (by omega),dJ (x:=(aF C).count) (by omega)⟩
 have a2:=aE o z
 have a3:=ue r (u1 Q a2 im) (le c.size k)
 have a4:=ax i a3 (fun x hx=>(aa (fun e=>(RC.nrow a i (by decide)) (e▸hx)) am)) (b9.upd16 a3 (ah (RC.safe a _ (by decide)) aA))
 refine L0<|fm (xs:=L) (ys:=([(cW.mk ((aF C).file) ((aF C).record) ((aF C).count) ([]))])) (.agg #[.int .u16 0,.int .u16 0,.int .u16 0,.slice none 0 0]) 4 32 a4 aG (by simp) b9.ones (fun w' hv=>b9.upd16 hv (cc (cF _ a4 (by decide)) aA)) (by(try simp only[List.length_append,List.length_cons,List.length_nil,bB]);omega) (le (le (le (le (le (le (le (le F.size G) c.size) N.size) O.size) t.size) y.size) o.size) z.size) fun aH aJ bo aN S=>Pl 1<|nl<|bn<|?_
 subst aC
 have hC2:(cn s C).2.1=((cZ C).need (decide (((s+2)+(2*((aF C).count)))≤245)) 5):=by show dO s C=_;(try simp only[dO,dH,← Int.add_assoc,f,J,M,bs,if_true,if_false,decide_true,decide_false]);all_goals rfl
 have hM2:[(cn s C).2.2]=[(cW.mk ((aF C).file) ((aF C).record) ((aF C).count) ([]))]:=by show[aF C]=_;(try simp only[dO,dH,← Int.add_assoc,f,J,M,bs,if_true,if_false,decide_true,decide_false]);all_goals rfl
 have hS2:(cn s C).1=((s+2)+(2*((aF C).count))):=by(try (show dH s C=_));(try simp only[dH,← Int.add_assoc]);all_goals rfl
 have hlt:=nn s C (by omega)
 have h9:=fP (one:=cn) H (by omega) (by omega) hlt
 rw[hC2,hM2,hS2] at h9
 rw[hC2] at hlt
 have a5:=ut a0 (ut (az.mono (S':=(d :: (ob B++[]))) a2 (ac im av)) S (aM il av)) (ac (nr E) (aM (cC i lr) av))
 have a6:=ue r (u1 Q o im) (le c.size k)
 exact ek ((n-1),((cZ C).need (decide (((s+2)+(2*((aF C).count)))≤245)) 5),(L++[(cW.mk ((aF C).file) ((aF C).record) ((aF C).count) ([]))]),aH,aJ,((s+2)+(2*((aF C).count)))) ⟨a5,(le (le (le (le (le (le (le (le G c.size) N.size) O.size) t.size) y.size) o.size) z.size) S.size),(RC.upd a1 (ut (az.mono (S':=(ob B++[])) z av) S (aM il av)) (bi (RC.nrow a1 (ax i a6 (fun x hx=>(aa (fun e=>(RC.nrow a i (by decide)) (e▸hx)) am)) (b9.upd16 a6 (ah (RC.safe a _ (by decide)) aA))) (by decide)) am) a5),aN,(by(try dsimp only);omega),(by(try dsimp only);intro he;have hk:=(nG (by decide) he).2;simp only[decide_eq_true_eq] at hk;omega),(by(try dsimp only);simp only[List.length_append,List.length_cons,List.length_nil];omega),h9⟩ (by omega)
 refine xt<|tx<|tx<|bx<|tn<|sq<|sg<|Pl 3<|?_
 have T:=RC.upd a c am (az.step (RC.u a) c)
 refine L0<|cY (p:=⟨d,3,none⟩) (v:=.int .i64 C.e) (RC.fld T)<|Pl 1<|nt<|cb ((C.e==2)) (fun q=>?_) (fun q=>?_)
 have aP:=ap q
 refine sg<|Pl 2<|nt<|rt<|tr<|rr (.tuple #[.slice none 0 0,.int .i64 5])<|?_
 obtain⟨io,ii⟩:=er H f
 have hw:be (aI cn b.length 0 ⟨b,false,0⟩ []).1.e=5:=by unfold be;rw[io,if_pos q]
 refine⟨none,0,0,by rw[hw],fun h=>absurd (hw.symm.trans h) (by decide),I⟩
 have aP:=aq q
 refine aX<|sq<|Rg 7 (fun w'=>w'.cell? ⟨d,3,none⟩=some (.int .i64 C.e)) fun bp D=>?_
 refine bg (RC.fld (RC.upd T D am (az.step (RC.u T) D))) fun g=>Rt 0 g<|Rt 1 g<|Rt 2 g<|Rt 3 g<|Rl 4 g (fun _ hs=>hs)<|Rt 5 g<|Rt 6 g<|re<|tn<|rt<|rr (.tuple #[.slice B L.length cq,.int .i64 C.e])<|?_
 obtain⟨io,ii⟩:=er H f
 have hw:be (aI cn b.length 0 ⟨b,false,0⟩ []).1.e=C.e:=by unfold be;rw[io,if_neg (by rw[q];decide)]
 have a7:=aE c D
 refine⟨_,_,_,by rw[hw],fun h=>by rw[ii (hw.symm.trans h)];exact(ax i a7 (fun x hx=>am) (b9.upd16 a7 aA)),(aE I D)⟩
theorem pG{m:Md}{A:Option Addr}{cp:Nat}{b:List Int}{w:World}(hsl:aQ m w (.slice A b.length cp) b)(hb:b.length≤1048576) :
    Calls Tryz.prog 163 #[.int .i64 1,.int .u8 20,.slice A b.length cp] w (eM (aI bz b.length 0 ⟨b,false,0⟩ []) w):=by
 have hln:(b.length:Int)≤1048576:=by omega
 refine en 108 Tryz.func163 rfl<|sg<|Pl 2<|ng<|Pl 2<|L0<|dC #[.slice A b.length cp,.int .i64 0,.bool false,.int .i64 0] fun f ag M ba N=>Pl 1<|nt<|sq<|?_
 refine go<|Pl 1<|ng<|Pl 1<|nt<|sq<|bk<|?_
 have Z:RC w _ A cp b ag f (ai.mk b false 0):=⟨hsl,N,M,⟨0,ba,Nat.zero_le _,rfl⟩,by omega⟩
 refine gI (fun x=>[(0,.int .i64 1),(1,.int .u8 20),(6,.slice none 0 0),(7,.int .i64 0),(8,.pointer (some ⟨f,0,none⟩)),(9,.slice x.2.2.2.1 x.2.2.1.length x.2.2.2.2.1),(10,.int .i64 x.2.2.2.2.2)]) (fun(x:Nat × ai × List cW × Option Addr × Nat × Int) w'=>az [] w w'∧ag.heap.size≤w'.heap.size∧RC w m A cp b w' f x.2.1∧b6 w.heap.size 109 4 (b9 true) w' (.slice x.2.2.2.1 x.2.2.1.length x.2.2.2.2.1) x.2.2.1∧(0≤x.2.2.2.2.2)∧(x.2.1.e=0→x.2.2.2.2.2≤245)∧(x.2.2.1.length+x.2.1.l.length≤b.length)∧((x.2.1.e=0∧x.2.1.l.length≤x.1∧aI bz x.1 x.2.2.2.2.2 x.2.1 x.2.2.1=aI bz b.length 0 ⟨b,false,0⟩ [])∨(x.2.1.e≠0∧(aI bz b.length 0 ⟨b,false,0⟩ []).1=x.2.1))) (fun x=>x.2.1.l.length) (b.length,(ai.mk b false 0),[],none,0,0) ⟨N,lr,Z,(b6.nil w.heap.size _ _ (b9 true) _),(by(try dsimp only);omega),(fun _=>(show(0:Int)≤245 from by decide)),(by(try dsimp only);simp),.inl ⟨rfl,Nat.le_refl _,rfl⟩⟩ ?_
 rintro⟨n,C,L,B,cq,s⟩ aj ⟨bb,r,bc,bd,bf,bh,bj,bm⟩
 refine gJ [(0,.int .i64 1),(1,.int .u8 20),(6,.slice none 0 0),(7,.int .i64 0),(8,.pointer (some ⟨f,0,none⟩)),(9,.slice B L.length cq),(10,.int .i64 s)] ?_
 have a:RC w m A cp b aj f C:=bc
 have hlC:=RC.clen a
 have hrC:gj C:=RC.rng a
 have d:b6 w.heap.size 109 4 (b9 true) aj (.slice B L.length cq) L:=bd
 have bX:0≤s:=bf
 have bY:C.e=0→s≤245:=bh
 have bZ:L.length+C.l.length≤b.length:=bj
 have O:(C.e=0∧C.l.length≤n∧aI bz n s C L=aI bz b.length 0 ⟨b,false,0⟩ [])∨(C.e≠0∧(aI bz b.length 0 ⟨b,false,0⟩ []).1=C):=bm
 refine sq<|sg<|Pl 1<|L0<|Oc<|m1 (fS a) fun c0 c=>?_
 have c2:=RC.clen a
 refine Pl 2<|cu 6 [20] 26 (((decide (0<((C.l.length:Nat) : Int)))&&(C.e==0))) (fun K al=>?_) ?_
 refine bl 20 ((decide (0<((C.l.length:Nat) : Int)))) (fun z=>?_) (fun z=>?_)
 have bo:=of_decide_eq_true z
 refine Pl 3<|?_
 exact L1<|cY (p:=⟨f,3,none⟩) (v:=.int .i64 C.e) (RC.fld (RC.upd a c am (az.step (RC.u a) c)))<|Pl 2<|ce al (C.e==0) (by rw[z];rfl)
 have bo:=of_decide_eq_false z
 exact Pl 6<|ce al false (by rw[z];rfl)
 refine nt<|?_
 have D:=aE bb c
 refine cb (((decide (0<((C.l.length:Nat) : Int)))&&(C.e==0))) (fun g=>?_) (fun g=>?_)
 have E:=(aO g).1
 have F:=(aO g).2
 have c3:=of_decide_eq_true E
 have c4:=ap F
 refine aX<|bk<|sg<|Pl 1<|L0<|bD #[.int .u16 0,.int .u16 0,.int .u16 0,.slice none 0 0] fun P c5 j a0 G=>L0<|aT a0 #[.int .u16 0,.int .u16 0,.int .u16 0,.slice none 0 0] fun c6 an k=>nt<|sq<|sg<|Pl 6<|nl<|?_
 refine tn<|c1<|sg<|Pl 1<|?_
 have ao:=ud G k j
 have t:=aE c ao
 refine L0<|Oc<|m3 (de (RC.upd a t am (az.step (RC.u a) t))) fun c7 H i c8=>L0<|Oi C.byteV<|Pl 1<|ng<|Pl 2<|L0<|Oe (.int .i64 (Int.tmod C.byteV 2)) (.int .i64 (C.byteV%2)) (congrArg (Value.int .i64) (Int.tmod_eq_emod_of_nonneg (by omega)))<|Pl 2<|cu 3 [41] 44 ((((C.byteV%2)==1)&&(decide (3≤C.byteV)))) (fun K ar=>?_) ?_
 refine bl 41 (((C.byteV%2)==1)) (fun I=>?_) (fun I=>?_)
 have bp:=ap I
 exact Pl 3<|ce ar (decide (3≤C.byteV)) (by rw[I];rfl)
 have bp:=aq I
 exact Pl 3<|ce ar false (by rw[I];rfl)
 refine Pl 1<|?_
 have au:=ud D (uz ao i) M
 refine bl 45 ((((C.byteV%2)==1)&&(decide (3≤C.byteV)))) (fun o=>?_) (fun o=>?_)
 have a1:=(aO o).1
 have a2:=(aO o).2
 have c9:=ap a1
 have ca:=of_decide_eq_true a2
 refine Pl 2<|L1<|Oc<|m1 (fS H) fun cd y=>?_
 have cf:=RC.clen H
 refine Pl 2<|?_
 refine L0<|Oc<|m2 (aL ((decide (C.byteV≤(((C.bytesC 1).l.length:Nat) : Int)))) 5 (RC.upd H y am (az.step (RC.u H) y))) fun cg bq Q=>?_
 refine eH bq fun x66 br bt=>?_
 refine ng<|Pl 1<|L0<|Oc<|m3 (de bt) fun ch bu S ci=>Pl 1<|ng<|Pl 3<|L0<|Oc<|m2 (aL ((x66.byteV==6)) 9 bu) fun cj bv T=>nl<|?_
 refine tn<|go<|Pl 2<|L0<|Oi (C.byteV-1)<|?_
 have ck:=jM (x:=(C.byteV-1)) (by omega)
 refine L0<|Oe (.int .i64 (IntKind.i64.wrap (Int.tdiv (C.byteV-1) 2))) (.int .i64 (Int.tdiv (C.byteV-1) 2)) (congrArg (Value.int .i64) (iG (by omega) (by omega)))<|L0<|Oc<|jc (eQ (n:=(Int.tdiv (C.byteV-1) 2)) (by omega) bv) fun aw aB cl aC cm cn bw a3=>?_
 refine eH bw fun x82 bA aD=>?_
 refine Pl 1<|?_
 have aF:=uz y (u1 Q (u1 S (u1 T a3 im) im) im)
 have a4:=u1 i aF im
 have aG:=nb (RC.lt Z) (le r c.size) j
 refine L0<|bC (aK a4 (Ne.symm aG) an) 3 #[.int .u16 0,.int .u16 0,.int .u16 0,.slice aw ((((x66.bytesC 1).need (x66.byteV==6) 9).wordsR (Int.tdiv (C.byteV-1) 2)).length) aB] fun co bE a5=>nt<|go<|Pl 1<|L0<|bV bE<|L0<|gA (m:=1) (e:=109) #[.int .u16 0,.int .u16 0,.int .u16 0,.slice aw ((((x66.bytesC 1).need (x66.byteV==6) 9).wordsR (Int.tdiv (C.byteV-1) 2)).length) aB] fun cr cs ct bF a6=>?_
 have a7:=aE a5 a6
 have bG:=ip (R:=b9 true) (x:=(cW.mk 0 0 0 (((x66.bytesC 1).need (x66.byteV==6) 9).wordsR (Int.tdiv (C.byteV-1) 2)))) bF rfl ⟨_,rfl,((ax aC a7 (fun x hx=>(aa (fun e=>(ay (ak a0) (le (le (le (le (le k.size i.size) y.size) Q.size) S.size) T.size) aC) (e▸hx)) am)) (fun _ _ h=>h))).rd,dJ (x:=0) (by omega),dJ (x:=0) (by omega),dJ (x:=0) (by omega)⟩
 have aH:=ue t (us a4 a7) (le c.size j)
 have aJ:=ax d aH (fun x hx=>(aa (fun e=>(RC.nrow a d (by decide)) (e▸hx)) am)) (b9.upd16 aH (ah (RC.safe a _ (by decide)) aA))
 refine L0<|fm (xs:=L) (ys:=([(cW.mk 0 0 0 (((x66.bytesC 1).need (x66.byteV==6) 9).wordsR (Int.tdiv (C.byteV-1) 2)))])) (.agg #[.int .u16 0,.int .u16 0,.int .u16 0,.slice none 0 0]) 4 32 aJ bG (by simp) b9.ones (fun w' hv=>b9.upd16 hv (cc (cF _ aJ (by decide)) aA)) (by(try simp only[List.length_append,List.length_cons,List.length_nil,bB]);omega) (le (le (le (le (le (le (le (le (le (le (le (le N.size r) c.size) G.size) k.size) i.size) y.size) Q.size) S.size) T.size) a3.size) a5.size) a6.size) fun bH bI cv bJ aN=>Pl 1<|nl<|bn<|?_
 subst bA br
 have hC2:(bz s C).2.1=(((((C.bytesC 1).need (decide (C.byteV≤(((C.bytesC 1).l.length:Nat) : Int))) 5).bytesC 1).need (((C.bytesC 1).need (decide (C.byteV≤(((C.bytesC 1).l.length:Nat) : Int))) 5).byteV==6) 9).wordsC (Int.tdiv (C.byteV-1) 2)):=by show dV C=_;(try simp only[dV,dK,fW,fU,g,E,F,o,a1,a2,bs,if_true,if_false,decide_true,decide_false]);all_goals rfl
 have hM2:[(bz s C).2.2]=[(cW.mk 0 0 0 (((((C.bytesC 1).need (decide (C.byteV≤(((C.bytesC 1).l.length:Nat) : Int))) 5).bytesC 1).need (((C.bytesC 1).need (decide (C.byteV≤(((C.bytesC 1).l.length:Nat) : Int))) 5).byteV==6) 9).wordsR (Int.tdiv (C.byteV-1) 2)))]:=by show[dK C]=_;(try simp only[dV,dK,fW,fU,g,E,F,o,a1,a2,bs,if_true,if_false,decide_true,decide_false]);all_goals rfl
 have hS2:(bz s C).1=s:=by(try (show s=_));(try simp only[dH,← Int.add_assoc]);all_goals rfl
 have hlt:=iX s C (by omega)
 have h9:=fP (one:=bz) O (by omega) (by omega) hlt
 rw[hC2,hM2,hS2] at h9
 rw[hC2] at hlt
 have aP:=ut (az.mono (S':=(P :: (ob B++[]))) a7 (ac im av)) aN (aM il av)
 have aR:=ut au (ut (az.mono (S':=(f :: (P :: (ob B++[])))) aF (ac im av)) aP (ac im (aM il av))) (ac (nr M) (ac (ni D.size j) (aM (cC d lr) av)))
 have aS:=uz t a4
 exact ek ((n-1),(((((C.bytesC 1).need (decide (C.byteV≤(((C.bytesC 1).l.length:Nat) : Int))) 5).bytesC 1).need (((C.bytesC 1).need (decide (C.byteV≤(((C.bytesC 1).l.length:Nat) : Int))) 5).byteV==6) 9).wordsC (Int.tdiv (C.byteV-1) 2)),(L++[(cW.mk 0 0 0 (((((C.bytesC 1).need (decide (C.byteV≤(((C.bytesC 1).l.length:Nat) : Int))) 5).bytesC 1).need (((C.bytesC 1).need (decide (C.byteV≤(((C.bytesC 1).l.length:Nat) : Int))) 5).byteV==6) 9).wordsR (Int.tdiv (C.byteV-1) 2)))]),bH,bI,s) ⟨aR,(le (le (le (le (le (le (le (le (le (le (le (le r c.size) G.size) k.size) i.size) y.size) Q.size) S.size) T.size) a3.size) a5.size) a6.size) aN.size),(RC.upd aD aP (aa aG (bi (RC.nrow aD (ax d aS (fun x hx=>(aa (fun e=>(RC.nrow a d (by decide)) (e▸hx)) am)) (b9.upd16 aS (ah (RC.safe a _ (by decide)) aA))) (by decide)) am)) aR),bJ,(by(try dsimp only);omega),(by(try dsimp only);intro he;omega),(by(try dsimp only);simp only[List.length_append,List.length_cons,List.length_nil];omega),h9⟩ (by omega)
 refine Pl 5<|L0<|Oc<|m2 (aL (false) 5 H) fun cw bK U=>ng<|Pl 1<|L0<|Oc<|m3 (de bK) fun cx bL V cy=>Pl 1<|ng<|Pl 3<|L0<|Oc<|m2 (aL (((((C.bytesC 1).need false 5).byteV)==6)) 9 bL) fun cz bM W=>?_
 refine eH bM fun X bN bO=>?_
 refine nt<|go<|Pl 2<|L0<|Oi (C.byteV-1)<|?_
 have cA:=jM (x:=(C.byteV-1)) (by omega)
 refine L0<|Oe (.int .i64 (IntKind.i64.wrap (Int.tdiv (C.byteV-1) 2))) (.int .i64 (Int.tdiv (C.byteV-1) 2)) (congrArg (Value.int .i64) (iG (by omega) (by omega)))<|L0<|Oc<|jc (eQ (n:=(Int.tdiv (C.byteV-1) 2)) (by omega) bO) fun aU aV cB aW cD cE aY a8=>Pl 1<|?_
 have aZ:=u1 U (u1 V (u1 W a8 im) im) im
 have a9:=u1 i aZ im
 have b0:=nb (RC.lt Z) (le r c.size) j
 refine L0<|bC (aK a9 (Ne.symm b0) an) 3 #[.int .u16 0,.int .u16 0,.int .u16 0,.slice aU ((X.wordsR (Int.tdiv (C.byteV-1) 2)).length) aV] fun cG bP ab=>nt<|go<|Pl 1<|L0<|bV bP<|L0<|gA (m:=1) (e:=109) #[.int .u16 0,.int .u16 0,.int .u16 0,.slice aU ((X.wordsR (Int.tdiv (C.byteV-1) 2)).length) aV] fun cH cI cJ bQ ad=>?_
 have ae:=aE ab ad
 have bR:=ip (R:=b9 true) (x:=(cW.mk 0 0 0 (X.wordsR (Int.tdiv (C.byteV-1) 2)))) bQ rfl ⟨_,rfl,((ax aW ae (fun x hx=>(aa (fun e=>(ay (ak a0) (le (le (le (le k.size i.size) U.size) V.size) W.size) aW) (e▸hx)) am)) (fun _ _ h=>h))).rd,dJ (x:=0) (by omega),dJ (x:=0) (by omega),dJ (x:=0) (by omega)⟩
 have b1:=ue t (us a9 ae) (le c.size j)
 have b2:=ax d b1 (fun x hx=>(aa (fun e=>(RC.nrow a d (by decide)) (e▸hx)) am)) (b9.upd16 b1 (ah (RC.safe a _ (by decide)) aA))
 refine L0<|fm (xs:=L) (ys:=([(cW.mk 0 0 0 (X.wordsR (Int.tdiv (C.byteV-1) 2)))])) (.agg #[.int .u16 0,.int .u16 0,.int .u16 0,.slice none 0 0]) 4 32 b2 bR (by simp) b9.ones (fun w' hv=>b9.upd16 hv (cc (cF _ b2 (by decide)) aA)) (by(try simp only[List.length_append,List.length_cons,List.length_nil,bB]);omega) (le (le (le (le (le (le (le (le (le (le (le N.size r) c.size) G.size) k.size) i.size) U.size) V.size) W.size) a8.size) ab.size) ad.size) fun bS bT cK bU b3=>Pl 1<|nl<|bn<|?_
 subst bN
 have hC2:(bz s C).2.1=(((((C.bytesC 1).need false 5).bytesC 1).need ((((C.bytesC 1).need false 5).byteV)==6) 9).wordsC (Int.tdiv (C.byteV-1) 2)):=by show dV C=_;(try simp only[dV,dK,fW,fU,g,E,F,o,bs,if_true,if_false,decide_true,decide_false]);all_goals rfl
 have hM2:[(bz s C).2.2]=[(cW.mk 0 0 0 (((((C.bytesC 1).need false 5).bytesC 1).need ((((C.bytesC 1).need false 5).byteV)==6) 9).wordsR (Int.tdiv (C.byteV-1) 2)))]:=by show[dK C]=_;(try simp only[dV,dK,fW,fU,g,E,F,o,bs,if_true,if_false,decide_true,decide_false]);all_goals rfl
 have hS2:(bz s C).1=s:=by(try (show s=_));(try simp only[dH,← Int.add_assoc]);all_goals rfl
 have hlt:=iX s C (by omega)
 have h9:=fP (one:=bz) O (by omega) (by omega) hlt
 rw[hC2,hM2,hS2] at h9
 rw[hC2] at hlt
 have b4:=ut (az.mono (S':=(P :: (ob B++[]))) ae (ac im av)) b3 (aM il av)
 have b5:=ut au (ut (az.mono (S':=(f :: (P :: (ob B++[])))) aZ (ac im av)) b4 (ac im (aM il av))) (ac (nr M) (ac (ni D.size j) (aM (cC d lr) av)))
 have b7:=uz t a9
 exact ek ((n-1),(((((C.bytesC 1).need false 5).bytesC 1).need ((((C.bytesC 1).need false 5).byteV)==6) 9).wordsC (Int.tdiv (C.byteV-1) 2)),(L++[(cW.mk 0 0 0 (((((C.bytesC 1).need false 5).bytesC 1).need ((((C.bytesC 1).need false 5).byteV)==6) 9).wordsR (Int.tdiv (C.byteV-1) 2)))]),bS,bT,s) ⟨b5,(le (le (le (le (le (le (le (le (le (le (le r c.size) G.size) k.size) i.size) U.size) V.size) W.size) a8.size) ab.size) ad.size) b3.size),(RC.upd aY b4 (aa b0 (bi (RC.nrow aY (ax d b7 (fun x hx=>(aa (fun e=>(RC.nrow a d (by decide)) (e▸hx)) am)) (b9.upd16 b7 (ah (RC.safe a _ (by decide)) aA))) (by decide)) am)) b5),bU,(by(try dsimp only);omega),(by(try dsimp only);intro he;omega),(by(try dsimp only);simp only[List.length_append,List.length_cons,List.length_nil];omega),h9⟩ (by omega)
 refine xt<|tx<|tx<|bx<|tn<|sq<|sg<|Pl 3<|?_
 have af:=RC.upd a c am (az.step (RC.u a) c)
 refine L0<|cY (p:=⟨f,3,none⟩) (v:=.int .i64 C.e) (RC.fld af)<|Pl 1<|nt<|cb ((C.e==2)) (fun J=>?_) (fun J=>?_)
 have bW:=ap J
 refine sg<|Pl 2<|nt<|rt<|tr<|rr (.tuple #[.slice none 0 0,.int .i64 5])<|?_
 obtain⟨io,ii⟩:=er O g
 have hw:be (aI bz b.length 0 ⟨b,false,0⟩ []).1.e=5:=by unfold be;rw[io,if_pos J]
 refine⟨none,0,0,by rw[hw],fun h=>absurd (hw.symm.trans h) (by decide),D⟩
 have bW:=aq J
 refine aX<|sq<|Rg 7 (fun w'=>w'.cell? ⟨f,3,none⟩=some (.int .i64 C.e)) fun cL Y=>?_
 refine bg (RC.fld (RC.upd af Y am (az.step (RC.u af) Y))) fun q=>Rt 0 q<|Rt 1 q<|Rt 2 q<|Rt 3 q<|Rl 4 q (fun _ hs=>hs)<|Rt 5 q<|Rt 6 q<|re<|tn<|rt<|rr (.tuple #[.slice B L.length cq,.int .i64 C.e])<|?_
 obtain⟨io,ii⟩:=er O g
 have hw:be (aI bz b.length 0 ⟨b,false,0⟩ []).1.e=C.e:=by unfold be;rw[io,if_neg (by rw[J];decide)]
 have b8:=aE c Y
 refine⟨_,_,_,by rw[hw],fun h=>by rw[ii (hw.symm.trans h)];exact(ax d b8 (fun x hx=>am) (b9.upd16 b8 aA)),(aE D Y)⟩
theorem qs{m:Md}{A:Option Addr}{cp:Nat}{b:List Int}{w:World}{dir:Int}(hsl:aQ m w (.slice A b.length cp) b)(hb:b.length≤1048576) :
    Calls Tryz.prog 163 #[.int .i64 dir,.int .u8 21,.slice A b.length cp] w (eM (aI cm b.length 0 ⟨b,false,0⟩ []) w):=by
 have hln:(b.length:Int)≤1048576:=by omega
 refine en 108 Tryz.func163 rfl<|sg<|Pl 2<|ng<|Pl 2<|L0<|dC #[.slice A b.length cp,.int .i64 0,.bool false,.int .i64 0] fun d a3 N aD O=>Pl 1<|nt<|sq<|?_
 refine go<|Pl 1<|ng<|Pl 1<|nt<|sq<|bk<|?_
 have a4:RC w _ A cp b a3 d (ai.mk b false 0):=⟨hsl,O,N,⟨0,aD,Nat.zero_le _,rfl⟩,by omega⟩
 refine gI (fun x=>[(0,.int .i64 dir),(1,.int .u8 21),(6,.slice none 0 0),(7,.int .i64 0),(8,.pointer (some ⟨d,0,none⟩)),(9,.slice x.2.2.2.1 x.2.2.1.length x.2.2.2.2.1),(10,.int .i64 x.2.2.2.2.2)]) (fun(x:Nat × ai × List cW × Option Addr × Nat × Int) w'=>az [] w w'∧a3.heap.size≤w'.heap.size∧RC w m A cp b w' d x.2.1∧b6 w.heap.size 109 4 (b9 true) w' (.slice x.2.2.2.1 x.2.2.1.length x.2.2.2.2.1) x.2.2.1∧(0≤x.2.2.2.2.2)∧(x.2.1.e=0→x.2.2.2.2.2≤245)∧(x.2.2.1.length+x.2.1.l.length≤b.length)∧((x.2.1.e=0∧x.2.1.l.length≤x.1∧aI cm x.1 x.2.2.2.2.2 x.2.1 x.2.2.1=aI cm b.length 0 ⟨b,false,0⟩ [])∨(x.2.1.e≠0∧(aI cm b.length 0 ⟨b,false,0⟩ []).1=x.2.1))) (fun x=>x.2.1.l.length) (b.length,(ai.mk b false 0),[],none,0,0) ⟨O,lr,a4,(b6.nil w.heap.size _ _ (b9 true) _),(by(try dsimp only);omega),(fun _=>(show(0:Int)≤245 from by decide)),(by(try dsimp only);simp),.inl ⟨rfl,Nat.le_refl _,rfl⟩⟩ ?_
 rintro⟨n,C,L,B,cq,s⟩ a5 ⟨aG,P,aH,aJ,aN,aP,aR,aS⟩
 refine gJ [(0,.int .i64 dir),(1,.int .u8 21),(6,.slice none 0 0),(7,.int .i64 0),(8,.pointer (some ⟨d,0,none⟩)),(9,.slice B L.length cq),(10,.int .i64 s)] ?_
 have a:RC w m A cp b a5 d C:=aH
 have hlC:=RC.clen a
 have hrC:gj C:=RC.rng a
 have j:b6 w.heap.size 109 4 (b9 true) a5 (.slice B L.length cq) L:=aJ
 have bj:0≤s:=aN
 have bm:C.e=0→s≤245:=aP
 have bo:L.length+C.l.length≤b.length:=aR
 have Q:(C.e=0∧C.l.length≤n∧aI cm n s C L=aI cm b.length 0 ⟨b,false,0⟩ [])∨(C.e≠0∧(aI cm b.length 0 ⟨b,false,0⟩ []).1=C):=aS
 refine sq<|sg<|Pl 1<|L0<|Oc<|m1 (fS a) fun bp c=>?_
 have bq:=RC.clen a
 refine Pl 2<|cu 6 [20] 26 (((decide (0<((C.l.length:Nat) : Int)))&&(C.e==0))) (fun K a6=>?_) ?_
 refine bl 20 ((decide (0<((C.l.length:Nat) : Int)))) (fun r=>?_) (fun r=>?_)
 have aU:=of_decide_eq_true r
 refine Pl 3<|?_
 exact L1<|cY (p:=⟨d,3,none⟩) (v:=.int .i64 C.e) (RC.fld (RC.upd a c am (az.step (RC.u a) c)))<|Pl 2<|ce a6 (C.e==0) (by rw[r];rfl)
 have aU:=of_decide_eq_false r
 exact Pl 6<|ce a6 false (by rw[r];rfl)
 refine nt<|?_
 have F:=aE aG c
 refine cb (((decide (0<((C.l.length:Nat) : Int)))&&(C.e==0))) (fun g=>?_) (fun g=>?_)
 have S:=(aO g).1
 have T:=(aO g).2
 have br:=of_decide_eq_true S
 have bt:=ap T
 refine aX<|bk<|sg<|Pl 1<|L0<|bD #[.int .u16 0,.int .u16 0,.int .u16 0,.slice none 0 0] fun U bu k a7 V=>L0<|aT a7 #[.int .u16 0,.int .u16 0,.int .u16 0,.slice none 0 0] fun bv aV G=>nt<|sq<|sg<|Pl 6<|nl<|?_
 refine tn<|c0<|sg<|Pl 1<|?_
 have a8:=ud V G k
 have H:=aE c a8
 refine L0<|Oc<|m5 (sC (RC.upd a H am (az.step (RC.u a) H))) fun bw aW aY b0 b1 t=>?_
 obtain⟨bz,bA⟩:=aW
 obtain⟨bE,bF⟩:=aY
 obtain⟨bG,bH⟩:=b0
 have y:=nb (RC.lt a4) (le P c.size) k
 refine L0<|aT (aK t (Ne.symm y) aV) #[.int .u16 ((aF C).file),.int .u16 ((aF C).record),.int .u16 ((aF C).count),.slice none 0 0] fun bI b2 I=>ng<|Pl 2<|nt<|c1<|sq<|Rg 9 (fun w'=>w'.cell? ⟨U,2,none⟩=some (.int .u16 ((aF C).count))) fun bJ z=>?_
 have a9:=ub z b2
 refine bg (au a9 rfl) fun o=>Rt 0 o<|Rt 1 o<|Rl 2 o (fun _ hs=>hs)<|Rr 3 o (.int .i64 ((aF C).count)) (fun _ _=>ck (.int .i64 (IntKind.i64.wrap ((aF C).count))) (by kernel_rfl) (congrArg (Value.int .i64) (i64_in (by omega))))<|Rr 4 o (.int .i64 (2*((aF C).count))) (fun _ _=>ck (.int .i64 (IntKind.i64.wrap (2*((aF C).count)))) (by kernel_rfl) (congrArg (Value.int .i64) (IntWalk.i64_in _ (by omega))))<|Rt 5 o<|?_
 have ab:=aE I z
 have W:=us t ab
 have ad:=ud F (ue a8 W k) N
 have J:=RC.upd b1 ab (aa y am) ad
 refine R0 6 rfl<|Oc<|m1 (fS J) fun bK f=>?_
 have bL:=RC.clen J
 have ae:=ub f a9
 refine bg (au ae rfl) fun b3=>Rt 7 b3<|?_
 refine R0 8 rfl<|Oc<|m2 (aL ((decide ((2*((aF C).count))≤(((cZ C).l.length:Nat) : Int)))) 5 (RC.upd J f am (az.step (RC.u J) f))) fun bM b4 q=>?_
 refine eH b4 fun x93 b5 b7=>?_
 have X:=aK q (Ne.symm y) ae
 refine bg (au X rfl) fun bN=>re<|tn<|go<|Pl 2<|L0<|aZ X 2<|L0<|Oi ((aF C).count)<|L0<|Oc<|jc (eQ (n:=(aF C).count) (by omega) b7) fun af ag bO aj bP bQ al D=>Pl 1<|?_
 refine L0<|bC (aK D (Ne.symm y) X) 3 #[.int .u16 ((aF C).file),.int .u16 ((aF C).record),.int .u16 ((aF C).count),.slice af ((x93.wordsR ((aF C).count)).length) ag] fun bR b8 Y=>nt<|go<|Pl 1<|L0<|bV b8<|L0<|gA (m:=1) (e:=109) #[.int .u16 ((aF C).file),.int .u16 ((aF C).record),.int .u16 ((aF C).count),.slice af ((x93.wordsR ((aF C).count)).length) ag] fun bS bT bU ba Z=>?_
 have a0:=aE Y Z
 have bb:=ip (R:=b9 true) (x:=(cW.mk ((aF C).file) ((aF C).record) ((aF C).count) (x93.wordsR ((aF C).count)))) ba rfl ⟨_,rfl,((ax aj a0 (fun x hx=>(aa (fun e=>(ay (ak a7) (le (le (le (le (le G.size t.size) I.size) z.size) f.size) q.size) aj) (e▸hx)) am)) (fun _ _ h=>h))).rd,dJ (x:=(aF C).file) (by omega),dJ (x:=(aF C).record) (by omega),dJ (x:=(aF C).count) (by omega)⟩
 have an:=uz f (ui q (us D a0))
 have ao:=ue H (ut W an (ac im (ac im av))) (le c.size k)
 have ar:=ax j ao (fun x hx=>(aa (fun e=>(RC.nrow a j (by decide)) (e▸hx)) am)) (b9.upd16 ao (ah (RC.safe a _ (by decide)) aA))
 refine L0<|fm (xs:=L) (ys:=([(cW.mk ((aF C).file) ((aF C).record) ((aF C).count) (x93.wordsR ((aF C).count)))])) (.agg #[.int .u16 0,.int .u16 0,.int .u16 0,.slice none 0 0]) 4 32 ar bb (by simp) b9.ones (fun w' hv=>b9.upd16 hv (cc (cF _ ar (by decide)) aA)) (by(try simp only[List.length_append,List.length_cons,List.length_nil,bB]);omega) (le (le (le (le (le (le (le (le (le (le (le (le O.size P) c.size) V.size) G.size) t.size) I.size) z.size) f.size) q.size) D.size) Y.size) Z.size) fun bc bd bW bf a1=>Pl 1<|nl<|bn<|?_
 subst b5
 have hC2:(cm s C).2.1=(((cZ C).need (decide ((2*((aF C).count))≤(((cZ C).l.length:Nat) : Int))) 5).wordsC ((aF C).count)):=by show gE C=_;(try simp only[gE,ge,lQ,g,S,T,bs,if_true,if_false,decide_true,decide_false]);all_goals rfl
 have hM2:[(cm s C).2.2]=[(cW.mk ((aF C).file) ((aF C).record) ((aF C).count) (((cZ C).need (decide ((2*((aF C).count))≤(((cZ C).l.length:Nat) : Int))) 5).wordsR ((aF C).count)))]:=by show[ge C]=_;(try simp only[gE,ge,lQ,g,S,T,bs,if_true,if_false,decide_true,decide_false]);all_goals rfl
 have hS2:(cm s C).1=s:=by(try (show s=_));(try simp only[dH,← Int.add_assoc]);all_goals rfl
 have hlt:=nC s C (by omega)
 have h9:=fP (one:=cm) Q (by omega) (by omega) hlt
 rw[hC2,hM2,hS2] at h9
 rw[hC2] at hlt
 have aw:=ut ad (ut (az.mono (S':=(d :: (U :: (ob B++[])))) an (ac im (ac im av))) a1 (aM il av)) (ac (nr N) (ac (ni F.size k) (aM (cC j lr) av)))
 have aB:=ue H (u1 W (uz f (u1 q D im)) im) (le c.size k)
 exact ek ((n-1),(((cZ C).need (decide ((2*((aF C).count))≤(((cZ C).l.length:Nat) : Int))) 5).wordsC ((aF C).count)),(L++[(cW.mk ((aF C).file) ((aF C).record) ((aF C).count) (((cZ C).need (decide ((2*((aF C).count))≤(((cZ C).l.length:Nat) : Int))) 5).wordsR ((aF C).count)))]),bc,bd,s) ⟨aw,(le (le (le (le (le (le (le (le (le (le (le (le P c.size) V.size) G.size) t.size) I.size) z.size) f.size) q.size) D.size) Y.size) Z.size) a1.size),(RC.upd al (ut (az.mono (S':=(U :: (ob B++[]))) a0 (ac im av)) a1 (aM il av)) (aa y (bi (RC.nrow al (ax j aB (fun x hx=>(aa (fun e=>(RC.nrow a j (by decide)) (e▸hx)) am)) (b9.upd16 aB (ah (RC.safe a _ (by decide)) aA))) (by decide)) am)) aw),bf,(by(try dsimp only);omega),(by(try dsimp only);intro he;omega),(by(try dsimp only);simp only[List.length_append,List.length_cons,List.length_nil];omega),h9⟩ (by omega)
 refine xt<|tx<|tx<|bx<|tn<|sq<|sg<|Pl 3<|?_
 have a2:=RC.upd a c am (az.step (RC.u a) c)
 refine L0<|cY (p:=⟨d,3,none⟩) (v:=.int .i64 C.e) (RC.fld a2)<|Pl 1<|nt<|cb ((C.e==2)) (fun E=>?_) (fun E=>?_)
 have bh:=ap E
 refine sg<|Pl 2<|nt<|rt<|tr<|rr (.tuple #[.slice none 0 0,.int .i64 5])<|?_
 obtain⟨io,ii⟩:=er Q g
 have hw:be (aI cm b.length 0 ⟨b,false,0⟩ []).1.e=5:=by unfold be;rw[io,if_pos E]
 refine⟨none,0,0,by rw[hw],fun h=>absurd (hw.symm.trans h) (by decide),F⟩
 have bh:=aq E
 refine aX<|sq<|Rg 7 (fun w'=>w'.cell? ⟨d,3,none⟩=some (.int .i64 C.e)) fun bX M=>?_
 refine bg (RC.fld (RC.upd a2 M am (az.step (RC.u a2) M))) fun i=>Rt 0 i<|Rt 1 i<|Rt 2 i<|Rt 3 i<|Rl 4 i (fun _ hs=>hs)<|Rt 5 i<|Rt 6 i<|re<|tn<|rt<|rr (.tuple #[.slice B L.length cq,.int .i64 C.e])<|?_
 obtain⟨io,ii⟩:=er Q g
 have hw:be (aI cm b.length 0 ⟨b,false,0⟩ []).1.e=C.e:=by unfold be;rw[io,if_neg (by rw[E];decide)]
 have aC:=aE c M
 refine⟨_,_,_,by rw[hw],fun h=>by rw[ii (hw.symm.trans h)];exact(ax j aC (fun x hx=>am) (b9.upd16 aC aA)),(aE F M)⟩
theorem jW{m:Md}{v:Value}{b:List Int}{w:World}(h:aQ m w v b)(hb:b.length≤1048576) :
    Calls Tryz.prog 163 #[.int .i64 0,.int .u8 20,v] w (eM (aI cn b.length 0 ⟨b,false,0⟩ []) w):=by
  obtain⟨A,cp,rfl,_,_⟩:=h.shape
  exact qt h hb
theorem k7{m:Md}{v:Value}{b:List Int}{w:World}(h:aQ m w v b)(hb:b.length≤1048576) :
    Calls Tryz.prog 163 #[.int .i64 1,.int .u8 20,v] w (eM (aI bz b.length 0 ⟨b,false,0⟩ []) w):=by
  obtain⟨A,cp,rfl,_,_⟩:=h.shape
  exact pG h hb
theorem jR{m:Md}{v:Value}{b:List Int}{w:World}{dir:Int}(h:aQ m w v b)(hb:b.length≤1048576) :
    Calls Tryz.prog 163 #[.int .i64 dir,.int .u8 21,v] w (eM (aI cm b.length 0 ⟨b,false,0⟩ []) w):=by
  obtain⟨A,cp,rfl,_,_⟩:=h.shape
  exact qs h hb
open Go.RowKit
theorem eV{x:Int}(h:be x=0) : x=0:=by
  unfold be at h
  split at h
  · cases h
  · exact h
theorem gU{x:Int}(h:¬ be x=0) : (x != 0)=true:=by
  rw[bne_iff_ne]
  rintro rfl
  exact h rfl
theorem ft:((0:Int)!=0)=false:=rfl
theorem qO{m:Md}{A:Option Addr}{cp:Nat}{b:List Int}{w:World}(hsl:aQ m w (.slice A b.length cp) b)(hb:b.length≤1048576) :
    Calls Tryz.prog 96 #[.int .i64 0,.int .u8 20,.slice A b.length cp] w (cD (.slice A b.length cp) b (bv cn eD 20 b) w):=by
 have hln:(b.length:Int)≤1048576:=by omega
 have hcp:b.length≤cp:=by obtain⟨_,_,hv,h1,_⟩:=aB.shape hsl;injection hv with _ _ h3;omega
 have hrb:=aQ.range hsl
 refine en 101 Tryz.func96 rfl<|sg<|L0<|bD mZ fun a9 ab i g j=>Pl 1<|nt<|sq<|sg<|Pl 6<|nt<|c0<|?_
 refine aX<|sq<|sg<|Pl 6<|nt<|c0<|aX<|sq<|sg<|?_
 refine Pl 3<|nt<|cb ((((b.length:Nat) : Int)==0)) (fun a=>?_) (fun a=>?_)
 have J:=ap a
 refine sg<|Pl 1<|L0<|aT g mZ fun ac L M=>Pl 1<|nt<|rt<|tr<|bu L (.int .i64 2)<|?_
 have hs:bv cn eD 20 b=(aU.zero,2):=by
   unfold bv cV cj eD
   (try simp only[a,bs,if_true,if_false,decide_true,decide_false,ft,reduceIte])
   all_goals rfl
 rw[hs]
 exact bf (ud j M i)
 have J:=aq a
 refine aX<|sg<|Pl 1<|?_
 have t:=aQ.old hsl j
 refine f3 (aQ.at_ t 0 (by omega)) fun N O Q R ad=>L0<|fR b.length 0 Q (by omega)<|L0<|cY (p:=⟨N,O+0,none⟩) (v:=.int .u8 (b.getD 0 0)) R<|L0<|Oi (b.getD 0 0)<|Pl 1<|ng<|Pl 3<|cu 3 [36] 39 (((decide (9≤(b.getD 0 0)))&&(decide ((b.getD 0 0)≤251)))) (fun K C=>?_) ?_
 refine bl 36 ((decide (9≤(b.getD 0 0)))) (fun l=>?_) (fun l=>?_)
 have S:=of_decide_eq_true l
 exact Pl 3<|ce C (decide ((b.getD 0 0)≤251)) (by rw[l];rfl)
 have S:=of_decide_eq_false l
 exact Pl 3<|ce C false (by rw[l];rfl)
 refine Pl 1<|nt<|sq<|sg<|Pl 6<|nt<|c1<|go<|Pl 3<|cu 3 [48] 51 (((decide (7≤(b.getD 0 0)))&&(decide ((b.getD 0 0)≤245)))) (fun K D=>?_) ?_
 refine bl 48 ((decide (7≤(b.getD 0 0)))) (fun o=>?_) (fun o=>?_)
 have T:=of_decide_eq_true o
 exact Pl 3<|ce D (decide ((b.getD 0 0)≤245)) (by rw[o];rfl)
 have T:=of_decide_eq_false o
 exact Pl 3<|ce D false (by rw[o];rfl)
 refine Pl 1<|cu 4 [52] 56 ((((decide (7≤(b.getD 0 0)))&&(decide ((b.getD 0 0)≤245)))&&(((b.getD 0 0)%7)==0))) (fun K E=>?_) ?_
 refine bl 52 (((decide (7≤(b.getD 0 0)))&&(decide ((b.getD 0 0)≤245)))) (fun q=>?_) (fun q=>?_)
 have U:=(aO q).1
 have V:=(aO q).2
 have ae:=of_decide_eq_true U
 have af:=of_decide_eq_true V
 exact Pl 1<|L1<|Oe (.int .i64 (Int.tmod (b.getD 0 0) 7)) (.int .i64 ((b.getD 0 0)%7)) (congrArg (Value.int .i64) (Int.tmod_eq_emod_of_nonneg (by omega)))<|Pl 2<|ce E (((b.getD 0 0)%7)==0) (by rw[q];rfl)
 exact Pl 4<|ce E false (by rw[q];rfl)
 refine Pl 1<|nt<|sq<|sg<|Pl 6<|nt<|c0<|aX<|sq<|sq<|?_
 refine go<|Pl 2<|nt<|cb ((!(((decide (7≤(b.getD 0 0)))&&(decide ((b.getD 0 0)≤245)))&&(((b.getD 0 0)%7)==0)))) (fun d=>?_) (fun d=>?_)
 have f:(((decide (7≤(b.getD 0 0)))&&(decide ((b.getD 0 0)≤245)))&&(((b.getD 0 0)%7)==0))=false:=by simpa only[Bool.not_eq_true',Bool.not_eq_false'] using d
 refine sg<|Pl 1<|L0<|aT g mZ fun ag W X=>Pl 1<|nt<|rt<|tr<|bu W (.int .i64 5)<|?_
 have hs:bv cn eD 20 b=(aU.zero,5):=by
   unfold bv cV cj eD
   (try simp only[a,d,f,bs,if_true,if_false,decide_true,decide_false,ft,reduceIte])
   all_goals rfl
 rw[hs]
 exact bf (ud j X i)
 have f:(((decide (7≤(b.getD 0 0)))&&(decide ((b.getD 0 0)≤245)))&&(((b.getD 0 0)%7)==0))=true:=by simpa only[Bool.not_eq_true',Bool.not_eq_false'] using d
 have k:=(aO f).1
 have r:=(aO f).2
 have q32naa:=(aO k).1
 have q32nab:=(aO k).2
 have q32naap:=of_decide_eq_true q32naa
 have q32nabp:=of_decide_eq_true q32nab
 have q32nbp:=ap r
 refine aX<|sq<|sg<|Pl 3<|L0<|Oi ((b.getD 0 0)+1)<|Pl 1<|nt<|cb ((decide (((b.length:Nat) : Int)<((b.getD 0 0)+1)))) (fun h=>?_) (fun h=>?_)
 have Y:=of_decide_eq_true h
 refine sg<|Pl 1<|L0<|aT g mZ fun ai Z a0=>Pl 1<|nt<|rt<|tr<|bu Z (.int .i64 2)<|?_
 have hs:bv cn eD 20 b=(aU.zero,2):=by
   unfold bv cV cj eD
   (try simp only[a,d,f,k,q32naa,q32nab,r,h,bs,if_true,if_false,decide_true,decide_false,ft,reduceIte])
   all_goals rfl
 rw[hs]
 exact bf (ud j a0 i)
 have Y:=of_decide_eq_false h
 refine aX<|sg<|Pl 4<|L0<|Oi ((b.getD 0 0)+1)<|jn (fE (P:=Tryz.prog) 22 5 1 Tryz.underlying22 rfl rfl A b.length cp (lo:=1) (up:=((b.getD 0 0)+1)) 1 ((((b.getD 0 0)+1)).toNat) (by omega) (by omega) (by omega) (by omega) (by omega)) fun u hrun43 F=>L0<|i7 (.slice u (((((b.getD 0 0)+1)).toNat)-1) (cp-1)) (eu (kl:=.i64) (kh:=.i64) (lo:=1) (hi:=((b.getD 0 0)+1)) (A:=A) (n:=b.length) (c:=cp) rfl Tryz.underlying22 (by kernel_rfl) (by kernel_rfl) (by kernel_rfl) (hrun43 _ _ _))<|?_
 by_cases hE:be (aI cn (((b.take ((((b.getD 0 0)+1)).toNat)).drop 1)).length 0 ⟨((b.take ((((b.getD 0 0)+1)).toNat)).drop 1),false,0⟩ []).1.e=0
 refine L0<|Oc (args:=#[.int .i64 0,.int .u8 20,.slice u (((((b.getD 0 0)+1)).toNat)-1) (cp-1)])<|e2 (iU (jW (F _ _ _ _ _ t) (by rw[List.length_drop,List.length_take];omega)) hE) fun aj al y z=>?_
 obtain⟨a1,a2,rfl,an,ao⟩:=aB.shape y.rd
 refine Pl 5<|nt<|sq<|sg<|Pl 2<|nt<|c0<|aX<|sq<|sq<|?_
 refine go<|Pl 3<|L0<|Oi ((b.getD 0 0)+1)<|Pl 1<|nt<|?_
 have G:=aE j z
 refine cb ((decide (((b.getD 0 0)+1)<((b.length:Nat) : Int)))) (fun s=>?_) (fun s=>?_)
 have a3:=of_decide_eq_true s
 refine sg<|Pl 1<|?_
 refine L0<|aT (ub z g) mZ fun ar a4 a5=>Pl 1<|nt<|rt<|tr<|bu a4 (.int .i64 3)<|?_
 have hE0:(aI cn (((b.take ((((b.getD 0 0)+1)).toNat)).drop 1)).length 0 ⟨((b.take ((((b.getD 0 0)+1)).toNat)).drop 1),false,0⟩ []).1.e=0:=eV hE
 have hs:bv cn eD 20 b=(aU.zero,3):=by
   unfold bv cV cj eD
   (try simp only[a,d,f,k,q32naa,q32nab,r,h,s,bs,if_true,if_false,decide_true,decide_false,hE0,ft,reduceIte])
   all_goals rfl
 rw[hs]
 exact bf (ud G a5 i)
 have a3:=of_decide_eq_false s
 refine aX<|sg<|Pl 3<|?_
 have H:=ub z g
 refine L0<|aT H (mG 20 0 0 0 0 0 0 0 0 0 0 0 nS nS nS (.slice a1 ((aI cn (((b.take ((((b.getD 0 0)+1)).toNat)).drop 1)).length 0 ⟨((b.take ((((b.getD 0 0)+1)).toNat)).drop 1),false,0⟩ []).2.length) a2) 0 0 0 0 0 nS) fun au a6 B=>Pl 1<|nt<|rt<|bu a6 (.int .i64 0)<|?_
 have hE0:(aI cn (((b.take ((((b.getD 0 0)+1)).toNat)).drop 1)).length 0 ⟨((b.take ((((b.getD 0 0)+1)).toNat)).drop 1),false,0⟩ []).1.e=0:=eV hE
 have hs:bv cn eD 20 b=((aU.mk 20 0 0 0 0 0 0 0 0 0 0 0 [] [] [] (aI cn (((b.take ((((b.getD 0 0)+1)).toNat)).drop 1)).length 0 ⟨((b.take ((((b.getD 0 0)+1)).toNat)).drop 1),false,0⟩ []).2 0 0 0 0 0 []),0):=by
   unfold bv cV cj eD
   (try simp only[a,d,f,k,q32naa,q32nab,r,h,s,bs,if_true,if_false,decide_true,decide_false,hE0,ft,reduceIte])
   all_goals rfl
 rw[hs]
 exact⟨_,rfl,⟨_,_,_,_,_,rfl,aB.nil ..,aB.nil ..,(fun _ _ _=>aB.nil ..),((ax y B (fun x hx=>(aa (fun e=>(ay (ak g) lr y) (e▸hx)) am)) (b9.upd16 B (ah (aG H (by decide)) aA)))).rd,aB.nil ..,(bL (by omega))⟩,(ud G B i)⟩
 refine L0<|Oc (args:=#[.int .i64 0,.int .u8 20,.slice u (((((b.getD 0 0)+1)).toNat)-1) (cp-1)])<|?_
 refine(gQ (jW (F _ _ _ _ _ t) (by rw[List.length_drop,List.length_take];omega))).mono ?_
 rintro _ av ⟨aw,az,aC,rfl,I⟩
 refine⟨_,rfl,?_⟩
 have hE1:(be (aI cn (((b.take ((((b.getD 0 0)+1)).toNat)).drop 1)).length 0 ⟨((b.take ((((b.getD 0 0)+1)).toNat)).drop 1),false,0⟩ []).1.e != 0)=true:=by simpa using hE
 refine Pl 5<|nt<|sq<|sg<|Pl 2<|nt<|ct hE1<|sg<|Pl 2<|?_
 refine L0<|aT (ub I g) mZ fun aD a7 a8=>Pl 1<|nt<|rt<|tr<|bu a7 (.int .i64 (be (aI cn (((b.take ((((b.getD 0 0)+1)).toNat)).drop 1)).length 0 ⟨((b.take ((((b.getD 0 0)+1)).toNat)).drop 1),false,0⟩ []).1.e))<|?_
 have hE3:((aI cn (((b.take ((((b.getD 0 0)+1)).toNat)).drop 1)).length 0 ⟨((b.take ((((b.getD 0 0)+1)).toNat)).drop 1),false,0⟩ []).1.e != 0)=true:=gU hE
 have hs:bv cn eD 20 b=(aU.zero,be (aI cn (((b.take ((((b.getD 0 0)+1)).toNat)).drop 1)).length 0 ⟨((b.take ((((b.getD 0 0)+1)).toNat)).drop 1),false,0⟩ []).1.e):=by
   unfold bv cV cj eD
   (try simp only[a,d,f,k,q32naa,q32nab,r,h,hE1,bs,if_true,if_false,decide_true,decide_false,hE3,ft,reduceIte])
   all_goals rfl
 rw[hs]
 exact bf (ud j (uz I a8) i)
theorem q9{m:Md}{A:Option Addr}{cp:Nat}{b:List Int}{w:World}(hsl:aQ m w (.slice A b.length cp) b)(hb:b.length≤1048576) :
    Calls Tryz.prog 96 #[.int .i64 1,.int .u8 20,.slice A b.length cp] w (cD (.slice A b.length cp) b (bv bz eA 20 b) w):=by
 have hln:(b.length:Int)≤1048576:=by omega
 have hcp:b.length≤cp:=by obtain⟨_,_,hv,h1,_⟩:=aB.shape hsl;injection hv with _ _ h3;omega
 have hrb:=aQ.range hsl
 refine en 101 Tryz.func96 rfl<|sg<|L0<|bD mZ fun a5 a6 i g j=>Pl 1<|nt<|sq<|sg<|Pl 6<|nt<|c0<|?_
 refine aX<|sq<|sg<|Pl 6<|nt<|c0<|aX<|sq<|sg<|?_
 refine Pl 3<|nt<|cb ((((b.length:Nat) : Int)==0)) (fun a=>?_) (fun a=>?_)
 have H:=ap a
 refine sg<|Pl 1<|L0<|aT g mZ fun a7 I J=>Pl 1<|nt<|rt<|tr<|bu I (.int .i64 2)<|?_
 have hs:bv bz eA 20 b=(aU.zero,2):=by
   unfold bv cV cj eA
   (try simp only[a,bs,if_true,if_false,decide_true,decide_false,ft,reduceIte])
   all_goals rfl
 rw[hs]
 exact bf (ud j J i)
 have H:=aq a
 refine aX<|sg<|Pl 1<|?_
 have s:=aQ.old hsl j
 refine f3 (aQ.at_ s 0 (by omega)) fun L M N O a8=>L0<|fR b.length 0 N (by omega)<|L0<|cY (p:=⟨L,M+0,none⟩) (v:=.int .u8 (b.getD 0 0)) O<|L0<|Oi (b.getD 0 0)<|Pl 1<|ng<|Pl 3<|cu 3 [36] 39 (((decide (9≤(b.getD 0 0)))&&(decide ((b.getD 0 0)≤251)))) (fun K B=>?_) ?_
 refine bl 36 ((decide (9≤(b.getD 0 0)))) (fun k=>?_) (fun k=>?_)
 have Q:=of_decide_eq_true k
 exact Pl 3<|ce B (decide ((b.getD 0 0)≤251)) (by rw[k];rfl)
 have Q:=of_decide_eq_false k
 exact Pl 3<|ce B false (by rw[k];rfl)
 refine Pl 1<|nt<|sq<|sg<|Pl 6<|nt<|c0<|aX<|sq<|sq<|?_
 refine go<|Pl 6<|nt<|c1<|go<|Pl 3<|cu 3 [65] 68 (((decide (4≤(b.getD 0 0)))&&(decide ((b.getD 0 0)≤245)))) (fun K C=>?_) ?_
 refine bl 65 ((decide (4≤(b.getD 0 0)))) (fun l=>?_) (fun l=>?_)
 have R:=of_decide_eq_true l
 exact Pl 3<|ce C (decide ((b.getD 0 0)≤245)) (by rw[l];rfl)
 have R:=of_decide_eq_false l
 exact Pl 3<|ce C false (by rw[l];rfl)
 refine Pl 1<|nt<|sq<|sg<|Pl 2<|nt<|cb ((!((decide (4≤(b.getD 0 0)))&&(decide ((b.getD 0 0)≤245))))) (fun d=>?_) (fun d=>?_)
 have f:((decide (4≤(b.getD 0 0)))&&(decide ((b.getD 0 0)≤245)))=false:=by simpa only[Bool.not_eq_true',Bool.not_eq_false'] using d
 refine sg<|Pl 1<|L0<|aT g mZ fun a9 S T=>Pl 1<|nt<|rt<|tr<|bu S (.int .i64 5)<|?_
 have hs:bv bz eA 20 b=(aU.zero,5):=by
   unfold bv cV cj eA
   (try simp only[a,d,f,bs,if_true,if_false,decide_true,decide_false,ft,reduceIte])
   all_goals rfl
 rw[hs]
 exact bf (ud j T i)
 have f:((decide (4≤(b.getD 0 0)))&&(decide ((b.getD 0 0)≤245)))=true:=by simpa only[Bool.not_eq_true',Bool.not_eq_false'] using d
 have o:=(aO f).1
 have q:=(aO f).2
 have q30nap:=of_decide_eq_true o
 have q30nbp:=of_decide_eq_true q
 refine aX<|sq<|sg<|Pl 3<|L0<|Oi ((b.getD 0 0)+1)<|Pl 1<|nt<|cb ((decide (((b.length:Nat) : Int)<((b.getD 0 0)+1)))) (fun h=>?_) (fun h=>?_)
 have U:=of_decide_eq_true h
 refine sg<|Pl 1<|L0<|aT g mZ fun ab V W=>Pl 1<|nt<|rt<|tr<|bu V (.int .i64 2)<|?_
 have hs:bv bz eA 20 b=(aU.zero,2):=by
   unfold bv cV cj eA
   (try simp only[a,d,f,o,q,h,bs,if_true,if_false,decide_true,decide_false,ft,reduceIte])
   all_goals rfl
 rw[hs]
 exact bf (ud j W i)
 have U:=of_decide_eq_false h
 refine aX<|sg<|Pl 4<|L0<|Oi ((b.getD 0 0)+1)<|jn (fE (P:=Tryz.prog) 22 5 1 Tryz.underlying22 rfl rfl A b.length cp (lo:=1) (up:=((b.getD 0 0)+1)) 1 ((((b.getD 0 0)+1)).toNat) (by omega) (by omega) (by omega) (by omega) (by omega)) fun t hrun41 D=>L0<|i7 (.slice t (((((b.getD 0 0)+1)).toNat)-1) (cp-1)) (eu (kl:=.i64) (kh:=.i64) (lo:=1) (hi:=((b.getD 0 0)+1)) (A:=A) (n:=b.length) (c:=cp) rfl Tryz.underlying22 (by kernel_rfl) (by kernel_rfl) (by kernel_rfl) (hrun41 _ _ _))<|?_
 by_cases hE:be (aI bz (((b.take ((((b.getD 0 0)+1)).toNat)).drop 1)).length 0 ⟨((b.take ((((b.getD 0 0)+1)).toNat)).drop 1),false,0⟩ []).1.e=0
 refine L0<|Oc (args:=#[.int .i64 1,.int .u8 20,.slice t (((((b.getD 0 0)+1)).toNat)-1) (cp-1)])<|e2 (iU (k7 (D _ _ _ _ _ s) (by rw[List.length_drop,List.length_take];omega)) hE) fun ac ad u y=>?_
 obtain⟨X,Y,rfl,ae,af⟩:=aB.shape u.rd
 refine Pl 5<|nt<|sq<|sg<|Pl 2<|nt<|c0<|aX<|sq<|sq<|?_
 refine go<|Pl 3<|L0<|Oi ((b.getD 0 0)+1)<|Pl 1<|nt<|?_
 have E:=aE j y
 refine cb ((decide (((b.getD 0 0)+1)<((b.length:Nat) : Int)))) (fun r=>?_) (fun r=>?_)
 have Z:=of_decide_eq_true r
 refine sg<|Pl 1<|?_
 refine L0<|aT (ub y g) mZ fun ag a0 a1=>Pl 1<|nt<|rt<|tr<|bu a0 (.int .i64 3)<|?_
 have hE0:(aI bz (((b.take ((((b.getD 0 0)+1)).toNat)).drop 1)).length 0 ⟨((b.take ((((b.getD 0 0)+1)).toNat)).drop 1),false,0⟩ []).1.e=0:=eV hE
 have hs:bv bz eA 20 b=(aU.zero,3):=by
   unfold bv cV cj eA
   (try simp only[a,d,f,o,q,h,r,bs,if_true,if_false,decide_true,decide_false,hE0,ft,reduceIte])
   all_goals rfl
 rw[hs]
 exact bf (ud E a1 i)
 have Z:=of_decide_eq_false r
 refine aX<|sg<|Pl 3<|?_
 have F:=ub y g
 refine L0<|aT F (mG 20 0 0 0 0 0 0 0 0 0 0 0 nS nS nS (.slice X ((aI bz (((b.take ((((b.getD 0 0)+1)).toNat)).drop 1)).length 0 ⟨((b.take ((((b.getD 0 0)+1)).toNat)).drop 1),false,0⟩ []).2.length) Y) 0 0 0 0 0 nS) fun ai a2 z=>Pl 1<|nt<|rt<|bu a2 (.int .i64 0)<|?_
 have hE0:(aI bz (((b.take ((((b.getD 0 0)+1)).toNat)).drop 1)).length 0 ⟨((b.take ((((b.getD 0 0)+1)).toNat)).drop 1),false,0⟩ []).1.e=0:=eV hE
 have hs:bv bz eA 20 b=((aU.mk 20 0 0 0 0 0 0 0 0 0 0 0 [] [] [] (aI bz (((b.take ((((b.getD 0 0)+1)).toNat)).drop 1)).length 0 ⟨((b.take ((((b.getD 0 0)+1)).toNat)).drop 1),false,0⟩ []).2 0 0 0 0 0 []),0):=by
   unfold bv cV cj eA
   (try simp only[a,d,f,o,q,h,r,bs,if_true,if_false,decide_true,decide_false,hE0,ft,reduceIte])
   all_goals rfl
 rw[hs]
 exact⟨_,rfl,⟨_,_,_,_,_,rfl,aB.nil ..,aB.nil ..,(fun _ _ _=>aB.nil ..),((ax u z (fun x hx=>(aa (fun e=>(ay (ak g) lr u) (e▸hx)) am)) (b9.upd16 z (ah (aG F (by decide)) aA)))).rd,aB.nil ..,(bL (by omega))⟩,(ud E z i)⟩
 refine L0<|Oc (args:=#[.int .i64 1,.int .u8 20,.slice t (((((b.getD 0 0)+1)).toNat)-1) (cp-1)])<|?_
 refine(gQ (k7 (D _ _ _ _ _ s) (by rw[List.length_drop,List.length_take];omega))).mono ?_
 rintro _ aj ⟨al,an,ao,rfl,G⟩
 refine⟨_,rfl,?_⟩
 have hE1:(be (aI bz (((b.take ((((b.getD 0 0)+1)).toNat)).drop 1)).length 0 ⟨((b.take ((((b.getD 0 0)+1)).toNat)).drop 1),false,0⟩ []).1.e != 0)=true:=by simpa using hE
 refine Pl 5<|nt<|sq<|sg<|Pl 2<|nt<|ct hE1<|sg<|Pl 2<|?_
 refine L0<|aT (ub G g) mZ fun ar a3 a4=>Pl 1<|nt<|rt<|tr<|bu a3 (.int .i64 (be (aI bz (((b.take ((((b.getD 0 0)+1)).toNat)).drop 1)).length 0 ⟨((b.take ((((b.getD 0 0)+1)).toNat)).drop 1),false,0⟩ []).1.e))<|?_
 have hE3:((aI bz (((b.take ((((b.getD 0 0)+1)).toNat)).drop 1)).length 0 ⟨((b.take ((((b.getD 0 0)+1)).toNat)).drop 1),false,0⟩ []).1.e != 0)=true:=gU hE
 have hs:bv bz eA 20 b=(aU.zero,be (aI bz (((b.take ((((b.getD 0 0)+1)).toNat)).drop 1)).length 0 ⟨((b.take ((((b.getD 0 0)+1)).toNat)).drop 1),false,0⟩ []).1.e):=by
   unfold bv cV cj eA
   (try simp only[a,d,f,o,q,h,hE1,bs,if_true,if_false,decide_true,decide_false,hE3,ft,reduceIte])
   all_goals rfl
 rw[hs]
 exact bf (ud j (uz G a4) i)
theorem q8{m:Md}{A:Option Addr}{cp:Nat}{b:List Int}{w:World}{dir:Int}(hd:dir=0∨dir=1)(hsl:aQ m w (.slice A b.length cp) b)(hb:b.length≤1048576) :
    Calls Tryz.prog 96 #[.int .i64 dir,.int .u8 21,.slice A b.length cp] w (cD (.slice A b.length cp) b (bv cm ex 21 b) w):=by
 have hln:(b.length:Int)≤1048576:=by omega
 have hcp:b.length≤cp:=by obtain⟨_,_,hv,h1,_⟩:=aB.shape hsl;injection hv with _ _ h3;omega
 have hrb:=aQ.range hsl
 have g:((dir != 0)&&(dir != 1))=false:=by rcases hd with rfl | rfl<;>rfl
 refine en 101 Tryz.func96 rfl<|sg<|L0<|bD mZ fun a6 a7 j h k=>Pl 1<|nt<|sq<|sg<|Pl 3<|cu 3 [14] 17 (((dir != 0)&&(dir != 1))) (fun K C=>?_) ?_
 refine bl 14 ((dir != 0)) (fun l=>?_) (fun l=>?_)
 have I:=al l
 exact Pl 3<|ce C (dir != 1) (by rw[l];rfl)
 have I:=ae l
 exact Pl 3<|ce C false (by rw[l];rfl)
 refine nt<|cf g<|aX<|sq<|sg<|Pl 6<|nt<|c0<|aX<|?_
 refine sq<|sg<|Pl 3<|nt<|cb ((((b.length:Nat) : Int)==0)) (fun a=>?_) (fun a=>?_)
 have J:=ap a
 refine sg<|Pl 1<|L0<|aT h mZ fun a8 L M=>Pl 1<|nt<|rt<|tr<|bu L (.int .i64 2)<|?_
 have hs:bv cm ex 21 b=(aU.zero,2):=by
   unfold bv cV cj ex
   (try simp only[g,a,bs,if_true,if_false,decide_true,decide_false,ft,reduceIte])
   all_goals rfl
 rw[hs]
 exact bf (ud k M j)
 have J:=aq a
 refine aX<|sg<|Pl 1<|?_
 have t:=aQ.old hsl k
 refine f3 (aQ.at_ t 0 (by omega)) fun N O Q R a9=>L0<|fR b.length 0 Q (by omega)<|L0<|cY (p:=⟨N,O+0,none⟩) (v:=.int .u8 (b.getD 0 0)) R<|L0<|Oi (b.getD 0 0)<|Pl 1<|ng<|Pl 3<|cu 3 [36] 39 (((decide (9≤(b.getD 0 0)))&&(decide ((b.getD 0 0)≤251)))) (fun K D=>?_) ?_
 refine bl 36 ((decide (9≤(b.getD 0 0)))) (fun o=>?_) (fun o=>?_)
 have S:=of_decide_eq_true o
 exact Pl 3<|ce D (decide ((b.getD 0 0)≤251)) (by rw[o];rfl)
 have S:=of_decide_eq_false o
 exact Pl 3<|ce D false (by rw[o];rfl)
 refine Pl 1<|nt<|sq<|sg<|Pl 6<|nt<|c0<|aX<|sq<|sq<|?_
 refine go<|Pl 6<|nt<|c0<|aX<|sq<|sg<|Pl 2<|nt<|cb ((!((decide (9≤(b.getD 0 0)))&&(decide ((b.getD 0 0)≤251))))) (fun d=>?_) (fun d=>?_)
 have f:((decide (9≤(b.getD 0 0)))&&(decide ((b.getD 0 0)≤251)))=false:=by simpa only[Bool.not_eq_true',Bool.not_eq_false'] using d
 refine sg<|Pl 1<|L0<|aT h mZ fun ab T U=>Pl 1<|nt<|rt<|tr<|bu T (.int .i64 5)<|?_
 have hs:bv cm ex 21 b=(aU.zero,5):=by
   unfold bv cV cj ex
   (try simp only[g,a,d,f,bs,if_true,if_false,decide_true,decide_false,ft,reduceIte])
   all_goals rfl
 rw[hs]
 exact bf (ud k U j)
 have f:((decide (9≤(b.getD 0 0)))&&(decide ((b.getD 0 0)≤251)))=true:=by simpa only[Bool.not_eq_true',Bool.not_eq_false'] using d
 have q:=(aO f).1
 have r:=(aO f).2
 have q30nap:=of_decide_eq_true q
 have q30nbp:=of_decide_eq_true r
 refine aX<|sq<|sg<|Pl 3<|L0<|Oi ((b.getD 0 0)+1)<|Pl 1<|nt<|cb ((decide (((b.length:Nat) : Int)<((b.getD 0 0)+1)))) (fun i=>?_) (fun i=>?_)
 have V:=of_decide_eq_true i
 refine sg<|Pl 1<|L0<|aT h mZ fun ac W X=>Pl 1<|nt<|rt<|tr<|bu W (.int .i64 2)<|?_
 have hs:bv cm ex 21 b=(aU.zero,2):=by
   unfold bv cV cj ex
   (try simp only[g,a,d,f,q,r,i,bs,if_true,if_false,decide_true,decide_false,ft,reduceIte])
   all_goals rfl
 rw[hs]
 exact bf (ud k X j)
 have V:=of_decide_eq_false i
 refine aX<|sg<|Pl 4<|L0<|Oi ((b.getD 0 0)+1)<|jn (fE (P:=Tryz.prog) 22 5 1 Tryz.underlying22 rfl rfl A b.length cp (lo:=1) (up:=((b.getD 0 0)+1)) 1 ((((b.getD 0 0)+1)).toNat) (by omega) (by omega) (by omega) (by omega) (by omega)) fun u hrun41 E=>L0<|i7 (.slice u (((((b.getD 0 0)+1)).toNat)-1) (cp-1)) (eu (kl:=.i64) (kh:=.i64) (lo:=1) (hi:=((b.getD 0 0)+1)) (A:=A) (n:=b.length) (c:=cp) rfl Tryz.underlying22 (by kernel_rfl) (by kernel_rfl) (by kernel_rfl) (hrun41 _ _ _))<|?_
 by_cases hE:be (aI cm (((b.take ((((b.getD 0 0)+1)).toNat)).drop 1)).length 0 ⟨((b.take ((((b.getD 0 0)+1)).toNat)).drop 1),false,0⟩ []).1.e=0
 refine L0<|Oc (args:=#[.int .i64 dir,.int .u8 21,.slice u (((((b.getD 0 0)+1)).toNat)-1) (cp-1)])<|e2 (iU (jR (E _ _ _ _ _ t) (by rw[List.length_drop,List.length_take];omega)) hE) fun ad af y z=>?_
 obtain⟨Y,Z,rfl,ag,ai⟩:=aB.shape y.rd
 refine Pl 5<|nt<|sq<|sg<|Pl 2<|nt<|c0<|aX<|sq<|sq<|?_
 refine go<|Pl 3<|L0<|Oi ((b.getD 0 0)+1)<|Pl 1<|nt<|?_
 have F:=aE k z
 refine cb ((decide (((b.getD 0 0)+1)<((b.length:Nat) : Int)))) (fun s=>?_) (fun s=>?_)
 have a0:=of_decide_eq_true s
 refine sg<|Pl 1<|?_
 refine L0<|aT (ub z h) mZ fun aj a1 a2=>Pl 1<|nt<|rt<|tr<|bu a1 (.int .i64 3)<|?_
 have hE0:(aI cm (((b.take ((((b.getD 0 0)+1)).toNat)).drop 1)).length 0 ⟨((b.take ((((b.getD 0 0)+1)).toNat)).drop 1),false,0⟩ []).1.e=0:=eV hE
 have hs:bv cm ex 21 b=(aU.zero,3):=by
   unfold bv cV cj ex
   (try simp only[g,a,d,f,q,r,i,s,bs,if_true,if_false,decide_true,decide_false,hE0,ft,reduceIte])
   all_goals rfl
 rw[hs]
 exact bf (ud F a2 j)
 have a0:=of_decide_eq_false s
 refine aX<|sg<|Pl 3<|?_
 have G:=ub z h
 refine L0<|aT G (mG 21 0 0 0 0 0 0 0 0 0 0 0 nS nS nS (.slice Y ((aI cm (((b.take ((((b.getD 0 0)+1)).toNat)).drop 1)).length 0 ⟨((b.take ((((b.getD 0 0)+1)).toNat)).drop 1),false,0⟩ []).2.length) Z) 0 0 0 0 0 nS) fun an a3 B=>Pl 1<|nt<|rt<|bu a3 (.int .i64 0)<|?_
 have hE0:(aI cm (((b.take ((((b.getD 0 0)+1)).toNat)).drop 1)).length 0 ⟨((b.take ((((b.getD 0 0)+1)).toNat)).drop 1),false,0⟩ []).1.e=0:=eV hE
 have hs:bv cm ex 21 b=((aU.mk 21 0 0 0 0 0 0 0 0 0 0 0 [] [] [] (aI cm (((b.take ((((b.getD 0 0)+1)).toNat)).drop 1)).length 0 ⟨((b.take ((((b.getD 0 0)+1)).toNat)).drop 1),false,0⟩ []).2 0 0 0 0 0 []),0):=by
   unfold bv cV cj ex
   (try simp only[g,a,d,f,q,r,i,s,bs,if_true,if_false,decide_true,decide_false,hE0,ft,reduceIte])
   all_goals rfl
 rw[hs]
 exact⟨_,rfl,⟨_,_,_,_,_,rfl,aB.nil ..,aB.nil ..,(fun _ _ _=>aB.nil ..),((ax y B (fun x hx=>(aa (fun e=>(ay (ak h) lr y) (e▸hx)) am)) (b9.upd16 B (ah (aG G (by decide)) aA)))).rd,aB.nil ..,(bL (by omega))⟩,(ud F B j)⟩
 refine L0<|Oc (args:=#[.int .i64 dir,.int .u8 21,.slice u (((((b.getD 0 0)+1)).toNat)-1) (cp-1)])<|?_
 refine(gQ (jR (E _ _ _ _ _ t) (by rw[List.length_drop,List.length_take];omega))).mono ?_
 rintro _ ao ⟨ar,au,av,rfl,H⟩
 refine⟨_,rfl,?_⟩
 have hE1:(be (aI cm (((b.take ((((b.getD 0 0)+1)).toNat)).drop 1)).length 0 ⟨((b.take ((((b.getD 0 0)+1)).toNat)).drop 1),false,0⟩ []).1.e != 0)=true:=by simpa using hE
 refine Pl 5<|nt<|sq<|sg<|Pl 2<|nt<|ct hE1<|sg<|Pl 2<|?_
 refine L0<|aT (ub H h) mZ fun aw a4 a5=>Pl 1<|nt<|rt<|tr<|bu a4 (.int .i64 (be (aI cm (((b.take ((((b.getD 0 0)+1)).toNat)).drop 1)).length 0 ⟨((b.take ((((b.getD 0 0)+1)).toNat)).drop 1),false,0⟩ []).1.e))<|?_
 have hE3:((aI cm (((b.take ((((b.getD 0 0)+1)).toNat)).drop 1)).length 0 ⟨((b.take ((((b.getD 0 0)+1)).toNat)).drop 1),false,0⟩ []).1.e != 0)=true:=gU hE
 have hs:bv cm ex 21 b=(aU.zero,be (aI cm (((b.take ((((b.getD 0 0)+1)).toNat)).drop 1)).length 0 ⟨((b.take ((((b.getD 0 0)+1)).toNat)).drop 1),false,0⟩ []).1.e):=by
   unfold bv cV cj ex
   (try simp only[g,a,d,f,q,r,i,hE1,bs,if_true,if_false,decide_true,decide_false,hE3,ft,reduceIte])
   all_goals rfl
 rw[hs]
 exact bf (ud k (uz H a5) j)
theorem oC{A:Option Addr}{cp:Nat}{b:List Int}{w:World}{dir c:Int}(hd:dir=0∨dir=1)(hc:¬ c=20∧¬ c=21) :
    Calls Tryz.prog 96 #[.int .i64 dir,.int .u8 c,.slice A b.length cp] w (cD (.slice A b.length cp) b (aU.zero,4) w):=by
 have g:((dir != 0)&&(dir != 1))=false:=by rcases hd with rfl | rfl<;>rfl
 have e2:((c != 20)&&(c != 21))=true:=by simp[hc.1,hc.2]
 refine en 101 Tryz.func96 rfl<|sg<|L0<|bD mZ fun o p h i j=>Pl 1<|nt<|sq<|sg<|Pl 3<|cu 3 [14] 17 (((dir != 0)&&(dir != 1))) (fun K e=>?_) ?_
 refine bl 14 ((dir != 0)) (fun a=>?_) (fun a=>?_)
 have k:=al a
 exact Pl 3<|ce e (dir != 1) (by rw[a];rfl)
 have k:=ae a
 exact Pl 3<|ce e false (by rw[a];rfl)
 refine nt<|cf g<|aX<|sq<|sg<|Pl 3<|cu 3 [21] 24 (((c != 20)&&(c != 21))) (fun K f=>?_) ?_
 refine bl 21 ((c != 20)) (fun d=>?_) (fun d=>?_)
 have l:=al d
 exact Pl 3<|ce f (c != 21) (by rw[d];rfl)
 have l:=ae d
 exact Pl 3<|ce f false (by rw[d];rfl)
 refine nt<|ct e2<|sg<|Pl 1<|L0<|aT i mZ fun q m n=>Pl 1<|nt<|rt<|tr<|bu m (.int .i64 4)<|?_
 exact bf (ud j n h)
theorem qG{A:Option Addr}{cp:Nat}{b:List Int}{w:World}{dir c:Int}(hd:¬ (dir=0∨dir=1)) :
    Calls Tryz.prog 96 #[.int .i64 dir,.int .u8 c,.slice A b.length cp] w (cD (.slice A b.length cp) b (aU.zero,1) w):=by
 have e:((dir != 0)&&(dir != 1))=true:=by simp;omega
 refine en 101 Tryz.func96 rfl<|sg<|L0<|bD mZ fun l m f g h=>Pl 1<|nt<|sq<|sg<|Pl 3<|cu 3 [14] 17 (((dir != 0)&&(dir != 1))) (fun K d=>?_) ?_
 refine bl 14 ((dir != 0)) (fun a=>?_) (fun a=>?_)
 have i:=al a
 exact Pl 3<|ce d (dir != 1) (by rw[a];rfl)
 have i:=ae a
 exact Pl 3<|ce d false (by rw[a];rfl)
 refine nt<|ct e<|sg<|Pl 1<|L0<|aT g mZ fun n j k=>Pl 1<|nt<|rt<|tr<|bu j (.int .i64 1)<|?_
 exact bf (ud h k f)
theorem na{dir c:Int}{b:List Int}(hd:dir=0∨dir=1)(hc:¬ c=20∧¬ c=21) : aj aY dir c b=(aU.zero,4):=by
  unfold aj aY
  rw[if_pos hd,if_neg (by simpa using hc.1),if_neg (by simpa using hc.2)]
theorem p5{form:Int→Int→ai→Option (ai × aU)}{dir c:Int}{b:List Int}(hd:¬ (dir=0∨dir=1)) : aj form dir c b=(aU.zero,1):=by
  unfold aj
  rw[if_neg hd]
theorem kB{m:Md}{v:Value}{b:List Int}{w:World}{dir c:Int}(hc:B8 c)(h:aQ m w v b)(hb:b.length≤1048576) :
    Calls Tryz.prog 96 #[.int .i64 dir,.int .u8 c,v] w (cD v b (aj aY dir c b) w):=by
  have hr:=aQ.range h
  obtain⟨A,cp,rfl,_,_⟩:=h.shape
  by_cases hd:dir=0∨dir=1
  · by_cases a:c=20
    · subst a
      rcases hd with rfl|rfl
      · rw[nj hr];exact qO h hb
      · rw[mL hr];exact q9 h hb
    · by_cases d:c=21
      · subst d
        rw[qX hd hr];exact q8 hd h hb
      · rw[na hd ⟨a,d⟩];exact oC hd ⟨a,d⟩
  · rw[p5 hd];exact qG hd
open Go.RowKit
theorem r5{k i:Nat}{C:ai}{L:List Obj}{R:ai × List Obj}(h:e9 (k-i) C L=R)(hk:k-i=0) : R=(C,L):=by
  rw[hk] at h
  exact h.symm
theorem jz{m:Md}{A:Option Addr}{cp:Nat}{b:List Int}{w:World}{c:Int}(hcode:B8 c)(hsl:aQ m w (.slice A b.length cp) b)(hb:b.length≤1048576) :
    Calls Tryz.prog 97 #[.int .i64 0,.int .u8 c,.slice A b.length cp] w (cD (.slice A b.length cp) b (aj bZ 0 c b) w):=by
 obtain⟨hcode1,hcode2⟩:=hcode
 have hln:(b.length:Int)≤1048576:=by omega
 refine en 176 Tryz.func97 rfl<|sg<|L0<|bD mZ fun bz bA q j a=>Pl 1<|nt<|sq<|sg<|Pl 6<|nt<|c0<|?_
 refine aX<|sq<|sg<|Pl 2<|nt<|cb ((c != 43)) (fun k=>?_) (fun k=>?_)
 have aG:=al k
 refine sg<|Pl 1<|L0<|aT j mZ fun bB aH aI=>Pl 1<|nt<|rt<|tr<|bu aH (.int .i64 4)<|?_
 have hs:aj bZ 0 c b=(aU.zero,4):=by
   unfold aj bZ dj gy fl fk eK dU eG dt
   (try simp only[k,bs,if_true,if_false,decide_true,decide_false,eq_self,true_or,or_true,or_false,false_or,if_true,if_false,cP,cO,cN,cR,reduceIte])
   all_goals rfl
 rw[hs]
 exact bf (ud a aI q)
 have aG:=ae k
 refine aX<|sg<|Pl 2<|L0<|dC #[.slice A b.length cp,.int .i64 0,.bool false,.int .i64 0] fun r bE d W h=>Pl 1<|ng<|Pl 1<|L0<|bD mZ fun bF bG g aJ aM=>L0<|aT aJ (mC 43) fun aN aO aR=>?_
 refine ng<|Pl 1<|?_
 have X:=ud aM aR g
 have s:=aE h X
 have Y:=aE a s
 have aS:RC w _ A cp b aN r (ai.mk b false 0):=⟨hsl,Y,(Nat.le_trans a.size d),⟨0,(ub X W),Nat.zero_le _,rfl⟩,by omega⟩
 refine L0<|Oc<|m3 (de aS) fun bH aW Z bI=>Pl 1<|?_
 have f:=nb (ak W) lr g
 refine L0<|bC (aK Z (Ne.symm f) aO) 16 (mG 43 0 0 0 0 0 0 0 0 0 0 0 nS nS nS nS ((ai.mk b false 0).byteV) 0 0 0 0 nS) fun bJ I a0=>ng<|Pl 2<|L0<|aZ I 16<|Pl 2<|cu 4 [38] 42 (((((ai.mk b false 0).byteV)==13)||(((ai.mk b false 0).byteV)==14))) (fun K a1=>?_) ?_
 refine bl 38 ((((ai.mk b false 0).byteV)==13)) (fun t=>?_) (fun t=>?_)
 have aY:=ap t
 exact Pl 4<|ce a1 true (by rw[t];rfl)
 have aY:=aq t
 exact Pl 1<|L1<|aZ I 16<|Pl 2<|ce a1 (((ai.mk b false 0).byteV)==14) (by rw[t];rfl)
 have x:=us Z a0
 have a2:=ut Y x (ac (ni a.size d) (ac (ni (le a.size h.size) g) av))
 refine L0<|Oc<|m2 (aL (((((ai.mk b false 0).byteV)==13)||(((ai.mk b false 0).byteV)==14))) 8 (RC.upd aW a0 (aa f am) a2)) fun bK b0 o=>?_
 refine eH b0 fun x55 a3 y=>?_
 refine nt<|sq<|bk<|sg<|Pl 1<|?_
 have J:=aK o (Ne.symm f) I
 refine L0<|aZ J 16<|Pl 2<|nt<|?_
 have a4:=ud a2 o (le a.size d)
 refine cb ((((ai.mk b false 0).byteV)==13)) (fun z=>?_) (fun z=>?_)
 have b1:=ap z
 refine sg<|Pl 1<|L0<|Oc<|m1 (fS y) fun bM L=>?_
 have bN:=RC.clen y
 refine Pl 1<|ng<|Pl 3<|?_
 refine L0<|Oc<|m2 (aL ((decide (((x55.l.length:Nat) : Int)≤251))) 5 (RC.upd y L am (az.step (RC.u y) L))) fun bO a5 b2=>nt<|go<|Pl 2<|L0<|Oc<|m7 (ew (n:=((x55.l.length:Nat) : Int)) (by omega) a5) fun a6 a7 bP b3 b4 b5=>?_
 have bQ:=Nat.le_trans (ai.bytesR_le (x55.need (decide (((x55.l.length:Nat) : Int)≤251)) 5) ((x55.l.length:Nat) : Int)) (RC.clen a5)
 refine eH b4 fun kq b6 b8=>?_
 refine Pl 1<|?_
 have a8:=uz L (u1 b2 b5 im)
 refine L0<|bC (aK a8 (Ne.symm f) J) 14 (mG 43 0 0 0 0 0 0 0 0 0 0 0 nS nS (.slice a6 (((x55.need (decide (((x55.l.length:Nat) : Int)≤251)) 5).bytesR ((x55.l.length:Nat) : Int)).length) a7) nS ((ai.mk b false 0).byteV) 0 0 0 0 nS) fun bR b9 a9=>nl<|bn<|tn<|sg<|Pl 1<|?_
 have M:=us a8 a9
 have ab:=ut a4 M (ac (ni a.size d) (ac (ni (le a.size h.size) g) av))
 refine L0<|Oc<|m2 (dy (RC.upd b8 a9 (aa f am) ab)) fun bS N E=>nt<|sq<|sg<|Pl 3<|L0<|cY (p:=⟨r,3,none⟩) (v:=.int .i64 kq.endC.e) (RC.fld N)<|Pl 1<|nt<|?_
 have ad:=ud ab E (le a.size d)
 have hs:aj bZ 0 c b=aP (aU.mk 43 0 0 0 0 0 0 0 0 0 0 0 [] [] ((x55.need (decide (((x55.l.length:Nat) : Int)≤251)) 5).bytesR ((x55.l.length:Nat) : Int)) [] ((ai.mk b false 0).byteV) 0 0 0 0 []) kq:=by
   subst b6 a3
   unfold aj bZ dj gy fl fk eK dU eG dt
   (try simp only[k,z,bs,if_true,if_false,decide_true,decide_false,eq_self,true_or,or_true,or_false,false_or,if_true,if_false,cP,cO,cN,cR,reduceIte])
   all_goals rfl
 refine cb ((kq.endC.e != 0)) (fun O=>?_) (fun O=>?_)
 have P:=al O
 refine sq<|Rg 7 (fun w'=>w'.cell? ⟨r,3,none⟩=some (.int .i64 kq.endC.e)) fun bT F=>?_
 have af:=RC.upd N F am (az.step (RC.u N) F)
 refine bg (RC.fld af) fun B=>Rt 0 B<|Rt 1 B<|Rt 2 B<|Rt 3 B<|Rl 4 B (fun _ hs=>hs)<|?_
 refine R0 5 rfl<|aT (ub (ut s (ut x (ui o (u1 M (aE E F) im)) (ac im (ac im av))) (ac (nr d) (ac (ni h.size g) av))) j) mZ fun bU ba ag=>?_
 have ah:=ud ad (uz F ag) q
 refine bg (RC.fld (RC.upd af ag (aa (Ne.symm (nb (ak j) lr d)) am) ah)) fun bb=>Rt 6 bb<|re<|tn<|rt<|tr<|bu ba (.int .i64 kq.endC.e)<|?_
 rw[hs]
 exact aV P ah
 have P:=ae O
 refine aX<|sg<|?_
 refine L0<|bV (aK E (Ne.symm f) b9)<|?_
 refine L0<|aT (ub (ut s (ut x (ui o (u1 M E im)) (ac im (ac im av))) (ac (nr d) (ac (ni h.size g) av))) j) (mG 43 0 0 0 0 0 0 0 0 0 0 0 nS nS (.slice a6 (((x55.need (decide (((x55.l.length:Nat) : Int)≤251)) 5).bytesR ((x55.l.length:Nat) : Int)).length) a7) nS ((ai.mk b false 0).byteV) 0 0 0 0 nS) fun bW bc bd=>Pl 1<|nt<|rt<|bu bc (.int .i64 0)<|?_
 rw[hs]
 exact b7 P ⟨_,_,_,_,_,rfl,aB.nil ..,aB.nil ..,b3,aB.nil ..,aB.nil ..,(bL (by omega))⟩ (ud ad bd q)
 have b1:=aq z
 refine sg<|Pl 3<|nt<|c1<|sg<|Pl 1<|L0<|Oc<|m3 (de y) fun bX be an bY=>Pl 1<|?_
 refine L0<|bC (aK an (Ne.symm f) J) 17 (mG 43 0 0 0 0 0 0 0 0 0 0 0 nS nS nS nS ((ai.mk b false 0).byteV) x55.byteV 0 0 0 nS) fun c2 Q ao=>ng<|Pl 2<|L0<|aZ Q 17<|Pl 2<|cu 4 [154] 158 (((decide (0<x55.byteV))&&(decide (x55.byteV<5)))) (fun K ar=>?_) ?_
 refine bl 154 ((decide (0<x55.byteV))) (fun C=>?_) (fun C=>?_)
 have bh:=of_decide_eq_true C
 exact Pl 1<|L1<|aZ Q 17<|Pl 2<|ce ar (decide (x55.byteV<5)) (by rw[C];rfl)
 have bh:=of_decide_eq_false C
 exact Pl 4<|ce ar false (by rw[C];rfl)
 have R:=us an ao
 have au:=ut a4 R (ac (ni a.size d) (ac (ni (le a.size h.size) g) av))
 refine L0<|Oc<|m2 (aL (((decide (0<x55.byteV))&&(decide (x55.byteV<5)))) 6 (RC.upd be ao (aa f am) au)) fun c3 bi bj=>?_
 refine eH bi fun i bm bo=>?_
 refine nt<|go<|Pl 1<|L0<|Oc<|m3 (de bo) fun c4 bp bq c5=>Pl 1<|?_
 have aw:=u1 bj bq im
 refine L0<|bC (aK aw (Ne.symm f) Q) 20 (mG 43 0 0 0 0 0 0 0 0 0 0 0 nS nS nS nS ((ai.mk b false 0).byteV) x55.byteV 0 0 i.byteV nS) fun c6 br ax=>nl<|bn<|tn<|sg<|Pl 1<|?_
 have S:=us aw ax
 have ay:=ut au S (ac (ni a.size d) (ac (ni (le a.size h.size) g) av))
 refine L0<|Oc<|m2 (dy (RC.upd bp ax (aa f am) ay)) fun c7 T G=>nt<|sq<|sg<|Pl 3<|L0<|cY (p:=⟨r,3,none⟩) (v:=.int .i64 (((i.bytesC 1).endC).e)) (RC.fld T)<|Pl 1<|nt<|?_
 have aA:=ud ay G (le a.size d)
 have hs:aj bZ 0 c b=aP (aU.mk 43 0 0 0 0 0 0 0 0 0 0 0 [] [] [] [] ((ai.mk b false 0).byteV) x55.byteV 0 0 i.byteV []) (i.bytesC 1):=by
   subst bm a3
   unfold aj bZ dj gy fl fk eK dU eG dt
   (try simp only[k,z,bs,if_true,if_false,decide_true,decide_false,eq_self,true_or,or_true,or_false,false_or,if_true,if_false,cP,cO,cN,cR,reduceIte])
   all_goals rfl
 refine cb (((((i.bytesC 1).endC).e)!=0)) (fun U=>?_) (fun U=>?_)
 have V:=al U
 refine sq<|Rg 7 (fun w'=>w'.cell? ⟨r,3,none⟩=some (.int .i64 (((i.bytesC 1).endC).e))) fun c8 H=>?_
 have aC:=RC.upd T H am (az.step (RC.u T) H)
 refine bg (RC.fld aC) fun D=>Rt 0 D<|Rt 1 D<|Rt 2 D<|Rt 3 D<|Rl 4 D (fun _ hs=>hs)<|?_
 refine R0 5 rfl<|aT (ub (ut s (ut x (ui o (ut R (u1 S (aE G H) im) (ac im (ac im av)))) (ac im (ac im av))) (ac (nr d) (ac (ni h.size g) av))) j) mZ fun c9 bt aD=>?_
 have aF:=ud aA (uz H aD) q
 refine bg (RC.fld (RC.upd aC aD (aa (Ne.symm (nb (ak j) lr d)) am) aF)) fun bv=>Rt 6 bv<|re<|tn<|rt<|tr<|bu bt (.int .i64 (((i.bytesC 1).endC).e))<|?_
 rw[hs]
 exact aV V aF
 have V:=ae U
 refine aX<|sg<|?_
 refine L0<|bV (aK G (Ne.symm f) br)<|?_
 refine L0<|aT (ub (ut s (ut x (ui o (ut R (u1 S G im) (ac im (ac im av)))) (ac im (ac im av))) (ac (nr d) (ac (ni h.size g) av))) j) (mG 43 0 0 0 0 0 0 0 0 0 0 0 nS nS nS nS ((ai.mk b false 0).byteV) x55.byteV 0 0 i.byteV nS) fun ca bw bx=>Pl 1<|nt<|rt<|bu bw (.int .i64 0)<|?_
 rw[hs]
 exact b7 V ⟨_,_,_,_,_,rfl,aB.nil ..,aB.nil ..,(fun _ _ _=>aB.nil ..),aB.nil ..,aB.nil ..,(bL (by omega))⟩ (ud aA bx q)
theorem jo{m:Md}{A:Option Addr}{cp:Nat}{b:List Int}{w:World}{c:Int}(hcode:B8 c)(hsl:aQ m w (.slice A b.length cp) b)(hb:b.length≤1048576) :
    Calls Tryz.prog 97 #[.int .i64 1,.int .u8 c,.slice A b.length cp] w (cD (.slice A b.length cp) b (aj bZ 1 c b) w):=by
 obtain⟨hcode1,hcode2⟩:=hcode
 have hln:(b.length:Int)≤1048576:=by omega
 refine en 176 Tryz.func97 rfl<|sg<|L0<|bD mZ fun Y dL I t a=>Pl 1<|nt<|sq<|sg<|Pl 6<|nt<|c0<|?_
 refine aX<|sq<|sg<|Pl 2<|nt<|cb ((c != 43)) (fun D=>?_) (fun D=>?_)
 have ct:=al D
 refine sg<|Pl 1<|L0<|aT t mZ fun dM cv cw=>Pl 1<|nt<|rt<|tr<|bu cv (.int .i64 4)<|?_
 have hs:aj bZ 1 c b=(aU.zero,4):=by
   unfold aj bZ dj gy fl fk eK dU eG dt
   (try simp only[D,bs,if_true,if_false,decide_true,decide_false,eq_self,true_or,or_true,or_false,false_or,if_true,if_false,cP,cO,cN,cR,reduceIte])
   all_goals rfl
 rw[hs]
 exact bf (ud a cw I)
 have ct:=ae D
 refine aX<|sg<|Pl 2<|L0<|dC #[.slice A b.length cp,.int .i64 0,.bool false,.int .i64 0] fun s dN f b2 o=>Pl 1<|ng<|Pl 1<|L0<|bD mZ fun E dO q cx b3=>L0<|aT cx (mC 43) fun cy cz b4=>?_
 refine ng<|Pl 1<|?_
 have b5:=ud b3 b4 q
 have Z:=aE o b5
 have b9:=aE a Z
 have cA:RC w _ A cp b cy s (ai.mk b false 0):=⟨hsl,b9,(Nat.le_trans a.size f),⟨0,(ub b5 b2),Nat.zero_le _,rfl⟩,by omega⟩
 refine L0<|Oc<|m3 (de cA) fun dP cB a7 dQ=>Pl 1<|?_
 have g:=nb (ak b2) lr q
 refine L0<|bC (aK a7 (Ne.symm g) cz) 16 (mG 43 0 0 0 0 0 0 0 0 0 0 0 nS nS nS nS ((ai.mk b false 0).byteV) 0 0 0 0 nS) fun dR a8 a9=>ng<|Pl 2<|L0<|aZ a8 16<|Pl 2<|cu 4 [38] 42 (((((ai.mk b false 0).byteV)==13)||(((ai.mk b false 0).byteV)==14))) (fun K ba=>?_) ?_
 refine bl 38 ((((ai.mk b false 0).byteV)==13)) (fun J=>?_) (fun J=>?_)
 have cE:=ap J
 exact Pl 4<|ce ba true (by rw[J];rfl)
 have cE:=aq J
 exact Pl 1<|L1<|aZ a8 16<|Pl 2<|ce ba (((ai.mk b false 0).byteV)==14) (by rw[J];rfl)
 have a0:=us a7 a9
 have bb:=ut b9 a0 (ac (ni a.size f) (ac (ni (le a.size o.size) q) av))
 refine L0<|Oc<|m2 (aL (((((ai.mk b false 0).byteV)==13)||(((ai.mk b false 0).byteV)==14))) 8 (RC.upd cB a9 (aa g am) bb)) fun dS cF F=>?_
 refine eH cF fun x55 bc M=>?_
 refine nt<|sq<|bk<|sg<|Pl 1<|?_
 have ab:=aK F (Ne.symm g) a8
 refine L0<|aZ ab 16<|Pl 2<|nt<|?_
 have bd:=ud bb F (le a.size f)
 refine cb ((((ai.mk b false 0).byteV)==13)) (fun N=>?_) (fun N=>?_)
 have cG:=ap N
 refine sg<|Pl 1<|L0<|Oc<|m1 (fS M) fun dT ad=>?_
 have dV:=RC.clen M
 refine Pl 1<|ng<|Pl 3<|?_
 refine L0<|Oc<|m2 (aL ((decide (((x55.l.length:Nat) : Int)≤251))) 5 (RC.upd M ad am (az.step (RC.u M) ad))) fun dW be cH=>nt<|go<|Pl 2<|L0<|Oc<|m7 (ew (n:=((x55.l.length:Nat) : Int)) (by omega) be) fun bh bj dX cI cJ cK=>?_
 have dY:=Nat.le_trans (ai.bytesR_le (x55.need (decide (((x55.l.length:Nat) : Int)≤251)) 5) ((x55.l.length:Nat) : Int)) (RC.clen be)
 refine eH cJ fun kq cL cM=>?_
 refine Pl 1<|?_
 have bm:=uz ad (u1 cH cK im)
 refine L0<|bC (aK bm (Ne.symm g) ab) 14 (mG 43 0 0 0 0 0 0 0 0 0 0 0 nS nS (.slice bh (((x55.need (decide (((x55.l.length:Nat) : Int)≤251)) 5).bytesR ((x55.l.length:Nat) : Int)).length) bj) nS ((ai.mk b false 0).byteV) 0 0 0 0 nS) fun dZ cQ bo=>nl<|bn<|tn<|sg<|Pl 1<|?_
 have af:=us bm bo
 have bp:=ut bd af (ac (ni a.size f) (ac (ni (le a.size o.size) q) av))
 refine L0<|Oc<|m2 (dy (RC.upd cM bo (aa g am) bp)) fun e0 ag a1=>nt<|sq<|sg<|Pl 3<|L0<|cY (p:=⟨s,3,none⟩) (v:=.int .i64 kq.endC.e) (RC.fld ag)<|Pl 1<|nt<|?_
 have bq:=ud bp a1 (le a.size f)
 have hs:aj bZ 1 c b=aP (aU.mk 43 0 0 0 0 0 0 0 0 0 0 0 [] [] ((x55.need (decide (((x55.l.length:Nat) : Int)≤251)) 5).bytesR ((x55.l.length:Nat) : Int)) [] ((ai.mk b false 0).byteV) 0 0 0 0 []) kq:=by
   subst cL bc
   unfold aj bZ dj gy fl fk eK dU eG dt
   (try simp only[D,N,bs,if_true,if_false,decide_true,decide_false,eq_self,true_or,or_true,or_false,false_or,if_true,if_false,cP,cO,cN,cR,reduceIte])
   all_goals rfl
 refine cb ((kq.endC.e != 0)) (fun ah=>?_) (fun ah=>?_)
 have an:=al ah
 refine sq<|Rg 7 (fun w'=>w'.cell? ⟨s,3,none⟩=some (.int .i64 kq.endC.e)) fun e1 a2=>?_
 have br:=RC.upd ag a2 am (az.step (RC.u ag) a2)
 refine bg (RC.fld br) fun O=>Rt 0 O<|Rt 1 O<|Rt 2 O<|Rt 3 O<|Rl 4 O (fun _ hs=>hs)<|?_
 refine R0 5 rfl<|aT (ub (ut Z (ut a0 (ui F (u1 af (aE a1 a2) im)) (ac im (ac im av))) (ac (nr f) (ac (ni o.size q) av))) t) mZ fun e2 cS bt=>?_
 have bv:=ud bq (uz a2 bt) I
 refine bg (RC.fld (RC.upd br bt (aa (Ne.symm (nb (ak t) lr f)) am) bv)) fun cT=>Rt 6 cT<|re<|tn<|rt<|tr<|bu cS (.int .i64 kq.endC.e)<|?_
 rw[hs]
 exact aV an bv
 have an:=ae ah
 refine aX<|sg<|?_
 refine L0<|bV (aK a1 (Ne.symm g) cQ)<|?_
 refine L0<|aT (ub (ut Z (ut a0 (ui F (u1 af a1 im)) (ac im (ac im av))) (ac (nr f) (ac (ni o.size q) av))) t) (mG 43 0 0 0 0 0 0 0 0 0 0 0 nS nS (.slice bh (((x55.need (decide (((x55.l.length:Nat) : Int)≤251)) 5).bytesR ((x55.l.length:Nat) : Int)).length) bj) nS ((ai.mk b false 0).byteV) 0 0 0 0 nS) fun e3 cU cV=>Pl 1<|nt<|rt<|bu cU (.int .i64 0)<|?_
 rw[hs]
 exact b7 an ⟨_,_,_,_,_,rfl,aB.nil ..,aB.nil ..,cI,aB.nil ..,aB.nil ..,(bL (by omega))⟩ (ud bq cV I)
 have cG:=aq N
 refine sg<|Pl 3<|nt<|c0<|sg<|Pl 1<|L0<|Oc<|m3 (de M) fun e4 cW ao e5=>Pl 1<|?_
 refine L0<|bC (aK ao (Ne.symm g) ab) 17 (mG 43 0 0 0 0 0 0 0 0 0 0 0 nS nS nS nS ((ai.mk b false 0).byteV) x55.byteV 0 0 0 nS) fun e6 ar au=>ng<|Pl 2<|L0<|aZ ar 17<|Pl 2<|cu 4 [51] 55 (((decide (0<x55.byteV))&&(decide (x55.byteV<5)))) (fun K bw=>?_) ?_
 refine bl 51 ((decide (0<x55.byteV))) (fun P=>?_) (fun P=>?_)
 have cX:=of_decide_eq_true P
 exact Pl 1<|L1<|aZ ar 17<|Pl 2<|ce bw (decide (x55.byteV<5)) (by rw[P];rfl)
 have cX:=of_decide_eq_false P
 exact Pl 4<|ce bw false (by rw[P];rfl)
 have bz:=us ao au
 have bA:=ut bd bz (ac (ni a.size f) (ac (ni (le a.size o.size) q) av))
 refine L0<|Oc<|m2 (aL (((decide (0<x55.byteV))&&(decide (x55.byteV<5)))) 6 (RC.upd cW au (aa g am) bA)) fun e7 cZ bE=>?_
 refine eH cZ fun j d0 d1=>?_
 refine ng<|Pl 1<|L0<|Oc<|m3 (de d1) fun e8 d2 bF ea=>Pl 1<|?_
 have bG:=u1 bE bF im
 refine L0<|bC (aK bG (Ne.symm g) ar) 18 (mG 43 0 0 0 0 0 0 0 0 0 0 0 nS nS nS nS ((ai.mk b false 0).byteV) x55.byteV j.byteV 0 0 nS) fun eb bH aw=>ng<|Pl 1<|L0<|aZ bH 18<|L0<|Oe (.int .u8 (Int.tmod j.byteV 128)) (.int .u8 (j.byteV%128)) (congrArg (Value.int .u8) (Int.tmod_eq_emod_of_nonneg (by omega)))<|Pl 1<|ng<|Pl 4<|cu 3 [66] 69 (((decide (1≤(j.byteV%128)))&&(decide ((j.byteV%128)≤3)))) (fun K bI=>?_) ?_
 refine bl 66 ((decide (1≤(j.byteV%128)))) (fun Q=>?_) (fun Q=>?_)
 have d3:=of_decide_eq_true Q
 exact Pl 3<|ce bI (decide ((j.byteV%128)≤3)) (by rw[Q];rfl)
 have d3:=of_decide_eq_false Q
 exact Pl 3<|ce bI false (by rw[Q];rfl)
 have bJ:=us bG aw
 have bK:=ut bA bJ (ac (ni a.size f) (ac (ni (le a.size o.size) q) av))
 refine L0<|Oc<|m2 (aL (((decide (1≤(j.byteV%128)))&&(decide ((j.byteV%128)≤3)))) 6 (RC.upd d2 aw (aa g am) bK)) fun ec d4 bM=>?_
 refine eH d4 fun k d5 d6=>?_
 refine ng<|Pl 1<|L0<|Oc<|m3 (de d6) fun ed d7 bN ee=>Pl 1<|?_
 have bO:=u1 bM bN im
 refine L0<|bC (aK bO (Ne.symm g) bH) 19 (mG 43 0 0 0 0 0 0 0 0 0 0 0 nS nS nS nS ((ai.mk b false 0).byteV) x55.byteV j.byteV k.byteV 0 nS) fun ef ay aA=>ng<|Pl 2<|L0<|aZ ay 19<|Pl 2<|cu 4 [78] 82 (((k.byteV==0)||(k.byteV==255))) (fun K bP=>?_) ?_
 refine bl 78 ((k.byteV==0)) (fun S=>?_) (fun S=>?_)
 have d8:=ap S
 exact Pl 4<|ce bP true (by rw[S];rfl)
 have d8:=aq S
 exact Pl 1<|L1<|aZ ay 19<|Pl 2<|ce bP (k.byteV==255) (by rw[S];rfl)
 have bQ:=us bO aA
 have bR:=ut bK bQ (ac (ni a.size f) (ac (ni (le a.size o.size) q) av))
 refine L0<|Oc<|m2 (aL (((k.byteV==0)||(k.byteV==255))) 6 (RC.upd d7 aA (aa g am) bR)) fun eg d9 bS=>?_
 refine eH d9 fun y da db=>?_
 refine ng<|Pl 1<|L0<|Oc<|m3 (de db) fun eh dc bT ei=>Pl 1<|?_
 have bU:=u1 bS bT im
 refine L0<|bC (aK bU (Ne.symm g) ay) 20 (mG 43 0 0 0 0 0 0 0 0 0 0 0 nS nS nS nS ((ai.mk b false 0).byteV) x55.byteV j.byteV k.byteV y.byteV nS) fun ej a3 aC=>ng<|Pl 2<|L0<|aZ a3 20<|Pl 2<|cu 4 [91] 95 (((y.byteV==0)||(k.byteV==255))) (fun K bW=>?_) ?_
 refine bl 91 ((y.byteV==0)) (fun T=>?_) (fun T=>?_)
 have dd:=ap T
 exact Pl 4<|ce bW true (by rw[T];rfl)
 have dd:=aq T
 exact Pl 1<|L1<|aZ a3 19<|Pl 2<|ce bW (k.byteV==255) (by rw[T];rfl)
 have bX:=us bU aC
 have bY:=ut bR bX (ac (ni a.size f) (ac (ni (le a.size o.size) q) av))
 refine L0<|Oc<|m2 (aL (((y.byteV==0)||(k.byteV==255))) 6 (RC.upd dc aC (aa g am) bY)) fun el df aD=>?_
 refine eH df fun d dg dh=>?_
 refine ng<|Pl 1<|L0<|Oc<|m3 (de dh) fun em di aF eo=>L0<|Oi d.byteV<|Pl 1<|ng<|Pl 4<|cu 4 [103] 107 (((d.byteV==1)||(x55.byteV != 4))) (fun K c1=>?_) ?_
 refine bl 103 ((d.byteV==1)) (fun U=>?_) (fun U=>?_)
 have dk:=ap U
 exact Pl 4<|ce c1 true (by rw[U];rfl)
 have dk:=aq U
 refine Pl 1<|?_
 exact L1<|aZ (aK (u1 aD aF im) (Ne.symm g) a3) 17<|Pl 2<|ce c1 (x55.byteV != 4) (by rw[U];rfl)
 refine L0<|Oc<|m2 (aL (((d.byteV==1)||(x55.byteV != 4))) 5 di) fun dl dm c2=>?_
 refine eH dm fun V dn dp=>?_
 refine ng<|Pl 1<|nt<|bk<|?_
 have hKr:0≤d.byteV∧d.byteV<256:=by omega
 have aG:=u1 aD (u1 aF c2 im) im
 refine gI (fun x=>[(6,.pointer (some ⟨Y,0,none⟩)),(7,.int .i64 0),(8,.pointer (some ⟨s,0,none⟩)),(9,.pointer (some ⟨E,0,none⟩)),(12,.int .i64 d.byteV),(13,.int .i64 ((x.1:Nat) : Int))]) (fun(x:Nat × ai × List Obj × Option Addr × Nat) w'=>az [] w w'∧dl.heap.size≤w'.heap.size∧w'.heap[Y]? = some (.cells mZ 30 (0,0))∧RC w m A cp b w' s x.2.1∧w'.heap[E]? = some (.cells (mG 43 0 0 0 0 0 0 0 0 0 0 0 nS nS nS nS ((ai.mk b false 0).byteV) x55.byteV j.byteV k.byteV y.byteV (.slice x.2.2.2.1 x.2.2.1.length x.2.2.2.2)) 30 (0,0))∧b6 w.heap.size 111 2 (lR (.slice A b.length cp) b) w' (.slice x.2.2.2.1 x.2.2.1.length x.2.2.2.2) x.2.2.1∧(x.1≤d.byteV.toNat)∧(x.2.2.1.length=x.1)∧(e9 (d.byteV.toNat-x.1) x.2.1 x.2.2.1=e9 d.byteV.toNat V [])) (fun x=>d.byteV.toNat-x.1) (0,V,[],none,0) ⟨(ud bY aG (le a.size f)),lr,(ub (ut Z (ut a0 (ui F (ut bz (ut bJ (ut bQ (u1 bX aG im) (ac im (ac im av))) (ac im (ac im av))) (ac im (ac im av)))) (ac im (ac im av))) (ac (nr f) (ac (ni o.size q) av))) t),dp,(aK aG (Ne.symm g) a3),(b6.nil w.heap.size _ _ (lR (.slice A b.length cp) b) _),(by(try dsimp only);omega),rfl,rfl⟩ ?_
 rintro⟨i,C,L,B,cq⟩ a4 ⟨c3,c4,dq,dr,ds,du,dv,dw,dx⟩
 refine gJ [(6,.pointer (some ⟨Y,0,none⟩)),(7,.int .i64 0),(8,.pointer (some ⟨s,0,none⟩)),(9,.pointer (some ⟨E,0,none⟩)),(12,.int .i64 d.byteV),(13,.int .i64 ((i:Nat) : Int))] ?_
 have G:a4.heap[Y]? = some (.cells mZ 30 (0,0)):=dq
 have z:RC w m A cp b a4 s C:=dr
 have hlC:=RC.clen z
 have hrC:gj C:=RC.rng z
 have hbv:=gi hrC
 have hbv2:=gi (fG hrC (n:=1))
 have c5:a4.heap[E]? = some (.cells (mG 43 0 0 0 0 0 0 0 0 0 0 0 nS nS nS nS ((ai.mk b false 0).byteV) x55.byteV j.byteV k.byteV y.byteV (.slice B L.length cq)) 30 (0,0)):=ds
 have r:b6 w.heap.size 111 2 (lR (.slice A b.length cp) b) a4 (.slice B L.length cq) L:=du
 have ep:i≤d.byteV.toNat:=dv
 have eq:L.length=i:=dw
 have c6:e9 (d.byteV.toNat-i) C L=e9 d.byteV.toNat V []:=dx
 refine sq<|sg<|Pl 3<|nt<|cb ((decide (((i:Nat) : Int)<d.byteV))) (fun a5=>?_) (fun a5=>?_)
 have dz:=of_decide_eq_true a5
 refine aX<|sq<|bk<|sg<|Pl 1<|L0<|Oc<|m3 (de z) fun er dA aH es=>Pl 1<|ng<|Pl 1<|L0<|Oc<|m3 (de dA) fun et c7 aI eu=>?_
 refine L0<|Oi ((C.bytesC 1).byteV)<|Pl 1<|ng<|Pl 2<|L0<|Oc<|m7 (ew (n:=(C.bytesC 1).byteV) (by omega) c7) fun dB dD ev dE c8 aJ=>?_
 have ex:=Nat.le_trans (ai.bytesR_le ((C.bytesC 1).bytesC 1) ((C.bytesC 1).byteV)) (RC.clen c7)
 refine Pl 1<|nt<|go<|Pl 1<|?_
 have aN:=u1 aH (u1 aI aJ im) im
 have aO:=aK aN (Ne.symm g) c5
 refine L0<|aZ aO 21<|Pl 3<|L0<|gA (m:=1) (e:=111) #[.int .u8 C.byteV,.slice dB ((((C.bytesC 1).bytesC 1).bytesR ((C.bytesC 1).byteV)).length) dD] fun ey ez eA dF H=>?_
 have c9:=RC.upd c8 H am (az.step (RC.u c8) H)
 have dG:=ip (R:=lR (.slice A b.length cp) b) (x:=(Obj.mk C.byteV (((C.bytesC 1).bytesC 1).bytesR ((C.bytesC 1).byteV)))) dF rfl ⟨_,_,_,rfl,dE,b8 (x:=C.byteV) (by omega)⟩
 have ca:=aE aN H
 have cc:=ax r ca (fun x hx=>(aa (fun e=>(RC.nrow z r (by decide)) (e▸hx)) am)) (fun _ _ h=>h)
 refine L0<|fm (xs:=L) (ys:=([(Obj.mk C.byteV (((C.bytesC 1).bytesC 1).bytesR ((C.bytesC 1).byteV)))])) (.agg #[.int .u8 0,.slice none 0 0]) 2 32 cc dG (by simp) lR.ones (fun _ _ _ _ h=>h) (by(try simp only[List.length_append,List.length_cons,List.length_nil,bB]);omega) (le (le (le (le (le (le (le (le (le (le (le (le (le (le (le (le (le (le (le (le (le (le (le (le (le a.size o.size) b3.size) b4.size) a7.size) a9.size) F.size) ao.size) au.size) bE.size) bF.size) aw.size) bM.size) bN.size) aA.size) bS.size) bT.size) aC.size) aD.size) aF.size) c2.size) c4) aH.size) aI.size) aJ.size) H.size) fun cd cf eC cg aR=>Pl 1<|?_
 have ch:=az.blk (ut (az.mono (S':=(ob B++[])) H av) aR (aM il av)) (bi (eB aO (ax r aN (fun x hx=>(aa (fun e=>(RC.nrow z r (by decide)) (e▸hx)) am)) (fun _ _ h=>h)) (by decide)) am) aO
 refine L0<|bC ch 21 (mG 43 0 0 0 0 0 0 0 0 0 0 0 nS nS nS nS ((ai.mk b false 0).byteV) x55.byteV j.byteV k.byteV y.byteV (.slice cd ((L++[(Obj.mk C.byteV (((C.bytesC 1).bytesC 1).bytesR ((C.bytesC 1).byteV)))]).length) cf)) fun eD dH aS=>nl<|bn<|tn<|go<|Pl 1<|L0<|Oi (((i:Nat) : Int)+1)<|Pl 1<|nl<|?_
 have ci:=u1 (az.mono (S':=(ob B++(E :: []))) aR (aM il av)) aS im
 have cj:=ut (az.mono (S':=(s :: (ob B++(E :: [])))) ca (ac im av)) ci (aM il (ac im av))
 have ck:=ut c3 cj (ac (ni a.size f) (aM (cC r lr) (ac (ni (le a.size o.size) q) av)))
 exact ek ((i+1),(((C.bytesC 1).bytesC 1).bytesC ((C.bytesC 1).byteV)),(L++[(Obj.mk C.byteV (((C.bytesC 1).bytesC 1).bytesR ((C.bytesC 1).byteV)))]),cd,cf) ⟨ck,(le (le (le (le (le (le c4 aH.size) aI.size) aJ.size) H.size) aR.size) aS.size),(az.blk cj (aa (nb (ak t) lr f) (bi (eB G r (by decide)) (aa (nb (ak t) o.size q) am))) G),(RC.upd c9 ci (bi (RC.nrow c9 cc (by decide)) (aa g am)) ck),dH,(ax cg aS (fun x hx=>(aa (fun e=>(eB ch cg (by decide)) (e▸hx)) am)) (fun _ _ h=>h)),(by(try dsimp only);omega),(by(try dsimp only);simp only[List.length_append,List.length_cons,List.length_nil];omega),(by(try dsimp only);rw[← c6,show d.byteV.toNat-i=(d.byteV.toNat-(i+1))+1 from by omega];rfl)⟩ (by omega)
 have dz:=of_decide_eq_false a5
 refine xt<|tx<|tx<|bx<|bn<|tn<|sg<|Pl 1<|?_
 have hR:=r5 c6 (by omega)
 refine L0<|Oc<|m2 (dy z) fun eE aW W=>nt<|sq<|sg<|Pl 3<|L0<|cY (p:=⟨s,3,none⟩) (v:=.int .i64 C.endC.e) (RC.fld aW)<|Pl 1<|nt<|?_
 have cl:=ud c3 W (le a.size f)
 have hs:aj bZ 1 c b=aP (aU.mk 43 0 0 0 0 0 0 0 0 0 0 0 [] [] [] [] ((ai.mk b false 0).byteV) x55.byteV j.byteV k.byteV y.byteV (e9 d.byteV.toNat V []).2) (e9 d.byteV.toNat V []).1:=by
   subst dn dg da d5 d0 bc
   unfold aj bZ dj gy fl fk eK dU eG dt
   (try simp only[D,N,a5,bs,if_true,if_false,decide_true,decide_false,eq_self,true_or,or_true,or_false,false_or,if_true,if_false,cP,cO,cN,cR,reduceIte])
   all_goals rfl
 refine cb ((C.endC.e != 0)) (fun aY=>?_) (fun aY=>?_)
 have b0:=al aY
 refine sq<|Rg 7 (fun w'=>w'.cell? ⟨s,3,none⟩=some (.int .i64 C.endC.e)) fun eF a6=>?_
 have cm:=RC.upd aW a6 am (az.step (RC.u aW) a6)
 refine bg (RC.fld cm) fun X=>Rt 0 X<|Rt 1 X<|Rt 2 X<|Rt 3 X<|Rl 4 X (fun _ hs=>hs)<|?_
 have cn:=aE W a6
 have co:=nb (ak t) lr f
 refine R0 5 rfl<|aT (aK cn co G) mZ fun eI dI b1=>?_
 have cr:=ud cl (uz a6 b1) I
 refine bg (RC.fld (RC.upd cm b1 (aa (Ne.symm co) am) cr)) fun dJ=>Rt 6 dJ<|re<|tn<|rt<|tr<|bu dI (.int .i64 C.endC.e)<|?_
 have eJ:=ax r (us cn b1) (fun x hx=>(aa (fun e=>(RC.nrow z r (by decide)) (e▸hx)) (aa (fun e=>(eB G r (by decide)) (e▸hx)) am))) (fun _ _ h=>h)
 rw[hR] at hs
 rw[hs]
 exact aV b0 cr
 have b0:=ae aY
 refine aX<|sg<|?_
 refine L0<|bV (aK W (Ne.symm g) c5)<|?_
 refine L0<|aT (aK W (nb (ak t) lr f) G) (mG 43 0 0 0 0 0 0 0 0 0 0 0 nS nS nS nS ((ai.mk b false 0).byteV) x55.byteV j.byteV k.byteV y.byteV (.slice B L.length cq)) fun eL dK cs=>Pl 1<|nt<|rt<|bu dK (.int .i64 0)<|?_
 rw[hR] at hs
 rw[hs]
 exact b7 b0 ⟨_,_,_,_,_,rfl,aB.nil ..,aB.nil ..,(fun _ _ _=>aB.nil ..),aB.nil ..,((ax r (us W cs) (fun x hx=>(aa (fun e=>(RC.nrow z r (by decide)) (e▸hx)) (aa (fun e=>(eB G r (by decide)) (e▸hx)) am))) (fun _ _ h=>h))).rd,(bL (by omega))⟩ (ud cl cs I)
theorem jh{m:Md}{A:Option Addr}{cp:Nat}{b:List Int}{w:World}{dir c:Int}(hcode:B8 c)(hsl:aQ m w (.slice A b.length cp) b)(hb:b.length≤1048576)(hd:¬ (dir=0∨dir=1)) :
    Calls Tryz.prog 97 #[.int .i64 dir,.int .u8 c,.slice A b.length cp] w (cD (.slice A b.length cp) b (aj bZ dir c b) w):=by
 obtain⟨hcode1,hcode2⟩:=hcode
 have hln:(b.length:Int)≤1048576:=by omega
 have e0:(dir != 0)=true:=by simp;omega
 have e1:(dir != 1)=true:=by simp;omega
 refine en 176 Tryz.func97 rfl<|sg<|L0<|bD mZ fun g h a d e=>Pl 1<|nt<|sq<|sg<|Pl 3<|sy 19 e0<|Pl 3<|nl<|?_
 refine tn<|ct e1<|sg<|Pl 1<|L0<|aT d mZ fun i dF f=>Pl 1<|nt<|rt<|tr<|bu dF (.int .i64 1)<|?_
 have hs:aj bZ dir c b=(aU.zero,1):=by
   unfold aj bZ dj gy fl fk eK dU eG dt
   (try simp only[e0,e1,bs,if_true,if_false,decide_true,decide_false,eq_self,true_or,or_true,or_false,false_or,if_true,if_false,cP,cO,cN,cR,reduceIte,hd])
   all_goals rfl
 rw[hs]
 exact bf (ud e f a)
theorem nh{m:Md}{v:Value}{b:List Int}{w:World}{dir c:Int}(hc:B8 c)(h:aQ m w v b)(hb:b.length≤1048576) :
    Calls Tryz.prog 97 #[.int .i64 dir,.int .u8 c,v] w (cD v b (aj bJ dir c b) w):=by
  rw[← lm (aQ.range h)]
  obtain⟨A,cp,rfl,_,_⟩:=h.shape
  by_cases h0:dir=0
  · subst h0;exact jz hc h hb
  by_cases h1:dir=1
  · subst h1;exact jo hc h hb
  exact jh hc h hb (by omega)
open Go.RowKit
theorem qK{x:Int}{w:World}:Calls Tryz.prog 148 #[.int .u8 x] w (c8 (.bool (kC x)) w):=by
 refine en 37 Tryz.func148 rfl<|sg<|Pl 1<|ng<|Pl 3<|cu 3 [5] 8 (((decide (1≤x))&&(decide (x≤8)))) (fun K i=>?_) ?_
 refine bl 5 ((decide (1≤x))) (fun a=>?_) (fun a=>?_)
 have v:=of_decide_eq_true a
 exact Pl 3<|ce i (decide (x≤8)) (by rw[a];rfl)
 have v:=of_decide_eq_false a
 exact Pl 3<|ce i false (by rw[a];rfl)
 refine Pl 1<|cu 3 [9] 12 ((((decide (1≤x))&&(decide (x≤8)))||(x==11))) (fun K j=>?_) ?_
 refine bl 9 (((decide (1≤x))&&(decide (x≤8)))) (fun b=>?_) (fun b=>?_)
 have y:=(aO b).1
 have z:=(aO b).2
 have G:=of_decide_eq_true y
 have H:=of_decide_eq_true z
 exact Pl 3<|ce j true (by rw[b];rfl)
 exact Pl 3<|ce j (x==11) (by rw[b];rfl)
 refine Pl 1<|cu 3 [13] 16 (((((decide (1≤x))&&(decide (x≤8)))||(x==11))||(x==12))) (fun K k=>?_) ?_
 refine bl 13 ((((decide (1≤x))&&(decide (x≤8)))||(x==11))) (fun c=>?_) (fun c=>?_)
 exact Pl 3<|ce k true (by rw[c];rfl)
 have I:=(aD c).1
 have A:=(aD c).2
 have J:=aq A
 exact Pl 3<|ce k (x==12) (by rw[c];rfl)
 refine Pl 1<|cu 7 [17] 24 ((((((decide (1≤x))&&(decide (x≤8)))||(x==11))||(x==12))||((decide (15≤x))&&(decide (x≤17))))) (fun K l=>?_) ?_
 refine bl 17 (((((decide (1≤x))&&(decide (x≤8)))||(x==11))||(x==12))) (fun d=>?_) (fun d=>?_)
 exact Pl 7<|ce l true (by rw[d];rfl)
 have m:=(aD d).1
 have B:=(aD d).2
 have L:=(aD m).1
 have C:=(aD m).2
 have q16abp:=aq C
 have M:=aq B
 refine Pl 3<|cu 3 [20] 23 (((decide (15≤x))&&(decide (x≤17)))) (fun K n=>?_) ?_
 refine bl 20 ((decide (15≤x))) (fun e=>?_) (fun e=>?_)
 have D:=of_decide_eq_true e
 exact Pl 3<|ce n (decide (x≤17)) (by rw[e];rfl)
 have D:=of_decide_eq_false e
 exact Pl 3<|ce n false (by rw[e];rfl)
 exact Pl 1<|ce l ((decide (15≤x))&&(decide (x≤17))) (by rw[d];rfl)
 refine Pl 1<|cu 7 [25] 32 (((((((decide (1≤x))&&(decide (x≤8)))||(x==11))||(x==12))||((decide (15≤x))&&(decide (x≤17))))||((decide (20≤x))&&(decide (x≤24))))) (fun K o=>?_) ?_
 refine bl 25 ((((((decide (1≤x))&&(decide (x≤8)))||(x==11))||(x==12))||((decide (15≤x))&&(decide (x≤17))))) (fun f=>?_) (fun f=>?_)
 exact Pl 7<|ce o true (by rw[f];rfl)
 have p:=(aD f).1
 have N:=(aD f).2
 have q:=(aD p).1
 have E:=(aD p).2
 have q20aaa:=(aD q).1
 have q20aab:=(aD q).2
 have q20aabp:=aq q20aab
 have q20abp:=aq E
 refine Pl 3<|cu 3 [28] 31 (((decide (20≤x))&&(decide (x≤24)))) (fun K r=>?_) ?_
 refine bl 28 ((decide (20≤x))) (fun g=>?_) (fun g=>?_)
 have F:=of_decide_eq_true g
 exact Pl 3<|ce r (decide (x≤24)) (by rw[g];rfl)
 have F:=of_decide_eq_false g
 exact Pl 3<|ce r false (by rw[g];rfl)
 exact Pl 1<|ce o ((decide (20≤x))&&(decide (x≤24))) (by rw[f];rfl)
 refine Pl 1<|cu 3 [33] 36 ((((((((decide (1≤x))&&(decide (x≤8)))||(x==11))||(x==12))||((decide (15≤x))&&(decide (x≤17))))||((decide (20≤x))&&(decide (x≤24))))||(x==43))) (fun K s=>?_) ?_
 refine bl 33 (((((((decide (1≤x))&&(decide (x≤8)))||(x==11))||(x==12))||((decide (15≤x))&&(decide (x≤17))))||((decide (20≤x))&&(decide (x≤24))))) (fun h=>?_) (fun h=>?_)
 exact Pl 3<|ce s true (by rw[h];rfl)
 have t:=(aD h).1
 have O:=(aD h).2
 have u:=(aD t).1
 have P:=(aD t).2
 have q24aaa:=(aD u).1
 have q24aab:=(aD u).2
 have q24aaaa:=(aD q24aaa).1
 have q24aaab:=(aD q24aaa).2
 have q24aaabp:=aq q24aaab
 have q24aabp:=aq q24aab
 exact Pl 3<|ce s (x==43) (by rw[h];rfl)
 refine Pl 1<|nt<|rt<|rr (.bool (((((((decide (1≤x))&&(decide (x≤8)))||(x==11))||(x==12))||((decide (15≤x))&&(decide (x≤17))))||((decide (20≤x))&&(decide (x≤24))))||(x==43)))<|?_
 have hs:kC x=(((((((decide (1≤x))&&(decide (x≤8)))||(x==11))||(x==12))||((decide (15≤x))&&(decide (x≤17))))||((decide (20≤x))&&(decide (x≤24))))||(x==43)):=by
   unfold kC
   (try simp only[bs,if_true,if_false,decide_true,decide_false])
 rw[hs]
 exact⟨rfl,(az.refl [] _)⟩
open Go.RowKit
def dY (b:List Int) : aU × Int :=
  if decide ((b.length:Int)<1) then (aU.zero,2)
  else if decide (b.getD 0 0-128<0) then (aU.zero,4)
  else if !(kC ((b.getD 0 0-128)%256)) then (aU.zero,4)
  else if decide ((b.length:Int)<2) then (aU.zero,2)
  else if !(d6 (b.getD 1 0)) then (aU.zero,6)
  else if decide (2<(b.length:Int)) then (aU.zero,3)
  else (u5 ((b.getD 0 0-128)%256) (b.getD 1 0),0)
theorem sU{x:Int}:kC x=fd x:=by
  unfold kC fd
  rw[Bool.eq_iff_iff]
  simp only[decide_eq_true_eq,List.mem_cons,List.not_mem_nil,or_false,Bool.or_eq_true,Bool.and_eq_true,beq_iff_eq]
  omega
theorem q6(b:List Int) : dY b=eh b:=by
  unfold dY eh
  rw[sU,show decide ((b.length:Int)<1)=((b.length:Int)==0) from by rw[Bool.eq_iff_iff];simp only[decide_eq_true_eq,beq_iff_eq];omega,show decide (b.getD 0 0-128<0)=decide (b.getD 0 0<128) from by rw[Bool.eq_iff_iff];simp only[decide_eq_true_eq];omega]
  by_cases h:b.length=0
  · rw[show((b.length:Int)==0)=true from by rw[beq_iff_eq];omega];rfl
  · rw[show decide ((b.length:Int)<2)=((b.length:Int)==1) from by rw[Bool.eq_iff_iff];simp only[decide_eq_true_eq,beq_iff_eq];omega]
theorem lT{m:Md}{A:Option Addr}{cp:Nat}{b:List Int}{w:World}(hsl:aQ m w (.slice A b.length cp) b)(hb:b.length≤1048576) :
    Calls Tryz.prog 92 #[.slice A b.length cp] w (cD (.slice A b.length cp) b (dY b) w):=by
 have hln:(b.length:Int)≤1048576:=by omega
 refine en 46 Tryz.func92 rfl<|sg<|L0<|bD mZ fun a2 a3 e f n=>Pl 1<|nt<|sq<|sg<|Pl 3<|nt<|cb ((decide (((b.length:Nat) : Int)<1))) (fun a=>?_) (fun a=>?_)
 have u:=of_decide_eq_true a
 refine sg<|Pl 1<|L0<|aT f mZ fun a4 y z=>Pl 1<|nt<|rt<|tr<|bu y (.int .i64 2)<|?_
 have hs:dY b=(aU.zero,2):=by
   unfold dY
   (try simp only[a,bs,if_true,if_false,decide_true,decide_false,Bool.not_eq_true,reduceIte])
   all_goals rfl
 rw[hs]
 exact bf (ud n z e)
 have u:=of_decide_eq_false a
 refine aX<|sg<|Pl 1<|?_
 have s:=aQ.old hsl n
 refine f3 (aQ.at_ s 0 (by omega)) fun B C D E a5=>L0<|fR b.length 0 D (by omega)<|L0<|cY (p:=⟨B,C+0,none⟩) (v:=.int .u8 (b.getD 0 0)) E<|L0<|Oi (b.getD 0 0)<|L0<|Oi ((b.getD 0 0)-128)<|Pl 1<|nt<|sq<|sg<|Pl 2<|nt<|?_
 refine cb ((decide (((b.getD 0 0)-128)<0))) (fun c=>?_) (fun c=>?_)
 have F:=of_decide_eq_true c
 refine sg<|Pl 1<|L0<|aT f mZ fun a6 G H=>Pl 1<|nt<|rt<|tr<|bu G (.int .i64 4)<|?_
 have hs:dY b=(aU.zero,4):=by
   unfold dY
   (try simp only[a,c,bs,if_true,if_false,decide_true,decide_false,Bool.not_eq_true,reduceIte])
   all_goals rfl
 rw[hs]
 exact bf (ud n H e)
 have F:=of_decide_eq_false c
 refine aX<|sg<|Pl 2<|L0<|Oc<|m1 (qK (x:=(((b.getD 0 0)-128)%256))) fun a7 g=>Pl 1<|nt<|sq<|sg<|Pl 2<|nl<|?_
 refine tn<|?_
 have q:=aE n g
 refine cb ((!(kC (((b.getD 0 0)-128)%256)))) (fun d=>?_) (fun d=>?_)
 have i:(kC (((b.getD 0 0)-128)%256))=false:=by simpa using d
 refine sg<|Pl 1<|?_
 refine L0<|aT (ub g f) mZ fun a8 I J=>Pl 1<|nt<|rt<|tr<|bu I (.int .i64 4)<|?_
 have hs:dY b=(aU.zero,4):=by
   unfold dY
   (try simp only[a,c,d,i,bs,if_true,if_false,decide_true,decide_false,Bool.not_eq_true,reduceIte])
   all_goals rfl
 rw[hs]
 exact bf (ud q J e)
 have i:(kC (((b.getD 0 0)-128)%256))=true:=by simpa using d
 refine aX<|sq<|sg<|Pl 3<|nt<|cb ((decide (((b.length:Nat) : Int)<2))) (fun h=>?_) (fun h=>?_)
 have K:=of_decide_eq_true h
 refine sg<|Pl 1<|?_
 refine L0<|aT (ub g f) mZ fun a9 L M=>Pl 1<|nt<|rt<|tr<|bu L (.int .i64 2)<|?_
 have hs:dY b=(aU.zero,2):=by
   unfold dY
   (try simp only[a,c,d,i,h,bs,if_true,if_false,decide_true,decide_false,Bool.not_eq_true,reduceIte])
   all_goals rfl
 rw[hs]
 exact bf (ud q M e)
 have K:=of_decide_eq_false h
 refine aX<|sg<|Pl 1<|?_
 have t:=aQ.old s g
 refine f3 (aQ.at_ t 1 (by omega)) fun N O P Q aa=>L0<|fR b.length 1 P (by omega)<|L0<|cY (p:=⟨N,O+1,none⟩) (v:=.int .u8 (b.getD 1 0)) Q<|L0<|Oc<|m1 (pD (x:=(b.getD 1 0)) (by omega)) fun ab k=>Pl 1<|nt<|sq<|sg<|Pl 2<|nt<|?_
 have r:=aE q k
 refine cb ((!(d6 (b.getD 1 0)))) (fun j=>?_) (fun j=>?_)
 have o:(d6 (b.getD 1 0))=false:=by simpa using j
 refine sg<|Pl 1<|?_
 refine L0<|aT (ub (aE g k) f) mZ fun ac R S=>Pl 1<|nt<|rt<|tr<|bu R (.int .i64 6)<|?_
 have hs:dY b=(aU.zero,6):=by
   unfold dY
   (try simp only[a,c,d,i,h,j,o,bs,if_true,if_false,decide_true,decide_false,Bool.not_eq_true,reduceIte])
   all_goals rfl
 rw[hs]
 exact bf (ud r S e)
 have o:(d6 (b.getD 1 0))=true:=by simpa using j
 refine aX<|sq<|sg<|Pl 3<|nt<|cb ((decide (2<((b.length:Nat) : Int)))) (fun l=>?_) (fun l=>?_)
 have T:=of_decide_eq_true l
 refine sg<|Pl 1<|?_
 refine L0<|aT (ub (aE g k) f) mZ fun ad U V=>Pl 1<|nt<|rt<|tr<|bu U (.int .i64 3)<|?_
 have hs:dY b=(aU.zero,3):=by
   unfold dY
   (try simp only[a,c,d,i,h,j,o,l,bs,if_true,if_false,decide_true,decide_false,Bool.not_eq_true,reduceIte])
   all_goals rfl
 rw[hs]
 exact bf (ud r V e)
 have T:=of_decide_eq_false l
 refine aX<|sg<|Pl 3<|?_
 refine f3 (aQ.at_ (aQ.old t k) 1 (by omega)) fun W X Y Z ae=>L0<|fR b.length 1 Y (by omega)<|L0<|cY (p:=⟨W,X+1,none⟩) (v:=.int .u8 (b.getD 1 0)) Z<|Pl 1<|?_
 refine L0<|aT (ub (aE g k) f) (mG (((b.getD 0 0)-128)%256) (b.getD 1 0) 0 0 0 0 0 0 0 0 0 0 nS nS nS nS 0 0 0 0 0 nS) fun af a0 a1=>Pl 1<|nt<|rt<|bu a0 (.int .i64 0)<|?_
 have hs:dY b=((aU.mk (((b.getD 0 0)-128)%256) (b.getD 1 0) 0 0 0 0 0 0 0 0 0 0 [] [] [] [] 0 0 0 0 0 []),0):=by
   unfold dY
   (try simp only[a,c,d,i,h,j,o,l,bs,if_true,if_false,decide_true,decide_false,Bool.not_eq_true,reduceIte])
   all_goals rfl
 rw[hs]
 exact⟨_,rfl,⟨_,_,_,_,_,rfl,aB.nil ..,aB.nil ..,(fun _ _ _=>aB.nil ..),aB.nil ..,aB.nil ..,(bL (by omega))⟩,(ud r a1 e)⟩
theorem nf{m:Md}{v:Value}{b:List Int}{w:World}(h:aQ m w v b)(hb:b.length≤1048576) : Calls Tryz.prog 92 #[v] w (cD v b (eh b) w):=by
  obtain⟨A,cp,rfl,_,_⟩:=h.shape
  rw[← q6]
  exact lT h hb
open Go.RowKit
theorem fh{x y:aU × Int}(h:x=y){w:World}{e:Ending}{w':World}{v0:Value}{b:List Int}(k:cD v0 b y w e w') : cD v0 b x w e w':=by rw[h];exact k
theorem ke{m:Md}{v:Value}{b:List Int}{w:World}{dir c:Int}(hc:B8 c)(h:aQ m w v b)(hb:b.length≤1048576) :
    Calls Tryz.prog 93 #[.int .i64 dir,.int .u8 c,v] w (cD v b (aj aC dir c b) w):=by
  obtain⟨A,cp,rfl,_,_⟩:=h.shape
  by_cases h0:dir=0
  · subst h0;exact j0 hc h hb
  by_cases h1:dir=1
  · subst h1;exact iH hc h hb
  exact j9 hc h hb (by omega)
theorem lu{m:Md}{v:Value}{b:List Int}{w:World}{dir c:Int}(hc:B8 c)(h:aQ m w v b)(hb:b.length≤1048576) :
    Calls Tryz.prog 94 #[.int .i64 dir,.int .u8 c,v] w (cD v b (aj aH dir c b) w):=by
  obtain⟨A,cp,rfl,_,_⟩:=h.shape
  by_cases h0:dir=0
  · subst h0;exact jq hc h hb
  by_cases h1:dir=1
  · subst h1;exact je hc h hb
  exact jr hc h hb (by omega)
theorem l8{m:Md}{v:Value}{b:List Int}{w:World}{dir c:Int}(hc:B8 c)(h:aQ m w v b)(hb:b.length≤1048576) :
    Calls Tryz.prog 95 #[.int .i64 dir,.int .u8 c,v] w (cD v b (aj aW dir c b) w):=by
  obtain⟨A,cp,rfl,_,_⟩:=h.shape
  rw[← kx]
  by_cases h0:dir=0
  · subst h0;exact js hc h hb
  by_cases h1:dir=1
  · subst h1;exact ji hc h hb
  exact jv hc h hb (by omega)
theorem la{m:Md}{A:Option Addr}{cp:Nat}{b:List Int}{w:World}{dir:Int}(hsl:aQ m w (.slice A b.length cp) b)(hb:b.length≤1048576) :
    Calls Tryz.prog 25 #[.int .i64 dir,.slice A b.length cp] w (cD (.slice A b.length cp) b (da dir b) w):=by
 have hln:(b.length:Int)≤1048576:=by omega
 refine en 87 Tryz.func25 rfl<|sg<|L0<|bD mZ fun bN bO u d i=>Pl 1<|nt<|sq<|sg<|Pl 3<|cu 3 [11] 14 (((dir != 0)&&(dir != 1))) (fun K W=>?_) ?_
 refine bl 11 ((dir != 0)) (fun F=>?_) (fun F=>?_)
 have b2:=al F
 exact Pl 3<|ce W (dir != 1) (by rw[F];rfl)
 have b2:=ae F
 exact Pl 3<|ce W false (by rw[F];rfl)
 refine nt<|cb (((dir != 0)&&(dir != 1))) (fun f=>?_) (fun f=>?_)
 have X:=(aO f).1
 have Y:=(aO f).2
 have bP:=al X
 have bQ:=al Y
 refine sg<|Pl 1<|L0<|aT d mZ fun bR b3 b4=>Pl 1<|nt<|rt<|tr<|bu b3 (.int .i64 1)<|?_
 have hs:eW dir b=(aU.zero,1):=by
   unfold eW
   (try simp only[f,X,Y,bs,if_true,if_false,decide_true,decide_false,eb,reduceIte])
   all_goals rfl
 rw[← ep]
 refine fh hs ?_
 exact bf (ud i b4 u)
 refine aX<|sq<|sg<|Pl 3<|nt<|cb ((((b.length:Nat) : Int)==0)) (fun g=>?_) (fun g=>?_)
 have b5:=ap g
 refine sg<|Pl 1<|L0<|aT d mZ fun bS b6 b7=>Pl 1<|nt<|rt<|tr<|bu b6 (.int .i64 2)<|?_
 have hs:eW dir b=(aU.zero,2):=by
   unfold eW
   (try simp only[f,g,bs,if_true,if_false,decide_true,decide_false,eb,reduceIte])
   all_goals rfl
 rw[← ep]
 refine fh hs ?_
 exact bf (ud i b7 u)
 have b5:=aq g
 refine aX<|sq<|sg<|Pl 3<|nt<|cb ((decide (253<((b.length:Nat) : Int)))) (fun j=>?_) (fun j=>?_)
 have b9:=of_decide_eq_true j
 refine sg<|Pl 1<|L0<|aT d mZ fun bT ba bb=>Pl 1<|nt<|rt<|tr<|bu ba (.int .i64 3)<|?_
 have hs:eW dir b=(aU.zero,3):=by
   unfold eW
   (try simp only[f,g,j,bs,if_true,if_false,decide_true,decide_false,eb,reduceIte])
   all_goals rfl
 rw[← ep]
 refine fh hs ?_
 exact bf (ud i bb u)
 have b9:=of_decide_eq_false j
 refine aX<|sg<|Pl 1<|?_
 have G:=aQ.old hsl i
 refine f3 (aQ.at_ G 0 (by omega)) fun bc bd be bg bU=>L0<|fR b.length 0 be (by omega)<|L0<|cY (p:=⟨bc,bd+0,none⟩) (v:=.int .u8 (b.getD 0 0)) bg<|Pl 1<|nt<|sq<|sg<|Pl 3<|cu 3 [29] 32 (((decide (128≤(b.getD 0 0)))&&(dir==1))) (fun K Z=>?_) ?_
 refine bl 29 ((decide (128≤(b.getD 0 0)))) (fun H=>?_) (fun H=>?_)
 have bh:=of_decide_eq_true H
 exact Pl 3<|ce Z (dir==1) (by rw[H];rfl)
 have bh:=of_decide_eq_false H
 exact Pl 3<|ce Z false (by rw[H];rfl)
 refine nt<|cb (((decide (128≤(b.getD 0 0)))&&(dir==1))) (fun x=>?_) (fun x=>?_)
 have a0:=(aO x).1
 have a1:=(aO x).2
 have bW:=of_decide_eq_true a0
 have bX:=ap a1
 refine sg<|Pl 1<|L0<|Oc<|e2 (nf G (by omega)) fun bi bY I S=>?_
 refine Pl 2<|?_
 have a2:=ub S d
 refine L0<|aT (hz:=(by rw[I.size];exact aN)) (hv:=I.size) (h1:=(cy.one I (aQ.old G S))) a2 (bi) fun bZ bj a3=>Pl 1<|nt<|rt<|tr<|dG 22 I.size bj (.int .i64 (((eh b)).2))<|?_
 have hs:eW dir b=(eh b):=by
   unfold eW
   (try simp only[f,g,j,x,a0,a1,bs,if_true,if_false,decide_true,decide_false,eb,reduceIte])
   all_goals rfl
 rw[← ep]
 refine fh hs ?_
 exact⟨_,rfl,(cy.upd I a3 (ah (aG a2 (by decide)) aA)),(ud i (uz S a3) u)⟩
 refine aX<|sg<|Pl 3<|jn (d9 (P:=Tryz.prog) 22 5 1 Tryz.underlying22 rfl rfl A b.length cp 1 (by omega)) fun bk hrun54 a4=>L0<|i7 (.slice bk (b.length-1) (cp-1)) (dl (kl:=.i64) (k:=((1:Nat) : Int)) (A:=A) (n:=b.length) (c:=cp) rfl Tryz.underlying22 (by kernel_rfl) (by kernel_rfl) (hrun54 _ _))<|L0<|Oc<|e2 (ke (dir:=dir) (c:=(b.getD 0 0)) (b8 (by omega)) (a4 _ _ _ _ _ G) (by(try simp only[List.length_drop]);omega)) fun a5 c0 bm e=>?_
 have L:=aQ.old G e
 have l:=cy.sub bm (fun m' w' q=>(a4 _ _ _ _ _ q))
 refine Pl 3<|L0<|bD mZ fun c1 c2 a bn bo=>L0<|aT (hz:=(by rw[l.size];exact aN)) (hv:=l.size) (h1:=(cy.one l hsl)) bn (a5) fun c3 a6 bp=>Pl 1<|nt<|sq<|sg<|Pl 2<|nt<|?_
 have M:=ud bo bp a
 have o:=aE e M
 have a7:=aE i o
 refine cb (((((aj aC dir (b.getD 0 0) (b.drop 1))).2)==4)) (fun h=>?_) (fun h=>?_)
 have bq:=ap h
 refine go<|Pl 3<|jn (d9 (P:=Tryz.prog) 22 5 1 Tryz.underlying22 rfl rfl A b.length cp 1 (by omega)) fun br hrun75 a8=>L0<|i7 (.slice br (b.length-1) (cp-1)) (dl (kl:=.i64) (k:=((1:Nat) : Int)) (A:=A) (n:=b.length) (c:=cp) rfl Tryz.underlying22 (by kernel_rfl) (by kernel_rfl) (hrun75 _ _))<|?_
 have a9:=aQ.old L M
 refine L0<|Oc<|e2 (lu (dir:=dir) (c:=(b.getD 0 0)) (b8 (by omega)) (a8 _ _ _ _ _ a9) (by(try simp only[List.length_drop]);omega)) fun aa c4 bt N=>?_
 have c5:=aQ.old a9 N
 have r:=cy.sub bt (fun m' w' q=>(a8 _ _ _ _ _ q))
 refine Pl 3<|?_
 have ab:=ub N a6
 refine L0<|aT (hz:=(by rw[r.size];exact aN)) (hv:=(Eq.trans r.size (Eq.symm l.size))) (h1:=(cy.one r hsl)) ab (aa) fun c6 ad T=>Pl 1<|nt<|sq<|sg<|Pl 2<|nt<|?_
 have D:=uz N T
 have af:=ud a7 D (le (le i.size e.size) a)
 refine cb (((((aj aH dir (b.getD 0 0) (b.drop 1))).2)==4)) (fun y=>?_) (fun y=>?_)
 have bv:=ap y
 refine go<|Pl 3<|jn (d9 (P:=Tryz.prog) 22 5 1 Tryz.underlying22 rfl rfl A b.length cp 1 (by omega)) fun bw hrun92 ag=>L0<|i7 (.slice bw (b.length-1) (cp-1)) (dl (kl:=.i64) (k:=((1:Nat) : Int)) (A:=A) (n:=b.length) (c:=cp) rfl Tryz.underlying22 (by kernel_rfl) (by kernel_rfl) (hrun92 _ _))<|?_
 have ai:=ud M D a
 have ak:=aQ.old L ai
 refine L0<|Oc<|e2 (l8 (dir:=dir) (c:=(b.getD 0 0)) (b8 (by omega)) (ag _ _ _ _ _ ak) (by(try simp only[List.length_drop]);omega)) fun am c7 bx O=>?_
 have c8:=aQ.old ak O
 have s:=cy.sub bx (fun m' w' q=>(ag _ _ _ _ _ q))
 refine Pl 3<|?_
 have an:=ub O ad
 refine L0<|aT (hz:=(by rw[s.size];exact aN)) (hv:=(Eq.trans s.size (Eq.symm r.size))) (h1:=(cy.one s hsl)) an (am) fun c9 ao U=>Pl 1<|nt<|sq<|sg<|Pl 2<|nt<|?_
 have E:=uz O U
 have ar:=ud af E (le (le i.size e.size) a)
 refine cb (((((aj aW dir (b.getD 0 0) (b.drop 1))).2)==4)) (fun B=>?_) (fun B=>?_)
 have bz:=ap B
 refine go<|Pl 3<|jn (d9 (P:=Tryz.prog) 22 5 1 Tryz.underlying22 rfl rfl A b.length cp 1 (by omega)) fun bA hrun110 au=>L0<|i7 (.slice bA (b.length-1) (cp-1)) (dl (kl:=.i64) (k:=((1:Nat) : Int)) (A:=A) (n:=b.length) (c:=cp) rfl Tryz.underlying22 (by kernel_rfl) (by kernel_rfl) (hrun110 _ _))<|?_
 have V:=u1 D E im
 have aw:=ud ai E a
 have ax:=aQ.old L aw
 refine L0<|Oc<|e2 (kB (dir:=dir) (c:=(b.getD 0 0)) (b8 (by omega)) (au _ _ _ _ _ ax) (by(try simp only[List.length_drop]);omega)) fun ay ca bB Q=>?_
 have cc:=aQ.old ax Q
 have t:=cy.sub bB (fun m' w' q=>(au _ _ _ _ _ q))
 refine Pl 3<|?_
 have az:=ub Q ao
 refine L0<|aT (hz:=(by rw[t.size];exact aN)) (hv:=(Eq.trans t.size (Eq.symm s.size))) (h1:=(cy.one t hsl)) az (ay) fun cd aB aD=>Pl 1<|nt<|sq<|sg<|Pl 2<|nt<|?_
 have C:=uz Q aD
 have aF:=ud ar C (le (le i.size e.size) a)
 refine cb (((((aj aY dir (b.getD 0 0) (b.drop 1))).2)==4)) (fun J=>?_) (fun J=>?_)
 have bC:=ap J
 refine go<|Pl 3<|jn (d9 (P:=Tryz.prog) 22 5 1 Tryz.underlying22 rfl rfl A b.length cp 1 (by omega)) fun bE hrun130 aI=>L0<|i7 (.slice bE (b.length-1) (cp-1)) (dl (kl:=.i64) (k:=((1:Nat) : Int)) (A:=A) (n:=b.length) (c:=cp) rfl Tryz.underlying22 (by kernel_rfl) (by kernel_rfl) (hrun130 _ _))<|?_
 have cg:=u1 U C im
 have ch:=u1 E C im
 have ci:=u1 (u1 T E im) C im
 have aJ:=u1 V C im
 have aK:=aQ.old L (ud aw C a)
 refine L0<|Oc<|e2 (nh (dir:=dir) (c:=(b.getD 0 0)) (b8 (by omega)) (aI _ _ _ _ _ aK) (by(try simp only[List.length_drop]);omega)) fun aL cj bF R=>?_
 have ck:=aQ.old aK R
 have z:=cy.sub bF (fun m' w' q=>(aI _ _ _ _ _ q))
 refine Pl 3<|?_
 have aM:=ub R aB
 refine L0<|aT (hz:=(by rw[z.size];exact aN)) (hv:=(Eq.trans z.size (Eq.symm t.size))) (h1:=(cy.one z hsl)) aM (aL) fun cl bG aP=>Pl 1<|ng<|L0<|bV (hz:=(by rw[z.size];exact aN)) bG<|Pl 1<|?_
 have aR:=uz R aP
 refine L0<|aT (hz:=(by rw[z.size];exact aN)) (hv:=z.size) (h1:=(cy.one z hsl)) (ub (ud o (u1 aJ aR im) (le e.size a)) d) (aL) fun cm bH aS=>Pl 1<|nt<|rt<|dG 22 z.size bH (.int .i64 (((aj bJ dir (b.getD 0 0) (b.drop 1))).2))<|?_
 have hs:eW dir b=(aj bJ dir (b.getD 0 0) (b.drop 1)):=by
   unfold eW
   (try simp only[f,g,j,x,h,y,B,J,bs,if_true,if_false,decide_true,decide_false,eb,reduceIte])
   all_goals rfl
 rw[← ep]
 refine fh hs ?_
 exact⟨_,rfl,(cy.upd z (us aP aS) (ah (aG aM (by decide)) (ah (aG (ub (ud o (aE aJ R) (le e.size a)) d) (by decide)) aA))),(ut aF (us aR aS) (ac (ni (le i.size e.size) a) (ac (nr u) av)))⟩
 have bC:=aq J
 refine aX<|sg<|L0<|bV (hz:=(by rw[t.size];exact aN)) aB<|Pl 1<|?_
 refine L0<|aT (hz:=(by rw[t.size];exact aN)) (hv:=t.size) (h1:=(cy.one t hsl)) (ub (ud o (u1 V C im) (le e.size a)) d) (ay) fun cn bI aV=>Pl 1<|nt<|rt<|dG 22 t.size bI (.int .i64 (((aj aY dir (b.getD 0 0) (b.drop 1))).2))<|?_
 have hs:eW dir b=(aj aY dir (b.getD 0 0) (b.drop 1)):=by
   unfold eW
   (try simp only[f,g,j,x,h,y,B,J,bs,if_true,if_false,decide_true,decide_false,eb,reduceIte])
   all_goals rfl
 rw[← ep]
 refine fh hs ?_
 exact⟨_,rfl,(cy.upd t (us aD aV) (ah (aG az (by decide)) (ah (aG (ub (ud o (aE V Q) (le e.size a)) d) (by decide)) aA))),(ud aF aV u)⟩
 have bz:=aq B
 refine aX<|sq<|sg<|Pl 2<|nt<|cf B<|aX<|sg<|L0<|bV (hz:=(by rw[s.size];exact aN)) ao<|?_
 refine Pl 1<|?_
 refine L0<|aT (hz:=(by rw[s.size];exact aN)) (hv:=s.size) (h1:=(cy.one s hsl)) (ub (ud o (u1 D E im) (le e.size a)) d) (am) fun co bK aZ=>Pl 1<|nt<|rt<|dG 22 s.size bK (.int .i64 (((aj aW dir (b.getD 0 0) (b.drop 1))).2))<|?_
 have hs:eW dir b=(aj aW dir (b.getD 0 0) (b.drop 1)):=by
   unfold eW
   (try simp only[f,g,j,x,h,y,B,bs,if_true,if_false,decide_true,decide_false,eb,reduceIte])
   all_goals rfl
 rw[← ep]
 refine fh hs ?_
 exact⟨_,rfl,(cy.upd s (us U aZ) (ah (aG an (by decide)) (ah (aG (ub (ud o (aE D O) (le e.size a)) d) (by decide)) aA))),(ud ar aZ u)⟩
 have bv:=aq y
 refine aX<|sq<|sg<|Pl 2<|nt<|cf y<|aX<|sq<|sg<|?_
 refine Pl 2<|nt<|cf y<|aX<|sg<|L0<|bV (hz:=(by rw[r.size];exact aN)) ad<|Pl 1<|?_
 refine L0<|aT (hz:=(by rw[r.size];exact aN)) (hv:=r.size) (h1:=(cy.one r hsl)) (ub (ud o D (le e.size a)) d) (aa) fun cq bL b0=>Pl 1<|nt<|rt<|dG 22 r.size bL (.int .i64 (((aj aH dir (b.getD 0 0) (b.drop 1))).2))<|?_
 have hs:eW dir b=(aj aH dir (b.getD 0 0) (b.drop 1)):=by
   unfold eW
   (try simp only[f,g,j,x,h,y,bs,if_true,if_false,decide_true,decide_false,eb,reduceIte])
   all_goals rfl
 rw[← ep]
 refine fh hs ?_
 exact⟨_,rfl,(cy.upd r (us T b0) (ah (aG ab (by decide)) (ah (aG (ub (aE o N) d) (by decide)) aA))),(ud af b0 u)⟩
 have bq:=aq h
 refine aX<|sq<|sg<|Pl 2<|nt<|cf h<|aX<|sq<|sg<|?_
 refine Pl 2<|nt<|cf h<|aX<|sq<|sg<|Pl 2<|nt<|cf h<|sk<|?_
 refine tn<|sg<|L0<|bV (hz:=(by rw[l.size];exact aN)) a6<|Pl 1<|?_
 refine L0<|aT (hz:=(by rw[l.size];exact aN)) (hv:=l.size) (h1:=(cy.one l hsl)) (ub o d) (a5) fun cr bM b1=>Pl 1<|nt<|rt<|dG 22 l.size bM (.int .i64 (((aj aC dir (b.getD 0 0) (b.drop 1))).2))<|?_
 have hs:eW dir b=(aj aC dir (b.getD 0 0) (b.drop 1)):=by
   unfold eW
   (try simp only[f,g,j,x,h,bs,if_true,if_false,decide_true,decide_false,eb,reduceIte])
   all_goals rfl
 rw[← ep]
 refine fh hs ?_
 exact⟨_,rfl,(cy.upd l (uz M b1) (ah (aG (ub e d) (by decide)) aA)),(ud a7 b1 u)⟩
theorem mM{m:Md}{v:Value}{b:List Int}{w:World}{dir:Int}(h:aQ m w v b)(hb:b.length≤1048576) : Calls Tryz.prog 25 #[.int .i64 dir,v] w (cD v b (da dir b) w):=by
  obtain⟨A,cp,rfl,_,_⟩:=h.shape
  exact la h hb
open Go.RowKit
def kU (v0:Value)(b:List Int)(res:fo × Int)(w:World)(e:Ending)(w':World) : Prop:=∃ x,e = .returned (.tuple #[.agg (qv res.1.unit res.1.tid res.1.msg x),.int .i64 res.2])∧(cy v0 b w' (lH res.1.msg x).toList res.1.msg∧(0≤res.1.unit∧res.1.unit<256)∧(0≤res.1.tid∧res.1.tid<65536))∧az [] w w'
theorem gM{x y:fo × Int}(h:x=y){w:World}{e:Ending}{w':World}{v0:Value}{b:List Int}(k:kU v0 b y w e w') : kU v0 b x w e w':=by rw[h];exact k
def w5:SL:=⟨none,0,none,0,none,0,none,0,none,0⟩
theorem fB{v0:Value}{b:List Int}{x:Int}{w W:World}(hu:az [] w W) : kU v0 b (fo.zero,x) w (.returned (.tuple #[.agg ux,.int .i64 x])) W:=⟨w5,(by kernel_rfl),⟨cy.zero v0 b W,(show(0:Int)≤0∧(0:Int)<256 from by decide),(show(0:Int)≤0∧(0:Int)<65536 from by decide)⟩,hu⟩
theorem kg{m:Md}{v:Value}{b:List Int}{w:World}{dir:Int}{M:aU}{E:Int}(hX:da dir b=(M,E))(h:aQ m w v b)(hb:b.length≤1048576) : Calls Tryz.prog 25 #[.int .i64 dir,v] w (fun e w'=>∃ x,e = .returned (.tuple #[.agg (lH M x),.int .i64 E])∧cy v b w' (lH M x).toList M∧az [] w w'):=by
  refine(mM h hb).mono ?_
  rintro e w' ⟨cs,rfl,h1,h2⟩
  rw[hX] at h1 ⊢
  obtain⟨x,rfl⟩:=pI (h1.rd (aQ.old h h2))
  exact⟨x,rfl,h1,h2⟩
end Go.Proofs.YtogbnemojakcpaaGreat
namespace Go.Proofs.YtogbnemojakcpaaGreat
theorem np(a b k:Nat) : (a ^^^ b)/2 ^ k=(a/2 ^ k) ^^^ (b/2 ^ k):=by
  rw[← Nat.shiftRight_eq_div_pow,Nat.shiftRight_xor_distrib,Nat.shiftRight_eq_div_pow,Nat.shiftRight_eq_div_pow]
theorem qp(x z:Nat) : gq (x ^^^ 2*z)=gq x ^^^ z:=by
  unfold gq
  have h1:(x ^^^ 2*z)/2=(x/2) ^^^ z:=by
    have:=np x (2*z) 1
    rw[show(2:Nat) ^ 1=2 from rfl] at this
    rw[this,show 2*z/2=z from by omega]
  have h2:(x ^^^ 2*z)%2=x%2:=by
    have:=Nat.xor_mod_two_pow (a:=x) (b:=2*z) (n:=1)
    rw[show(2:Nat) ^ 1=2 from rfl] at this
    rw[this,show 2*z%2=0 from by omega,Nat.xor_zero]
  rw[h1,h2,Nat.xor_assoc,Nat.xor_comm z,← Nat.xor_assoc]
theorem kY(x:Nat) : ∀ (k h:Nat),ec k (x ^^^ 2 ^ k*h)=ec k x ^^^ h
  | 0,h=>by show x ^^^ 2 ^ 0*h=x ^^^ h;rw[Nat.pow_zero,Nat.one_mul]
  | k+1,h=>by
    show gq (ec k (x ^^^ 2 ^ (k+1)*h))=gq (ec k x) ^^^ h
    rw[Nat.pow_succ,Nat.mul_assoc,kY x k (2*h),qp]
theorem qD(s:Nat) : (s%256) ^^^ (2 ^ 8*(s/256))=s:=by
  have h1:=Nat.xor_mod_two_pow (a:=s%256) (b:=2 ^ 8*(s/256)) (n:=8)
  have h2:=np (s%256) (2 ^ 8*(s/256)) 8
  rw[show(2:Nat) ^ 8=256 from rfl] at *
  rw[show 256*(s/256)%256=0 from by omega,Nat.xor_zero] at h1
  rw[show s%256/256=0 from by omega,Nat.zero_xor] at h2
  omega
theorem mB(s c:Nat) : ec 8 (s ^^^ c)=nD s c:=by
  have h:=kY ((s%256) ^^^ c) 8 (s/256)
  rw[Nat.xor_assoc,Nat.xor_comm c,← Nat.xor_assoc,qD] at h
  rw[h,Nat.xor_comm]
  rfl
theorem lg{n:Nat}(hn:n<65536) : (if n%2=1 then (n/2) ^^^ 40961 else n/2)=gq n:=by
  unfold gq
  split
  · rename_i h;rw[h]
  · rename_i h;rw[show n%2=0 from by omega,Nat.zero_mul,Nat.xor_zero]
open Go.RowKit
theorem qh{c:Int}{n:Nat}(h:c=(n:Int))(hn:n<65536)(q:(c%2==1)=true) : xi (c/2) 40961=((gq n:Nat) : Int):=by
  have q2:c%2=1:=by simpa using q
  rw[← lg hn,if_pos (by omega)]
  unfold xi
  rw[show(c/2).toNat=n/2 from by omega]
  rfl
theorem pz{c:Int}{n:Nat}(h:c=(n:Int))(hn:n<65536)(q:(c%2==1)=false) : c/2=((gq n:Nat) : Int):=by
  have q2:¬ c%2=1:=by simpa using q
  rw[← lg hn,if_neg (by omega)]
  omega
theorem oB{s:Int}{b:List Int}{i:Nat}(hs:0≤db s b i∧db s b i<65536)(hb:0≤b.getD i 0∧b.getD i 0<256){c:Int}(h:c=((ec 8 ((db s b i).toNat ^^^ (b.getD i 0).toNat) : Nat) : Int)) : c=db s b (i+1):=by
  rw[h,mB,← lE hs hb]
  rfl
theorem rv{a c:Int}(ha:0≤a∧a<65536)(hc:0≤c∧c<256) : a.toNat ^^^ c.toNat<65536:=iB (by omega) (by omega)
theorem oE{l:List Int}{i:Nat}(h:i<l.length) : l.getD i 0∈l:=by
  rw[List.getD_eq_getElem?_getD,List.getElem?_eq_getElem h]
  exact List.getElem_mem h
theorem t9{m:Md}{A:Option Addr}{cp:Nat}{b:List Int}{w:World}{s:Int}(hsl:aQ m w (.slice A b.length cp) b)(hs:0≤s∧s<65536) :
    Calls Tryz.prog 179 #[.int .u16 s,.slice A b.length cp] w (c8 (.int .u16 (cg s b)) w):=by
 have hln:=aB.len hsl
 have hb:=aQ.range hsl
 refine en 34 Tryz.func179 rfl<|sg<|Pl 1<|nt<|sq<|sg<|Pl 1<|nt<|bk<|?_
 refine gI (fun x=>[(0,.int .u16 x.2),(1,.slice A b.length cp),(4,.int .u16 0),(5,.int .i64 ((x.1:Nat) : Int))]) (fun(x:Nat × Int) w'=>az [] w w'∧(x.1≤b.length)∧(x.2=db s b x.1)∧(0≤x.2∧x.2<65536)) (fun x=>b.length-x.1) (0,s) ⟨az.refl _ _,(by(try dsimp only);omega),rfl,hs⟩ ?_
 rintro⟨i,c⟩ r ⟨f,t,u,y⟩
 refine gJ [(0,.int .u16 c),(1,.slice A b.length cp),(4,.int .u16 0),(5,.int .i64 ((i:Nat) : Int))] ?_
 have H:i≤b.length:=t
 have q:c=db s b i:=u
 have I:0≤c∧c<65536:=y
 have hcr:0≤db s b i∧db s b i<65536:=gG hs hb _
 refine sq<|sg<|Pl 4<|nt<|cb ((decide (((i:Nat) : Int)<((b.length:Nat) : Int)))) (fun g=>?_) (fun g=>?_)
 have z:=of_decide_eq_true g
 refine aX<|sq<|bk<|sg<|Pl 3<|?_
 refine f3 (aQ.at_ (aQ.old hsl f) i (by omega)) fun h j B C J=>L0<|fR b.length i B (by omega)<|L0<|cY (p:=⟨h,j+i,none⟩) (v:=.int .u8 (b.getD i 0)) C<|L0<|td (b.getD i 0)<|?_
 have K:=ug (a:=c) (b:=(b.getD i 0)) (by omega) (by omega)
 refine L0<|Oe (.int .u16 (bits .xor .u16 c (b.getD i 0))) (.int .u16 (xi c (b.getD i 0))) (congrArg (Value.int .u16) (kz (by omega) (by omega)))<|Pl 1<|ng<|Pl 1<|nt<|bk<|?_
 have hbr:0≤b.getD i 0∧b.getD i 0<256:=hb _ (oE (by omega))
 have hxl:=rv hcr hbr
 refine gI (fun x=>[(0,.int .u16 x.2),(1,.slice A b.length cp),(4,.int .u16 0),(5,.int .i64 ((i:Nat) : Int)),(6,.int .i64 ((x.1:Nat) : Int)),(8,.int .i64 ((i:Nat) : Int)),(9,.slice A b.length cp),(10,.int .i64 ((b.length:Nat) : Int)),(11,.bool (decide (((i:Nat) : Int)<((b.length:Nat) : Int)))),(14,.int .u16 c),(15,.slice A b.length cp),(16,.int .i64 ((i:Nat) : Int)),(17,.pointer (some (⟨h,j+i,none⟩))),(18,.int .u8 (b.getD i 0)),(19,.int .u16 (b.getD i 0)),(20,.int .u16 (xi c (b.getD i 0)))]) (fun(x:Nat × Int) w'=>az [] r w'∧(x.1≤8)∧(x.2=((ec x.1 ((db s b i).toNat ^^^ (b.getD i 0).toNat) : Nat) : Int))) (fun x=>8-x.1) (0,(xi c (b.getD i 0))) ⟨az.refl _ _,(by(try dsimp only);omega),(by(try dsimp only);rw[q];rfl)⟩ ?_
 rintro⟨k,d⟩ L ⟨l,D,E⟩
 refine gJ [(0,.int .u16 d),(1,.slice A b.length cp),(4,.int .u16 0),(5,.int .i64 ((i:Nat) : Int)),(6,.int .i64 ((k:Nat) : Int)),(8,.int .i64 ((i:Nat) : Int)),(9,.slice A b.length cp),(10,.int .i64 ((b.length:Nat) : Int)),(11,.bool (decide (((i:Nat) : Int)<((b.length:Nat) : Int)))),(14,.int .u16 c),(15,.slice A b.length cp),(16,.int .i64 ((i:Nat) : Int)),(17,.pointer (some (⟨h,j+i,none⟩))),(18,.int .u8 (b.getD i 0)),(19,.int .u16 (b.getD i 0)),(20,.int .u16 (xi c (b.getD i 0)))] ?_
 have M:k≤8:=D
 have n:d=((ec k ((db s b i).toNat ^^^ (b.getD i 0).toNat) : Nat) : Int):=E
 have hkl:=fK hxl k
 refine sq<|sg<|Pl 2<|nt<|?_
 refine cb ((decide (((k:Nat) : Int)<8))) (fun o=>?_) (fun o=>?_)
 have F:=of_decide_eq_true o
 refine aX<|sq<|bk<|sg<|Pl 1<|L0<|Oe (.int .u16 (Int.tmod d 2)) (.int .u16 (d%2)) (congrArg (Value.int .u16) (Int.tmod_eq_emod_of_nonneg (by omega)))<|Pl 2<|ng<|Pl 1<|L0<|Oe (.int .u16 (IntKind.u16.wrap (Int.tdiv d 2))) (.int .u16 (d/2)) (congrArg (Value.int .u16) (nz (by omega) (by omega)))<|?_
 refine Pl 1<|ng<|Pl 1<|nt<|cb (((d%2)==1)) (fun e=>?_) (fun e=>?_)
 have G:=ap e
 refine go<|Pl 1<|?_
 have N:=ug (a:=(d/2)) (b:=40961) (by omega) (by omega)
 exact L0<|Oe (.int .u16 (bits .xor .u16 (d/2) 40961)) (.int .u16 (xi (d/2) 40961)) (congrArg (Value.int .u16) (kz (by omega) (by omega)))<|Pl 1<|nl<|bn<|tn<|go<|Pl 1<|L0<|Oi (((k:Nat) : Int)+1)<|Pl 1<|nl<|ek ((k+1),(xi (d/2) 40961)) ⟨l,(by(try dsimp only);omega),(qh n (fK hxl k) e)⟩ (by omega)
 have G:=aq e
 exact sk<|bn<|tn<|go<|Pl 1<|L0<|Oi (((k:Nat) : Int)+1)<|Pl 1<|nl<|ek ((k+1),(d/2)) ⟨l,(by(try dsimp only);omega),(pz n (fK hxl k) e)⟩ (by omega)
 have F:=of_decide_eq_false o
 refine xt<|tx<|tx<|bx<|bn<|tn<|go<|Pl 1<|L0<|Oi (((i:Nat) : Int)+1)<|Pl 1<|nl<|?_
 have hc8:d=db s b (i+1):=oB hcr hbr (by rw[n,show k=8 from by omega])
 exact ek ((i+1),d) ⟨(aE f l),(by(try dsimp only);omega),hc8,(by(try dsimp only);rw[hc8];exact gG hs hb _)⟩ (by omega)
 have z:=of_decide_eq_false g
 refine xt<|tx<|tx<|bx<|tn<|sg<|Pl 2<|nt<|rt<|rr (.int .u16 c)<|?_
 have hk:c=cg s b:=by rw[q];exact lb (by omega)
 rw[← hk]
 exact⟨rfl,f⟩
theorem uj{m:Md}{v:Value}{b:List Int}{w:World}(h:aQ m w v b) : Calls Tryz.prog 179 #[.int .u16 65535,v] w (c8 (.int .u16 (cg 65535 b)) w):=by
  obtain⟨A,cp,rfl,_,_⟩:=h.shape
  exact t9 h (by decide)
theorem nW{b:List Int}(h:2≤b.length)(hb:∀ x,x∈b→0≤x∧x<256) : cX b=((b.getD (((b.length:Nat) : Int)-2).toNat 0==(cg 65535 (b.take (((b.length:Nat) : Int)-2).toNat)%256)%256)&&(b.getD (((b.length:Nat) : Int)-1).toNat 0==(cg 65535 (b.take (((b.length:Nat) : Int)-2).toNat)/256)%256)):=by
  unfold cX c7
  rw[decide_eq_true h,Bool.true_and,show(((b.length:Nat) : Int)-2).toNat=b.length-2 from by omega,show(((b.length:Nat) : Int)-1).toNat=b.length-2+1 from by omega]
  have e:b.drop (b.length-2)=[b.getD (b.length-2) 0,b.getD (b.length-2+1) 0]:=by
    apply List.ext_getElem
    · simp;omega
    · intro i h1 h2
      simp only[List.length_cons,List.length_nil] at h2
      rw[List.getElem_drop]
      rcases i with _|_|i
      · simp[List.getD_eq_getElem?_getD,List.getElem?_eq_getElem (show b.length-2<b.length by omega)]
      · simp[List.getD_eq_getElem?_getD,List.getElem?_eq_getElem (show b.length-2+1<b.length by omega)]
      · omega
  rw[e,Bool.eq_iff_iff]
  simp only[decide_eq_true_eq,List.cons.injEq,and_true,Bool.and_eq_true,beq_iff_eq]
  constructor
  · rintro⟨h1,h2⟩
    exact⟨by rw[← h1];omega,by rw[← h2]⟩
  · rintro⟨h1,h2⟩
    exact⟨by rw[h1];omega,by rw[h2]⟩
theorem uQ{m:Md}{A:Option Addr}{cp:Nat}{b:List Int}{w:World}(hsl:aQ m w (.slice A b.length cp) b)(hl:b.length≤1048576)(hcp:b.length≤cp) :
    Calls Tryz.prog 117 #[.slice A b.length cp] w (c8 (.bool (cX b)) w):=by
 have hln:=aB.len hsl
 have hb:=aQ.range hsl
 refine en 34 Tryz.func117 rfl<|sg<|Pl 1<|ng<|Pl 3<|nt<|sq<|sg<|?_
 refine Pl 2<|nt<|cb ((decide (((b.length:Nat) : Int)<2))) (fun a=>?_) (fun a=>?_)
 have i:=of_decide_eq_true a
 refine sg<|Pl 1<|nt<|rt<|tr<|rr (.bool false)<|?_
 have hs:cX b=false:=by unfold cX;rw[decide_eq_false (by omega)];rfl
 rw[hs]
 exact⟨rfl,(az.refl [] _)⟩
 have i:=of_decide_eq_false a
 refine aX<|sg<|Pl 2<|L0<|Oi (((b.length:Nat) : Int)-2)<|jn (nV (P:=Tryz.prog) 22 5 1 Tryz.underlying22 rfl rfl A b.length cp (k:=(((b.length:Nat) : Int)-2)) (((((b.length:Nat) : Int)-2)).toNat) (by omega) (by omega) (by omega)) fun f hrun12 g=>L0<|i7 (.slice f (((((b.length:Nat) : Int)-2)).toNat) cp) (gC (kl:=.i64) (k:=(((b.length:Nat) : Int)-2)) (A:=A) (n:=b.length) (c:=cp) rfl Tryz.underlying22 (by kernel_rfl) (by kernel_rfl) (hrun12 _ _))<|L0<|Oc (args:=#[.int .u16 65535,.slice f (((((b.length:Nat) : Int)-2)).toNat) cp])<|m1 (uj (g _ _ _ _ _ hsl)) fun z e=>?_
 have B:=gB (b.take (((((b.length:Nat) : Int)-2)).toNat)) (s:=65535) (by decide) (aQ.range (g _ _ _ _ _ hsl))
 refine Pl 1<|ng<|Pl 2<|L0<|Oi (((b.length:Nat) : Int)-2)<|?_
 have h:=aQ.old hsl e
 refine f3 (aQ.at_ h (((((b.length:Nat) : Int)-2)).toNat) (by omega)) fun j l o q C=>L0<|rC b.length (((((b.length:Nat) : Int)-2)).toNat) (((b.length:Nat) : Int)-2) (by omega) o (by omega)<|L0<|cY (p:=⟨j,l+(((((b.length:Nat) : Int)-2)).toNat),none⟩) (v:=.int .u8 (b.getD (((((b.length:Nat) : Int)-2)).toNat) 0)) q<|Pl 1<|L0<|Oe (.int .u16 (Int.tmod (cg 65535 (b.take (((((b.length:Nat) : Int)-2)).toNat))) 256)) (.int .u16 ((cg 65535 (b.take (((((b.length:Nat) : Int)-2)).toNat)))%256)) (congrArg (Value.int .u16) (Int.tmod_eq_emod_of_nonneg (by omega)))<|Pl 3<|bl 23 (((b.getD (((((b.length:Nat) : Int)-2)).toNat) 0)==(((cg 65535 (b.take (((((b.length:Nat) : Int)-2)).toNat)))%256)%256))) (fun d=>?_) (fun d=>?_)
 have r:=ap d
 refine Pl 2<|L1<|Oi (((b.length:Nat) : Int)-1)<|f3 (aQ.at_ h (((((b.length:Nat) : Int)-1)).toNat) (by omega)) fun t u x y D=>L1<|rC b.length (((((b.length:Nat) : Int)-1)).toNat) (((b.length:Nat) : Int)-1) (by omega) x (by omega)<|L1<|cY (p:=⟨t,u+(((((b.length:Nat) : Int)-1)).toNat),none⟩) (v:=.int .u8 (b.getD (((((b.length:Nat) : Int)-1)).toNat) 0)) y<|Pl 1<|L1<|Oe (.int .u16 (IntKind.u16.wrap (Int.tdiv (cg 65535 (b.take (((((b.length:Nat) : Int)-2)).toNat))) 256))) (.int .u16 ((cg 65535 (b.take (((((b.length:Nat) : Int)-2)).toNat)))/256)) (congrArg (Value.int .u16) (nz (by omega) (by omega)))<|Pl 4<|nt<|rt<|rr (.bool ((b.getD (((((b.length:Nat) : Int)-1)).toNat) 0)==(((cg 65535 (b.take (((((b.length:Nat) : Int)-2)).toNat)))/256)%256)))<|?_
 have hs:cX b=((b.getD (((((b.length:Nat) : Int)-1)).toNat) 0)==(((cg 65535 (b.take (((((b.length:Nat) : Int)-2)).toNat)))/256)%256)):=by rw[nW (by omega) hb];(try simp only[a,d,bs,if_true,if_false,decide_true,decide_false]);all_goals rfl
 rw[hs]
 exact⟨rfl,e⟩
 have r:=aq d
 refine Pl 11<|nt<|rt<|rr (.bool false)<|?_
 have hs:cX b=false:=by rw[nW (by omega) hb];(try simp only[a,d,bs,if_true,if_false,decide_true,decide_false]);all_goals rfl
 rw[hs]
 exact⟨rfl,e⟩
theorem vY{m:Md}{v:Value}{b:List Int}{w:World}(h:aQ m w v b)(hb:b.length≤1048576) : Calls Tryz.prog 117 #[v] w (c8 (.bool (cX b)) w):=by
  obtain⟨A,cp,rfl,hc,_⟩:=h.shape
  exact uQ h hb hc
open Go.RowKit
theorem lW{m:Md}{A:Option Addr}{cp:Nat}{b:List Int}{w:World}{dir:Int}(hsl:aQ m w (.slice A b.length cp) b)(hb:b.length≤1048576)(hcp:b.length≤cp) :
    Calls Tryz.prog 51 #[.int .i64 dir,.slice A b.length cp] w (kU (.slice A b.length cp) b (d8 dir b) w):=by
 have hln:(b.length:Int)≤1048576:=by omega
 have hrb:=aQ.range hsl
 refine en 49 Tryz.func51 rfl<|sg<|L0<|bD #[.int .u8 0,.int .u16 0,.int .u8 0,.int .u8 0,.int .u16 0,.int .u16 0,.int .u16 0,.int .u16 0,.int .u16 0,.int .u16 0,.int .u16 0,.int .u16 0,.int .u16 0,.int .u16 0,.slice none 0 0,.slice none 0 0,.slice none 0 0,.slice none 0 0,.int .u8 0,.int .u8 0,.int .u8 0,.int .u8 0,.int .u8 0,.slice none 0 0] fun av ax j e o=>Pl 1<|ng<|Pl 3<|nt<|sq<|sq<|?_
 refine go<|Pl 3<|cu 3 [14] 17 (((dir != 0)&&(dir != 1))) (fun K C=>?_) ?_
 refine bl 14 ((dir != 0)) (fun p=>?_) (fun p=>?_)
 have V:=al p
 exact Pl 3<|ce C (dir != 1) (by rw[p];rfl)
 have V:=ae p
 exact Pl 3<|ce C false (by rw[p];rfl)
 refine nt<|cb (((dir != 0)&&(dir != 1))) (fun d=>?_) (fun d=>?_)
 have D:=(aO d).1
 have E:=(aO d).2
 have ay:=al D
 have az:=al E
 refine sg<|Pl 1<|L0<|aT e #[.int .u8 0,.int .u16 0,.int .u8 0,.int .u8 0,.int .u16 0,.int .u16 0,.int .u16 0,.int .u16 0,.int .u16 0,.int .u16 0,.int .u16 0,.int .u16 0,.int .u16 0,.int .u16 0,.slice none 0 0,.slice none 0 0,.slice none 0 0,.slice none 0 0,.int .u8 0,.int .u8 0,.int .u8 0,.int .u8 0,.int .u8 0,.slice none 0 0] fun aB W X=>Pl 1<|nt<|rt<|tr<|bu W (.int .i64 1)<|?_
 have hs:d8 dir b=(fo.zero,1):=by
   unfold d8
   (try simp only[d,D,E,bs,if_true,if_false,decide_true,decide_false,eS,reduceIte])
   all_goals rfl
 refine gM hs ?_
 exact fB (ud o X j)
 refine aX<|sq<|sg<|Pl 2<|nt<|cb ((decide (((b.length:Nat) : Int)<4))) (fun f=>?_) (fun f=>?_)
 have Y:=of_decide_eq_true f
 refine sg<|Pl 1<|L0<|aT e #[.int .u8 0,.int .u16 0,.int .u8 0,.int .u8 0,.int .u16 0,.int .u16 0,.int .u16 0,.int .u16 0,.int .u16 0,.int .u16 0,.int .u16 0,.int .u16 0,.int .u16 0,.int .u16 0,.slice none 0 0,.slice none 0 0,.slice none 0 0,.slice none 0 0,.int .u8 0,.int .u8 0,.int .u8 0,.int .u8 0,.int .u8 0,.slice none 0 0] fun aC Z a0=>Pl 1<|nt<|rt<|tr<|bu Z (.int .i64 2)<|?_
 have hs:d8 dir b=(fo.zero,2):=by
   unfold d8
   (try simp only[d,f,bs,if_true,if_false,decide_true,decide_false,eS,reduceIte])
   all_goals rfl
 refine gM hs ?_
 exact fB (ud o a0 j)
 have Y:=of_decide_eq_false f
 refine aX<|sq<|sg<|Pl 2<|nt<|cb ((decide (256<((b.length:Nat) : Int)))) (fun h=>?_) (fun h=>?_)
 have a1:=of_decide_eq_true h
 refine sg<|Pl 1<|L0<|aT e #[.int .u8 0,.int .u16 0,.int .u8 0,.int .u8 0,.int .u16 0,.int .u16 0,.int .u16 0,.int .u16 0,.int .u16 0,.int .u16 0,.int .u16 0,.int .u16 0,.int .u16 0,.int .u16 0,.slice none 0 0,.slice none 0 0,.slice none 0 0,.slice none 0 0,.int .u8 0,.int .u8 0,.int .u8 0,.int .u8 0,.int .u8 0,.slice none 0 0] fun aD a2 a3=>Pl 1<|nt<|rt<|tr<|bu a2 (.int .i64 3)<|?_
 have hs:d8 dir b=(fo.zero,3):=by
   unfold d8
   (try simp only[d,f,h,bs,if_true,if_false,decide_true,decide_false,eS,reduceIte])
   all_goals rfl
 refine gM hs ?_
 exact fB (ud o a3 j)
 have a1:=of_decide_eq_false h
 refine aX<|sg<|Pl 1<|?_
 have F:=aQ.old hsl o
 refine L0<|Oc (args:=#[.slice A b.length cp])<|m1 (vY F (by omega)) fun aF i=>Pl 1<|nt<|sq<|sg<|Pl 2<|nt<|?_
 have G:=aE o i
 refine cb ((!(cX b))) (fun k=>?_) (fun k=>?_)
 have t:(cX b)=false:=by simpa using k
 refine sg<|Pl 1<|?_
 refine L0<|aT (ub i e) #[.int .u8 0,.int .u16 0,.int .u8 0,.int .u8 0,.int .u16 0,.int .u16 0,.int .u16 0,.int .u16 0,.int .u16 0,.int .u16 0,.int .u16 0,.int .u16 0,.int .u16 0,.int .u16 0,.slice none 0 0,.slice none 0 0,.slice none 0 0,.slice none 0 0,.int .u8 0,.int .u8 0,.int .u8 0,.int .u8 0,.int .u8 0,.slice none 0 0] fun aH a4 a5=>Pl 1<|nt<|rt<|tr<|bu a4 (.int .i64 10)<|?_
 have hs:d8 dir b=(fo.zero,10):=by
   unfold d8
   (try simp only[d,f,h,k,t,bs,if_true,if_false,decide_true,decide_false,eS,reduceIte])
   all_goals rfl
 refine gM hs ?_
 exact fB (ud G a5 j)
 have t:(cX b)=true:=by simpa using k
 refine aX<|sg<|Pl 3<|L0<|Oi (((b.length:Nat) : Int)-2)<|jn (fE (P:=Tryz.prog) 22 5 1 Tryz.underlying22 rfl rfl A b.length cp (lo:=1) (up:=(((b.length:Nat) : Int)-2)) 1 (((((b.length:Nat) : Int)-2)).toNat) (by omega) (by omega) (by omega) (by omega) (by omega)) fun a6 hrun43 H=>L0<|i7 (.slice a6 ((((((b.length:Nat) : Int)-2)).toNat)-1) (cp-1)) (eu (kl:=.i64) (kh:=.i64) (lo:=1) (hi:=(((b.length:Nat) : Int)-2)) (A:=A) (n:=b.length) (c:=cp) rfl Tryz.underlying22 (by kernel_rfl) (by kernel_rfl) (by kernel_rfl) (hrun43 _ _ _))<|?_
 have I:=aQ.old F i
 refine pr (da dir ((b.take (((((b.length:Nat) : Int)-2)).toNat)).drop 1)) fun a r z=>?_
 refine L0<|Oc<|e2 (kg z (H _ _ _ _ _ I) (by rw[List.length_drop,List.length_take];omega)) fun x49 aI a7 B=>?_
 have a8:=cy.sub a7 (fun m' w' q=>(H _ _ _ _ _ q))
 refine Pl 3<|L0<|bD mZ fun J aJ L a9 aa=>L0<|aT a9 (lH a x49) fun aL ac af=>Pl 1<|nt<|sq<|sg<|Pl 2<|nt<|?_
 have M:=ud aa af L
 have u:=aE B M
 have N:=aE G u
 refine cb ((r != 0)) (fun s=>?_) (fun s=>?_)
 have ag:=al s
 refine sg<|Pl 2<|?_
 refine L0<|aT (ub (aE i u) e) #[.int .u8 0,.int .u16 0,.int .u8 0,.int .u8 0,.int .u16 0,.int .u16 0,.int .u16 0,.int .u16 0,.int .u16 0,.int .u16 0,.int .u16 0,.int .u16 0,.int .u16 0,.int .u16 0,.slice none 0 0,.slice none 0 0,.slice none 0 0,.slice none 0 0,.int .u8 0,.int .u8 0,.int .u8 0,.int .u8 0,.int .u8 0,.slice none 0 0] fun aM ai aj=>Pl 1<|nt<|rt<|tr<|bu ai (.int .i64 r)<|?_
 have hX2:da dir (f6 b)=(a,r):=(congrArg (da dir) (fb b)).trans z
 have hs:d8 dir b=(fo.zero,r):=by
   unfold d8
   (try simp only[d,f,h,k,t,s,bs,if_true,if_false,decide_true,decide_false,eS,hX2,reduceIte])
   all_goals rfl
 refine gM hs ?_
 exact fB (ud N aj j)
 have ag:=ae s
 refine aX<|sq<|?_
 refine f3 (aQ.at_ (aQ.old I u) 0 (by omega)) fun am an O ap aN=>Rg 8 (fun w'=>w'.cell? ⟨am,an+0,none⟩=some (.int .u8 (b.getD 0 0))∧w'.heap[J]? = some (.cells (lH a x49) 30 (0,0))) fun aP v=>?_
 have Q:=ub v ac
 refine bg ⟨(uc v ap),Q⟩ fun l=>Rt 0 l<|mb 1 l b.length 0 0 rfl O (by omega)<|Rl 2 l (fun _ hs=>hs.1)<|Rt 3 l<|Rr 4 l (.agg (lH a x49)) (fun w' hs=>o0 (g:=J) (off:=0) [.int .u8 a.code,.int .u8 a.fail,.int .u16 a.addr,.int .u16 a.count,.int .u16 a.value,.int .u16 a.and_,.int .u16 a.or_,.int .u16 a.addr2,.int .u16 a.sub,.int .u16 a.status,.int .u16 a.events,.int .u16 a.messages,.slice x49.aw a.words.length x49.kw,.slice x49.ab a.bits.length x49.kb,.slice x49.ad a.data.length x49.kd,.slice x49.ar a.recs.length x49.kr,.int .u8 a.mei,.int .u8 a.kind,.int .u8 a.level,.int .u8 a.more,.int .u8 a.next,.slice x49.ao a.objects.length x49.ko] rfl (by kernel_rfl) hs.2 (by kernel_rfl) (by kernel_rfl) rfl)<|Rt 5 l<|?_
 have R:=aE u v
 have S:=aE i R
 refine R0 6 rfl<|aT (ub S e) (qv (b.getD 0 0) 0 a x49) fun aR aq y=>?_
 have T:=uz v y
 have aS:=uz R y
 have aU:=uz S y
 have U:=ud N T j
 refine bg ⟨(cB (aQ.old hsl U) O 0 (by omega)),(aK y (Ne.symm (nb (ak e) (le i.size B.size) L)) Q)⟩ fun au=>Rt 7 au<|re<|tn<|rt<|bu aq (.int .i64 0)<|?_
 have hX2:da dir (f6 b)=(a,r):=(congrArg (da dir) (fb b)).trans z
 have hs:d8 dir b=(⟨(b.getD 0 0),0,a⟩,0):=by
   unfold d8
   (try simp only[d,f,h,k,t,s,bs,if_true,if_false,decide_true,decide_false,eS,hX2,reduceIte])
   all_goals rfl
 refine gM hs ?_
 exact⟨x49,rfl,⟨(cy.upd a8 (uz M T) (ah (aG (ub (aE i B) e) (by decide)) aA)),b8 (x:=(b.getD 0 0)) (by omega),dJ (x:=0) (by omega)⟩,U⟩
theorem mO{m:Md}{v:Value}{b:List Int}{w:World}{dir:Int}(h:aQ m w v b)(hb:b.length≤1048576) : Calls Tryz.prog 51 #[.int .i64 dir,v] w (kU v b (d8 dir b) w):=by
  obtain⟨A,cp,rfl,hc,_⟩:=h.shape
  exact lW h hb hc
theorem ki{m:Md}{v:Value}{b:List Int}{w:World}{dir:Int}{F:fo}{E:Int}(hX:d8 dir b=(F,E))(h:aQ m w v b)(hb:b.length≤1048576) : Calls Tryz.prog 51 #[.int .i64 dir,v] w (fun e w'=>∃ x,e = .returned (.tuple #[.agg (qv F.unit F.tid F.msg x),.int .i64 E])∧(cy v b w' (lH F.msg x).toList F.msg∧(0≤F.unit∧F.unit<256)∧(0≤F.tid∧F.tid<65536))∧az [] w w'):=by
  refine(mO h hb).mono ?_
  rintro e w' ⟨x,rfl,h1,h2⟩
  rw[hX] at h1 ⊢
  exact⟨x,rfl,h1,h2⟩
open Go.RowKit
def cl (dir:Int)(b:List Int)(ended:Bool) : List Ev:=if decide (256<(b.length:Int)) then [Ev.bad 3] else if ((b.length:Int)==0) || !ended then [] else [⟨(d8 dir b).2,(d8 dir b).1⟩]
def vG (L:List Ev)(w:World)(e:Ending)(w':World) : Prop:=∃ v,e = .returned v∧lA w.heap.size w' v L∧az [] w w'
theorem rl{A:Option Addr}{cp:Nat}{b:List Int}{w:World}{dir:Int}{ended:Bool}(hsl:aQ true w (.slice A b.length cp) b)(hb:b.length≤1048576) :
    Calls Tryz.prog 39 #[.int .i64 dir,.slice A b.length cp,.bool ended] w (vG (cl dir b ended) w):=by
 have hln:(b.length:Int)≤1048576:=by omega
 refine en 31 Tryz.func39 rfl<|sg<|Pl 1<|nt<|sq<|sg<|Pl 3<|nt<|cb ((decide (256<((b.length:Nat) : Int)))) (fun a=>?_) (fun a=>?_)
 have q:=of_decide_eq_true a
 refine sg<|Pl 1<|L0<|gA (m:=1) (e:=122) #[.int .i64 3,.int .u8 0,.int .u16 0,.int .u8 0,.int .u8 0,.int .u16 0,.int .u16 0,.int .u16 0,.int .u16 0,.int .u16 0,.int .u16 0,.int .u16 0,.int .u16 0,.int .u16 0,.int .u16 0,.slice none 0 0,.slice none 0 0,.slice none 0 0,.slice none 0 0,.int .u8 0,.int .u8 0,.int .u8 0,.int .u8 0,.int .u8 0,.slice none 0 0] fun r N s t u=>Pl 1<|nt<|rt<|tr<|rr (.slice (some ⟨r,0,none⟩) 1 1)<|?_
 have hs:cl dir b ended=[Ev.bad 3]:=by
   unfold cl
   (try simp only[a,bs,if_true,if_false,decide_true,decide_false,reduceIte])
   all_goals rfl
 rw[hs]
 have hE:=oM (w0:=w) (x:=Ev.bad 3) s t ⟨⟨none,0,none,0,none,0,none,0,none,0⟩,by kernel_rfl,mp,by decide,by decide⟩
 exact⟨_,rfl,hE,u⟩
 have q:=of_decide_eq_false a
 refine aX<|sq<|sg<|Pl 4<|cu 3 [17] 20 (((((b.length:Nat) : Int)==0)||(!ended))) (fun K i=>?_) ?_
 refine bl 17 ((((b.length:Nat) : Int)==0)) (fun d=>?_) (fun d=>?_)
 have v:=ap d
 exact Pl 3<|ce i true (by rw[d];rfl)
 have v:=aq d
 exact Pl 3<|ce i (!ended) (by rw[d];rfl)
 refine nt<|cb (((((b.length:Nat) : Int)==0)||(!ended))) (fun f=>?_) (fun f=>?_)
 refine sg<|Pl 1<|nt<|rt<|tr<|rr (.slice none 0 0)<|?_
 have hs:cl dir b ended=[]:=by
   unfold cl
   (try simp only[a,f,bs,if_true,if_false,decide_true,decide_false,reduceIte])
   all_goals rfl
 rw[hs]
 exact⟨_,rfl,b6.nil ..,(az.refl [] _)⟩
 have j:=(aD f).1
 have k:=(aD f).2
 have O:=aq j
 have y:ended=true:=by simpa using k
 refine aX<|sg<|Pl 2<|?_
 refine pr (d8 dir b) fun c g l=>?_
 refine L0<|Oc<|e2 (ki l hsl (by omega)) fun jf P z h=>?_
 obtain⟨B,C,D⟩:=z
 have E:=cy.rdt B (aQ.upd' hsl h aA)
 refine Pl 3<|L0<|bD #[.int .u8 0,.int .u16 0,.int .u8 0,.int .u8 0,.int .u16 0,.int .u16 0,.int .u16 0,.int .u16 0,.int .u16 0,.int .u16 0,.int .u16 0,.int .u16 0,.int .u16 0,.int .u16 0,.slice none 0 0,.slice none 0 0,.slice none 0 0,.slice none 0 0,.int .u8 0,.int .u8 0,.int .u8 0,.int .u8 0,.int .u8 0,.slice none 0 0] fun Q R F G n=>L0<|aT G (qv c.unit c.tid c.msg jf) fun S H o=>Pl 1<|ng<|Pl 1<|L0<|bV H<|Pl 1<|L0<|gA (m:=1) (e:=122) (oV ⟨g,c⟩ jf) fun I T J L M=>Pl 1<|nl<|?_
 refine tn<|rt<|rr (.slice (some ⟨I,0,none⟩) 1 1)<|?_
 have hs:cl dir b ended=[⟨g,c⟩]:=by
   unfold cl
   (try simp only[a,f,j,k,y,bs,if_true,if_false,decide_true,decide_false,l,reduceIte])
   all_goals rfl
 rw[hs]
 have p:=ud n (aE o M) F
 have hE:=oM (w0:=w) (x:=⟨g,c⟩) (Nat.le_trans (le (le h.size n.size) o.size) J) L ⟨jf,rfl,(bq.upd E p aA),C,D⟩
 exact⟨_,rfl,hE,(aE h p)⟩
theorem i6{v:Value}{b:List Int}{w:World}{dir:Int}{ended:Bool}(h:aQ true w v b)(hb:b.length≤1048576) : Calls Tryz.prog 39 #[.int .i64 dir,v,.bool ended] w (vG (cl dir b ended) w):=by
  obtain⟨A,cp,rfl,_,_⟩:=h.shape
  exact rl h hb
open Go.RowKit
theorem pg{w:World}{dir:Int}(e0:(dir != 0)=true)(e1:(dir != 1)=true) : Calls Tryz.prog 38 #[.int .i64 dir] w (c8 (.pointer none) w):=by
 refine en 12 Tryz.func38 rfl<|sg<|Pl 1<|nt<|sq<|sg<|Pl 3<|sy 5 e0<|Pl 3<|nt<|?_
 refine ct e1<|sg<|Pl 1<|nt<|rt<|tr<|rr (.pointer none)<|?_
 exact⟨rfl,(az.refl [] _)⟩
def du (d:Int)(b:List Int) : SS:=if b.length≤256 then ⟨d,b,false⟩ else ⟨d,[],true⟩
def e8 (b x:List Int) : List Ev:=if b.length≤256∧256<(b++x).length then [Ev.bad 3] else []
def bO (d:Int)(b:List Int) : List Ev:=if b.length≤256 then cl d b true else []
theorem k8(d:Int)(b:List Int) : (du d b).held.length=if b.length≤256 then b.length else 0:=by
  unfold du
  split<;>rfl
theorem kO(d:Int)(b x:List Int) : SS.feed (du d b) x=(du d (b++x),e8 b x):=by
  unfold du e8 SS.feed
  by_cases h:b.length≤256
  · rw[if_pos h]
    dsimp only
    rw[if_neg (by decide)]
    by_cases h2:(b++x).length≤256
    · have:=h2;rw[List.length_append] at this
      rw[if_pos (by rw[decide_eq_true_eq];omega),if_pos h2,if_neg (by omega)]
    · have:=h2;rw[List.length_append] at this
      rw[if_neg (by rw[decide_eq_true_eq];omega),if_neg h2,if_pos ⟨h,by omega⟩]
  · rw[if_neg h]
    dsimp only
    rw[if_pos rfl,if_neg (by rw[List.length_append];omega),if_neg (fun q=>h q.1)]
theorem ed(d:Int)(b:List Int) : SS.tick (du d b)=(du d [],bO d b):=by
  by_cases h:b.length≤256
  · have e1:du d b=⟨d,b,false⟩:=if_pos h
    have e2:bO d b=cl d b true:=if_pos h
    have e3:decide (256<(b.length:Int))=false:=decide_eq_false (by omega)
    rw[e1,e2]
    unfold SS.tick cl
    rw[e3]
    by_cases h2:b.length=0
    · have e4:((b.length:Int)==0)=true:=by rw[beq_iff_eq];omega
      rw[e4,if_pos h2]
      rfl
    · have e4:((b.length:Int)==0)=false:=by rw[beq_eq_false_iff_ne];omega
      rw[e4,if_neg h2]
      rfl
  · have e1:du d b=⟨d,[],true⟩:=if_neg h
    have e2:bO d b=[]:=if_neg h
    rw[e1,e2]
    rfl
theorem nH{b x:List Int}(h:((!(decide (256<((b.length:Nat) : Int))))&&(decide (256<(((b++x).length:Nat) : Int))))=false) : e8 b x=[]:=by
  unfold e8
  rw[if_neg]
  rintro⟨h1,h2⟩
  rw[decide_eq_false (by omega),decide_eq_true (by omega)] at h
  cases h
theorem nk{d:Int}{b x:List Int}(h:((!(decide (256<((b.length:Nat) : Int))))&&(decide (256<(((b++x).length:Nat) : Int))))=true) : e8 b x=cl d (b++x) false:=by
  simp only[Bool.and_eq_true,Bool.not_eq_true',decide_eq_false_iff_not,decide_eq_true_eq] at h
  unfold e8 cl
  rw[if_pos ⟨by omega,by omega⟩,if_pos (by rw[decide_eq_true_eq];exact h.2)]
theorem fL{d:Int}{b:List Int}(h:decide (((b.length:Nat) : Int)≤256)=true) : bO d b=cl d b true:=by
  unfold bO
  rw[if_pos (by have:=of_decide_eq_true h;omega)]
theorem fC{d:Int}{b:List Int}(h:decide (((b.length:Nat) : Int)≤256)=false) : bO d b=[]:=by
  unfold bO
  rw[if_neg (by have:=of_decide_eq_false h;omega)]
theorem gv{d:Int}{b:List Int}(h:decide (256<((b.length:Nat) : Int))=true) : (((du d b).held.length:Nat) : Int)=0:=by
  rw[k8,if_neg (by have:=of_decide_eq_true h;omega)]
  rfl
theorem nw{d:Int}{b:List Int}(h:decide (256<((b.length:Nat) : Int))=false) : (((du d b).held.length:Nat) : Int)=((b.length:Nat) : Int):=by
  rw[k8,if_pos (by have:=of_decide_eq_false h;omega)]
theorem iP{w:World}{mA:Md}{A:Option Addr}{cpA:Nat}{ls:List (List Int)}(hA:fs mA w (.slice A ls.length cpA) ls)(hbb:∀ x,x∈ls→x.length≤140737488355328){mT:Md}{T:Option Addr}{cpT:Nat}{ts:List Bool}(hT:eN mT w (.slice T ts.length cpT) ts) :
    Calls Tryz.prog 7 #[.int .i64 0,.slice A ls.length cpA,.slice T ts.length cpT] w (c8 (.bool true) w):=by
 have hzA:=aB.len hA
 have hzT:=aB.len hT
 refine en 107 Tryz.func7 rfl<|sg<|Pl 1<|ng<|L0<|Oc<|m1 (@kp _) fun ex bq=>Pl 1<|ng<|?_
 refine Pl 1<|?_
 refine L0<|Oc<|m1 (gX (fs.old hA bq) hbb) fun aq cs=>Pl 1<|nt<|sq<|sg<|Pl 3<|cu 6 [20] 26 (((!(dc ls))||(decide (((ts.length:Nat) : Int)<((ls.length:Nat) : Int))))) (fun K bs=>?_) ?_
 refine bl 20 ((!(dc ls))) (fun E=>?_) (fun E=>?_)
 have cw:(dc ls)=false:=by simpa using E
 exact Pl 6<|ce bs true (by rw[E];rfl)
 have cw:(dc ls)=true:=by simpa using E
 exact Pl 6<|ce bs (decide (((ts.length:Nat) : Int)<((ls.length:Nat) : Int))) (by rw[E];rfl)
 refine nt<|?_
 have l:=aE bq cs
 refine cb (((!(dc ls))||(decide (((ts.length:Nat) : Int)<((ls.length:Nat) : Int))))) (fun ar=>?_) (fun ar=>?_)
 refine sg<|Pl 2<|nt<|rt<|tr<|rr (.bool true)<|?_
 exact⟨rfl,l⟩
 have cx:=(aD ar).1
 have cy:=(aD ar).2
 have cz:(dc ls)=true:=by simpa using cx
 have ey:=of_decide_eq_false cy
 refine aX<|sg<|Pl 1<|L0<|Oc<|e3 (nq (d:=0) (.inl rfl)) fun g cA t F cB=>Pl 1<|nt<|sq<|sg<|Pl 6<|nl<|?_
 refine tn<|c0<|aX<|sq<|sg<|Pl 2<|nt<|c0<|aX<|sq<|?_
 refine go<|Pl 1<|nt<|sq<|sg<|Pl 1<|nt<|bk<|?_
 obtain⟨hf1,hf2⟩:=kT cz
 refine gI (fun x=>[(0,.int .i64 0),(1,.slice A ls.length cpA),(2,.slice T ts.length cpT),(7,.bool true),(9,.pointer (some ⟨g,0,none⟩)),(10,.slice x.2.2.1 x.2.1.length x.2.2.2.1),(11,.int .i64 ((x.1:Nat) : Int))]) (fun(x:Nat × List Int × Option Addr × Nat × Option Addr × Nat × Nat) w'=>az [] w w'∧cA.heap.size≤w'.heap.size∧aJ x.2.2.2.2.2.2 aq.heap.size w' g x.2.2.2.2.1 x.2.2.2.2.2.1 (du 0 x.2.1)∧fp w.heap.size w' (.slice x.2.2.1 x.2.1.length x.2.2.2.1) x.2.1∧(x.1≤ls.length)∧(x.2.1.length≤ez (ls.take x.1))∧((∀ z,z∈ob x.2.2.1→z∉ob x.2.2.2.2.1))) (fun x=>ls.length-x.1) (0,[],none,0,none,0,aq.heap.size) ⟨(aE l cB),lr,F,(b6.nil w.heap.size _ _ iw _),(by(try dsimp only);omega),(by(try dsimp only);simp),(fun x hx=>by simp[ob] at hx)⟩ ?_
 rintro⟨k,b,Ab,cpb,Ah,ch,n⟩ bt ⟨G,f,cD,cE,cF,cG,cH⟩
 refine gJ [(0,.int .i64 0),(1,.slice A ls.length cpA),(2,.slice T ts.length cpT),(7,.bool true),(9,.pointer (some ⟨g,0,none⟩)),(10,.slice Ab b.length cpb),(11,.int .i64 ((k:Nat) : Int))] ?_
 have i:aJ n aq.heap.size bt g Ah ch (du 0 b):=cD
 have C:fp w.heap.size bt (.slice Ab b.length cpb) b:=cE
 have eA:k≤ls.length:=cF
 have eB:b.length≤ez (ls.take k):=cG
 have u:(∀ z,z∈ob Ab→z∉ob Ah):=cH
 refine sq<|sg<|Pl 4<|nt<|cb ((decide (((k:Nat) : Int)<((ls.length:Nat) : Int)))) (fun au=>?_) (fun au=>?_)
 have cI:=of_decide_eq_true au
 refine aX<|sq<|bk<|sg<|Pl 4<|ng<|Pl 3<|gz (fs.elt hA k (by omega)) fun aw aC H I aF aG aH eC eD=>L0<|fR ls.length k aF (by omega)<|?_
 refine L0<|cY (p:=⟨aw,aC+k,none⟩) (v:=.slice H ((ls.getD k []).length) I) (uc G aG)<|?_
 have hpart:=eq (ls:=ls) (k:=k) (by omega)
 refine L0<|tQ (R:=iw) (xs:=b) (ys:=(ls.getD k [])) (.int .u8 0) 1 1 C (aQ.old aH G) nJ (fun _ _ _ _ h=>h) (by(try simp only[List.length_append,List.length_cons,List.length_nil,bB]);omega) G.size fun aI aK eE c a aL=>Pl 1<|ng<|Pl 1<|nt<|sq<|sg<|Pl 3<|cu 4 [60] 64 (((!(decide (256<((b.length:Nat) : Int))))&&(decide (256<(((b++(ls.getD k [])).length:Nat) : Int))))) (fun K bu=>?_) ?_
 refine bl 60 ((!(decide (256<((b.length:Nat) : Int))))) (fun J=>?_) (fun J=>?_)
 have aN:(decide (256<((b.length:Nat) : Int)))=false:=by simpa using J
 have cJ:=of_decide_eq_false aN
 exact Pl 4<|ce bu (decide (256<(((b++(ls.getD k [])).length:Nat) : Int))) (by rw[J];rfl)
 have aN:(decide (256<((b.length:Nat) : Int)))=true:=by simpa using J
 have cJ:=of_decide_eq_true aN
 exact Pl 4<|ce bu false (by rw[J];rfl)
 refine nt<|?_
 have X:=ut G a (aM (cC C lr) av)
 refine cb (((!(decide (256<((b.length:Nat) : Int))))&&(decide (256<(((b++(ls.getD k [])).length:Nat) : Int))))) (fun L=>?_) (fun L=>?_)
 have cL:=(aO L).1
 have aP:=(aO L).2
 have cM:(decide (256<((b.length:Nat) : Int)))=false:=by simpa using cL
 have q58anp:=of_decide_eq_false cM
 have eF:=of_decide_eq_true aP
 refine go<|Pl 2<|L0<|Oc<|m6 (i6 (dir:=0) (ended:=false) (c).rd (by(try simp only[List.length_append]);omega)) fun cN cO eG bv eH eI r=>Pl 1<|nt<|sq<|sg<|Pl 3<|L0<|fR ls.length k aF (by omega)<|?_
 have aR:=aE X r
 refine L0<|cY (p:=⟨aw,aC+k,none⟩) (v:=.slice H ((ls.getD k []).length) I) (uc aR aG)<|?_
 have bw:=aJ.upd i (aE a r) (bi (bH (aJ.cells i) C (by decide)) am) (fun x hx=>(bi ((bU u) x hx) am))
 refine L0<|Oc (args:=#[.pointer (some ⟨g,0,none⟩),.slice H ((ls.getD k []).length) I])<|?_
 refine(fi (kO 0 b (ls.getD k [])) bw (aQ.old aH aR) (by have y:=eq (ls:=ls) (k:=k) (by omega);omega)).mono ?_
 rintro _ eJ ⟨eK,cP,cQ,cR,rfl,cS,cT,cU,eL,B⟩
 refine⟨_,rfl,?_⟩
 have bz:=(dB.own cS)
 obtain⟨cV,cW,rfl,eM,eO⟩:=aB.shape bz.rd
 refine Pl 1<|?_
 refine L0<|Oc (args:=#[.slice cV ((e8 b (ls.getD k [])).length) cW,.slice cN ((cl 0 (b++(ls.getD k [])) false).length) cO])<|m1 (c5 (xs:=(e8 b (ls.getD k []))) (ys:=(cl 0 (b++(ls.getD k [])) false)) (bz).rd ((ax bv B (fun x hx=>(aa (fun e=>(ay (aJ.lt F) (le f a.size) bv) (e▸hx)) am)) (gh.upd B (ah (aJ.safe bw _ (by decide)) aA)))).rd) fun eP D=>Pl 1<|nt<|?_
 have aS:=aE B D
 have bA:=ud aR aS (le l.size t)
 refine cb ((!(decide ((e8 b (ls.getD k []))=(cl 0 (b++(ls.getD k [])) false))))) (fun aT=>?_) (fun aT=>?_)
 have Y:(decide ((e8 b (ls.getD k []))=(cl 0 (b++(ls.getD k [])) false)))=false:=by simpa using aT
 have cX:=of_decide_eq_false Y
 refine sg<|Pl 1<|nt<|rt<|tr<|br<|tr<|tr<|br<|tr<|rr (.bool false)<|?_
 have hs:false=true:=by exfalso;exact of_decide_eq_false Y (nk L)
 rw[hs]
 exact⟨rfl,bA⟩
 have Y:(decide ((e8 b (ls.getD k []))=(cl 0 (b++(ls.getD k [])) false)))=true:=by simpa using aT
 have cX:=of_decide_eq_true Y
 refine aX<|sg<|Pl 3<|nt<|sq<|sg<|Pl 2<|nt<|ct aP<|?_
 refine go<|Pl 1<|nt<|sq<|sg<|Pl 1<|?_
 have Z:=aJ.upd cT D am (fun x hx=>am)
 refine L0<|Oc<|m1 (ca Z) fun eQ m=>Pl 2<|nt<|?_
 have M:=aE bA m
 refine cb (((((du 0 (b++(ls.getD k []))).held.length:Nat) : Int)!=0)) (fun a0=>?_) (fun a0=>?_)
 have cZ:=al a0
 refine sg<|Pl 1<|nt<|rt<|tr<|br<|tr<|tr<|br<|tr<|rr (.bool false)<|?_
 have hs:false=true:=by exfalso;exact al a0 (gv aP)
 rw[hs]
 exact⟨rfl,M⟩
 have cZ:=ae a0
 refine aX<|sq<|sg<|Pl 2<|?_
 refine jf (eN.at_ (eN.old hT M) k (by omega)) fun d0 d1 d2 d3=>L0<|fR ts.length k d2 (by omega)<|L0<|cY (p:=⟨d0,d1+k,none⟩) (v:=.bool (ts.getD k false)) d3<|Pl 1<|nt<|cb ((!(ts.getD k false))) (fun aU=>?_) (fun aU=>?_)
 have d4:(ts.getD k false)=false:=by simpa using aU
 refine xt<|tx<|bx<|tn<|go<|Pl 1<|L0<|Oi (((k:Nat) : Int)+1)<|Pl 1<|nl<|?_
 exact ek ((k+1),(b++(ls.getD k [])),aI,aK,cP,cQ,cR) ⟨M,(le (le (le (le (le f a.size) r.size) B.size) D.size) m.size),(aJ.upd Z m am (fun x hx=>am)),(ax c (uz r (aE aS m)) (fun x hx=>(aa (fun e=>(bH (aJ.cells (aJ.upd i a (bi (bH (aJ.cells i) C (by decide)) am) (fun x hx=>(bi ((bU u) x hx) am)))) c (by decide)) (e▸hx)) am)) (fun _ _ h=>h)),(by(try dsimp only);omega),(by(try dsimp only);have y:=bG (ls:=ls) (k:=k) (by omega);(try simp only[List.length_append,List.length_nil]);omega),(bU (cK cU (bU (cK aL u (aJ.row i) lr)) c r.size))⟩ (by omega)
 have d4:(ts.getD k false)=true:=by simpa using aU
 refine aX<|sg<|Pl 1<|nt<|sq<|sg<|Pl 3<|nt<|cb ((decide ((((b++(ls.getD k [])).length:Nat) : Int)≤256))) (fun N=>?_) (fun N=>?_)
 have d5:=of_decide_eq_true N
 refine go<|Pl 2<|?_
 refine L0<|Oc<|m6 (i6 (dir:=0) (ended:=true) ((ax c (uz r (aE aS m)) (fun x hx=>(aa (fun e=>(bH (aJ.cells (aJ.upd i a (bi (bH (aJ.cells i) C (by decide)) am) (fun x hx=>(bi ((bU u) x hx) am)))) c (by decide)) (e▸hx)) am)) (fun _ _ h=>h))).rd (by(try simp only[List.length_append]);omega)) fun d6 d7 eR bC eS eT aV=>Pl 1<|nt<|sq<|sg<|Pl 1<|?_
 have bD:=aJ.upd Z (aE m aV) am (fun x hx=>am)
 refine L0<|Oc (args:=#[.pointer (some ⟨g,0,none⟩)])<|?_
 refine(cv (ed 0 (b++(ls.getD k []))) bD).mono ?_
 rintro _ eU ⟨eV,d8,d9,da,rfl,db,dd,eW,eX,a1⟩
 refine⟨_,rfl,?_⟩
 have bE:=(dB.own db)
 obtain⟨de,df,rfl,eY,eZ⟩:=aB.shape bE.rd
 refine Pl 1<|?_
 refine L0<|Oc (args:=#[.slice de ((bO 0 (b++(ls.getD k []))).length) df,.slice d6 ((cl 0 (b++(ls.getD k [])) true).length) d7])<|m1 (c5 (xs:=(bO 0 (b++(ls.getD k [])))) (ys:=(cl 0 (b++(ls.getD k [])) true)) (bE).rd ((ax bC a1 (fun x hx=>(aa (fun e=>(ay (aJ.lt F) (le (le (le (le (le f a.size) r.size) B.size) D.size) m.size) bC) (e▸hx)) am)) (gh.upd a1 (ah (aJ.safe bD _ (by decide)) aA)))).rd) fun f0 aW=>Pl 2<|?_
 have bF:=ud M (uz aV (aE a1 aW)) (le l.size t)
 refine bl 101 ((!(decide ((bO 0 (b++(ls.getD k [])))=(cl 0 (b++(ls.getD k [])) true))))) (fun aY=>?_) (fun aY=>?_)
 have a2:(decide ((bO 0 (b++(ls.getD k [])))=(cl 0 (b++(ls.getD k [])) true)))=false:=by simpa using aY
 have dg:=of_decide_eq_false a2
 refine Pl 4<|nt<|c1<|sg<|Pl 1<|nt<|rt<|tr<|br<|tr<|tr<|?_
 refine br<|tr<|rr (.bool false)<|?_
 have hs:false=true:=by exfalso;exact of_decide_eq_false a2 (fL N)
 rw[hs]
 exact⟨rfl,bF⟩
 have a2:(decide ((bO 0 (b++(ls.getD k [])))=(cl 0 (b++(ls.getD k [])) true)))=true:=by simpa using aY
 have dg:=of_decide_eq_true a2
 refine Pl 1<|?_
 have bI:=aJ.upd dd aW am (fun x hx=>am)
 refine L1<|Oc<|m1 (ca bI) fun f1 aZ=>Pl 2<|nt<|?_
 have bJ:=aE bF aZ
 refine cb (((((du 0 []).held.length:Nat) : Int)!=0)) (fun a3=>?_) (fun a3=>?_)
 have dh:=al a3
 refine sg<|Pl 1<|nt<|rt<|tr<|br<|tr<|tr<|br<|tr<|rr (.bool false)<|?_
 have hs:false=true:=by exfalso;exact al a3 rfl
 rw[hs]
 exact⟨rfl,bJ⟩
 have dh:=ae a3
 refine aX<|go<|Pl 1<|nl<|bn<|tn<|go<|Pl 1<|L0<|Oi (((k:Nat) : Int)+1)<|Pl 1<|nl<|?_
 exact ek ((k+1),[],none,0,d8,d9,da) ⟨bJ,(le (le (le (le (le (le (le (le (le f a.size) r.size) B.size) D.size) m.size) aV.size) a1.size) aW.size) aZ.size),(aJ.upd bI aZ am (fun x hx=>am)),(b6.nil w.heap.size _ _ iw _),(by(try dsimp only);omega),(by(try dsimp only);have y:=bG (ls:=ls) (k:=k) (by omega);(try simp only[List.length_append,List.length_nil]);omega),(fun x hx=>by simp[ob] at hx)⟩ (by omega)
 have d5:=of_decide_eq_false N
 refine aX<|sq<|sg<|Pl 1<|?_
 refine L0<|Oc (args:=#[.pointer (some ⟨g,0,none⟩)])<|?_
 refine(cv (ed 0 (b++(ls.getD k []))) (aJ.upd Z m am (fun x hx=>am))).mono ?_
 rintro _ f2 ⟨f3,di,dj,dk,rfl,dl,dm,f4,f5,bK⟩
 refine⟨_,rfl,?_⟩
 have bL:=(dB.own dl)
 obtain⟨dn,dp,rfl,f6,f7⟩:=aB.shape bL.rd
 refine Pl 1<|L0<|Oc (args:=#[.slice dn ((bO 0 (b++(ls.getD k []))).length) dp,.slice none 0 0])<|m1 (c5 (xs:=(bO 0 (b++(ls.getD k [])))) (ys:=[]) (bL).rd (aB.nil true _ _ (gh true) _)) fun f8 b0=>Pl 2<|?_
 have bM:=ud M (aE bK b0) (le l.size t)
 refine bl 101 ((!(decide ((bO 0 (b++(ls.getD k [])))=[])))) (fun b1=>?_) (fun b1=>?_)
 have a4:(decide ((bO 0 (b++(ls.getD k [])))=[]))=false:=by simpa using b1
 have dq:=of_decide_eq_false a4
 refine Pl 4<|nt<|c1<|sg<|Pl 1<|nt<|rt<|tr<|br<|tr<|tr<|?_
 refine br<|tr<|rr (.bool false)<|?_
 have hs:false=true:=by exfalso;exact of_decide_eq_false a4 (fC N)
 rw[hs]
 exact⟨rfl,bM⟩
 have a4:(decide ((bO 0 (b++(ls.getD k [])))=[]))=true:=by simpa using b1
 have dq:=of_decide_eq_true a4
 refine Pl 1<|?_
 have bN:=aJ.upd dm b0 am (fun x hx=>am)
 refine L1<|Oc<|m1 (ca bN) fun f9 b2=>Pl 2<|nt<|?_
 have bP:=aE bM b2
 refine cb (((((du 0 []).held.length:Nat) : Int)!=0)) (fun a5=>?_) (fun a5=>?_)
 have dr:=al a5
 refine sg<|Pl 1<|nt<|rt<|tr<|br<|tr<|tr<|br<|tr<|rr (.bool false)<|?_
 have hs:false=true:=by exfalso;exact al a5 rfl
 rw[hs]
 exact⟨rfl,bP⟩
 have dr:=ae a5
 refine aX<|go<|Pl 1<|nl<|bn<|tn<|go<|Pl 1<|L0<|Oi (((k:Nat) : Int)+1)<|Pl 1<|nl<|?_
 exact ek ((k+1),[],none,0,di,dj,dk) ⟨bP,(le (le (le (le (le (le (le (le f a.size) r.size) B.size) D.size) m.size) bK.size) b0.size) b2.size),(aJ.upd bN b2 am (fun x hx=>am)),(b6.nil w.heap.size _ _ iw _),(by(try dsimp only);omega),(by(try dsimp only);have y:=bG (ls:=ls) (k:=k) (by omega);(try simp only[List.length_append,List.length_nil]);omega),(fun x hx=>by simp[ob] at hx)⟩ (by omega)
 refine aX<|sq<|sg<|Pl 3<|L0<|fR ls.length k aF (by omega)<|L0<|cY (p:=⟨aw,aC+k,none⟩) (v:=.slice H ((ls.getD k []).length) I) (uc X aG)<|?_
 have O:=aJ.upd i a (bi (bH (aJ.cells i) C (by decide)) am) (fun x hx=>(bi ((bU u) x hx) am))
 refine L0<|Oc (args:=#[.pointer (some ⟨g,0,none⟩),.slice H ((ls.getD k []).length) I])<|?_
 refine(fi (kO 0 b (ls.getD k [])) O (aQ.old aH X) (by have y:=eq (ls:=ls) (k:=k) (by omega);omega)).mono ?_
 rintro _ fa ⟨fb,bQ,bR,bS,rfl,ds,bT,bV,fc,s⟩
 refine⟨_,rfl,?_⟩
 have bW:=(dB.own ds)
 obtain⟨dt,dv,rfl,fd,fe⟩:=aB.shape bW.rd
 refine Pl 1<|L0<|Oc (args:=#[.slice dt ((e8 b (ls.getD k [])).length) dv,.slice none 0 0])<|m1 (c5 (xs:=(e8 b (ls.getD k []))) (ys:=[]) (bW).rd (aB.nil true _ _ (gh true) _)) fun ff j=>Pl 1<|nt<|?_
 have P:=aE s j
 have b3:=ud X P (le l.size t)
 refine cb ((!(decide ((e8 b (ls.getD k []))=[])))) (fun b4=>?_) (fun b4=>?_)
 have a6:(decide ((e8 b (ls.getD k []))=[]))=false:=by simpa using b4
 have dw:=of_decide_eq_false a6
 refine sg<|Pl 1<|nt<|rt<|tr<|br<|tr<|tr<|br<|tr<|rr (.bool false)<|?_
 have hs:false=true:=by exfalso;exact of_decide_eq_false a6 (nH L)
 rw[hs]
 exact⟨rfl,b3⟩
 have a6:(decide ((e8 b (ls.getD k []))=[]))=true:=by simpa using b4
 have dw:=of_decide_eq_true a6
 refine aX<|sg<|Pl 3<|nt<|sq<|sg<|Pl 2<|nt<|cb ((decide (256<(((b++(ls.getD k [])).length:Nat) : Int)))) (fun Q=>?_) (fun Q=>?_)
 have dx:=of_decide_eq_true Q
 refine go<|Pl 1<|nt<|sq<|sg<|Pl 1<|?_
 have a7:=aJ.upd bT j am (fun x hx=>am)
 refine L0<|Oc<|m1 (ca a7) fun fg o=>Pl 2<|nt<|?_
 have S:=aE b3 o
 refine cb (((((du 0 (b++(ls.getD k []))).held.length:Nat) : Int)!=0)) (fun a8=>?_) (fun a8=>?_)
 have dy:=al a8
 refine sg<|Pl 1<|nt<|rt<|tr<|br<|tr<|tr<|br<|tr<|rr (.bool false)<|?_
 have hs:false=true:=by exfalso;exact al a8 (gv Q)
 rw[hs]
 exact⟨rfl,S⟩
 have dy:=ae a8
 refine aX<|sq<|sg<|Pl 2<|?_
 refine jf (eN.at_ (eN.old hT S) k (by omega)) fun dz dA dC dD=>L0<|fR ts.length k dC (by omega)<|L0<|cY (p:=⟨dz,dA+k,none⟩) (v:=.bool (ts.getD k false)) dD<|Pl 1<|nt<|cb ((!(ts.getD k false))) (fun b5=>?_) (fun b5=>?_)
 have dE:(ts.getD k false)=false:=by simpa using b5
 refine xt<|tx<|bx<|tn<|go<|Pl 1<|L0<|Oi (((k:Nat) : Int)+1)<|Pl 1<|nl<|?_
 exact ek ((k+1),(b++(ls.getD k [])),aI,aK,bQ,bR,bS) ⟨S,(le (le (le (le f a.size) s.size) j.size) o.size),(aJ.upd a7 o am (fun x hx=>am)),(ax c (aE P o) (fun x hx=>(aa (fun e=>(bH (aJ.cells O) c (by decide)) (e▸hx)) am)) (fun _ _ h=>h)),(by(try dsimp only);omega),(by(try dsimp only);have y:=bG (ls:=ls) (k:=k) (by omega);(try simp only[List.length_append,List.length_nil]);omega),(bU (cK bV (bU (cK aL u (aJ.row i) lr)) c lr))⟩ (by omega)
 have dE:(ts.getD k false)=true:=by simpa using b5
 refine aX<|sg<|Pl 1<|nt<|sq<|sg<|Pl 3<|nt<|cb ((decide ((((b++(ls.getD k [])).length:Nat) : Int)≤256))) (fun U=>?_) (fun U=>?_)
 have dF:=of_decide_eq_true U
 refine go<|Pl 2<|?_
 refine L0<|Oc<|m6 (i6 (dir:=0) (ended:=true) ((ax c (aE P o) (fun x hx=>(aa (fun e=>(bH (aJ.cells O) c (by decide)) (e▸hx)) am)) (fun _ _ h=>h))).rd (by(try simp only[List.length_append]);omega)) fun dG dH fh bX fj fk b7=>Pl 1<|nt<|sq<|sg<|Pl 1<|?_
 have bY:=aJ.upd a7 (aE o b7) am (fun x hx=>am)
 refine L0<|Oc (args:=#[.pointer (some ⟨g,0,none⟩)])<|?_
 refine(cv (ed 0 (b++(ls.getD k []))) bY).mono ?_
 rintro _ fl ⟨fm,dI,dJ,dK,rfl,dL,dM,fn,fo,a9⟩
 refine⟨_,rfl,?_⟩
 have bZ:=(dB.own dL)
 obtain⟨dN,dO,rfl,fq,fr⟩:=aB.shape bZ.rd
 refine Pl 1<|?_
 refine L0<|Oc (args:=#[.slice dN ((bO 0 (b++(ls.getD k []))).length) dO,.slice dG ((cl 0 (b++(ls.getD k [])) true).length) dH])<|m1 (c5 (xs:=(bO 0 (b++(ls.getD k [])))) (ys:=(cl 0 (b++(ls.getD k [])) true)) (bZ).rd ((ax bX a9 (fun x hx=>(aa (fun e=>(ay (aJ.lt F) (le (le (le (le f a.size) s.size) j.size) o.size) bX) (e▸hx)) am)) (gh.upd a9 (ah (aJ.safe bY _ (by decide)) aA)))).rd) fun ft b8=>Pl 2<|?_
 have c2:=ud S (uz b7 (aE a9 b8)) (le l.size t)
 refine bl 101 ((!(decide ((bO 0 (b++(ls.getD k [])))=(cl 0 (b++(ls.getD k [])) true))))) (fun b9=>?_) (fun b9=>?_)
 have ab:(decide ((bO 0 (b++(ls.getD k [])))=(cl 0 (b++(ls.getD k [])) true)))=false:=by simpa using b9
 have dP:=of_decide_eq_false ab
 refine Pl 4<|nt<|c1<|sg<|Pl 1<|nt<|rt<|tr<|br<|tr<|tr<|?_
 refine br<|tr<|rr (.bool false)<|?_
 have hs:false=true:=by exfalso;exact of_decide_eq_false ab (fL U)
 rw[hs]
 exact⟨rfl,c2⟩
 have ab:(decide ((bO 0 (b++(ls.getD k [])))=(cl 0 (b++(ls.getD k [])) true)))=true:=by simpa using b9
 have dP:=of_decide_eq_true ab
 refine Pl 1<|?_
 have c3:=aJ.upd dM b8 am (fun x hx=>am)
 refine L1<|Oc<|m1 (ca c3) fun fu ba=>Pl 2<|nt<|?_
 have c4:=aE c2 ba
 refine cb (((((du 0 []).held.length:Nat) : Int)!=0)) (fun ac=>?_) (fun ac=>?_)
 have dQ:=al ac
 refine sg<|Pl 1<|nt<|rt<|tr<|br<|tr<|tr<|br<|tr<|rr (.bool false)<|?_
 have hs:false=true:=by exfalso;exact al ac rfl
 rw[hs]
 exact⟨rfl,c4⟩
 have dQ:=ae ac
 refine aX<|go<|Pl 1<|nl<|bn<|tn<|go<|Pl 1<|L0<|Oi (((k:Nat) : Int)+1)<|Pl 1<|nl<|?_
 exact ek ((k+1),[],none,0,dI,dJ,dK) ⟨c4,(le (le (le (le (le (le (le (le f a.size) s.size) j.size) o.size) b7.size) a9.size) b8.size) ba.size),(aJ.upd c3 ba am (fun x hx=>am)),(b6.nil w.heap.size _ _ iw _),(by(try dsimp only);omega),(by(try dsimp only);have y:=bG (ls:=ls) (k:=k) (by omega);(try simp only[List.length_append,List.length_nil]);omega),(fun x hx=>by simp[ob] at hx)⟩ (by omega)
 have dF:=of_decide_eq_false U
 refine aX<|sq<|sg<|Pl 1<|?_
 refine L0<|Oc (args:=#[.pointer (some ⟨g,0,none⟩)])<|?_
 refine(cv (ed 0 (b++(ls.getD k []))) (aJ.upd a7 o am (fun x hx=>am))).mono ?_
 rintro _ fv ⟨fw,dR,dS,dT,rfl,dU,dV,fx,fy,c6⟩
 refine⟨_,rfl,?_⟩
 have c7:=(dB.own dU)
 obtain⟨dW,dX,rfl,fz,fA⟩:=aB.shape c7.rd
 refine Pl 1<|L0<|Oc (args:=#[.slice dW ((bO 0 (b++(ls.getD k []))).length) dX,.slice none 0 0])<|m1 (c5 (xs:=(bO 0 (b++(ls.getD k [])))) (ys:=[]) (c7).rd (aB.nil true _ _ (gh true) _)) fun fB bb=>Pl 2<|?_
 have c9:=ud S (aE c6 bb) (le l.size t)
 refine bl 101 ((!(decide ((bO 0 (b++(ls.getD k [])))=[])))) (fun bc=>?_) (fun bc=>?_)
 have ad:(decide ((bO 0 (b++(ls.getD k [])))=[]))=false:=by simpa using bc
 have dY:=of_decide_eq_false ad
 refine Pl 4<|nt<|c1<|sg<|Pl 1<|nt<|rt<|tr<|br<|tr<|tr<|?_
 refine br<|tr<|rr (.bool false)<|?_
 have hs:false=true:=by exfalso;exact of_decide_eq_false ad (fC U)
 rw[hs]
 exact⟨rfl,c9⟩
 have ad:(decide ((bO 0 (b++(ls.getD k [])))=[]))=true:=by simpa using bc
 have dY:=of_decide_eq_true ad
 refine Pl 1<|?_
 have cc:=aJ.upd dV bb am (fun x hx=>am)
 refine L1<|Oc<|m1 (ca cc) fun fD bd=>Pl 2<|nt<|?_
 have cd:=aE c9 bd
 refine cb (((((du 0 []).held.length:Nat) : Int)!=0)) (fun af=>?_) (fun af=>?_)
 have dZ:=al af
 refine sg<|Pl 1<|nt<|rt<|tr<|br<|tr<|tr<|br<|tr<|rr (.bool false)<|?_
 have hs:false=true:=by exfalso;exact al af rfl
 rw[hs]
 exact⟨rfl,cd⟩
 have dZ:=ae af
 refine aX<|go<|Pl 1<|nl<|bn<|tn<|go<|Pl 1<|L0<|Oi (((k:Nat) : Int)+1)<|Pl 1<|nl<|?_
 exact ek ((k+1),[],none,0,dR,dS,dT) ⟨cd,(le (le (le (le (le (le (le f a.size) s.size) j.size) o.size) c6.size) bb.size) bd.size),(aJ.upd cc bd am (fun x hx=>am)),(b6.nil w.heap.size _ _ iw _),(by(try dsimp only);omega),(by(try dsimp only);have y:=bG (ls:=ls) (k:=k) (by omega);(try simp only[List.length_append,List.length_nil]);omega),(fun x hx=>by simp[ob] at hx)⟩ (by omega)
 have dx:=of_decide_eq_false Q
 refine aX<|sq<|sg<|Pl 1<|?_
 have ag:=aJ.upd bT j am (fun x hx=>am)
 refine L0<|Oc<|m1 (ca ag) fun fE q=>Pl 2<|nt<|?_
 have V:=aE b3 q
 refine cb (((((du 0 (b++(ls.getD k []))).held.length:Nat) : Int)!=(((b++(ls.getD k [])).length:Nat) : Int))) (fun ai=>?_) (fun ai=>?_)
 have e0:=al ai
 refine sg<|Pl 1<|nt<|rt<|tr<|br<|tr<|tr<|br<|tr<|rr (.bool false)<|?_
 have hs:false=true:=by exfalso;exact al ai (nw Q)
 rw[hs]
 exact⟨rfl,V⟩
 have e0:=ae ai
 refine aX<|sq<|sg<|Pl 2<|?_
 refine jf (eN.at_ (eN.old hT V) k (by omega)) fun e1 e2 e4 e5=>L0<|fR ts.length k e4 (by omega)<|L0<|cY (p:=⟨e1,e2+k,none⟩) (v:=.bool (ts.getD k false)) e5<|Pl 1<|nt<|cb ((!(ts.getD k false))) (fun be=>?_) (fun be=>?_)
 have e6:(ts.getD k false)=false:=by simpa using be
 refine xt<|tx<|bx<|tn<|go<|Pl 1<|L0<|Oi (((k:Nat) : Int)+1)<|Pl 1<|nl<|?_
 exact ek ((k+1),(b++(ls.getD k [])),aI,aK,bQ,bR,bS) ⟨V,(le (le (le (le f a.size) s.size) j.size) q.size),(aJ.upd ag q am (fun x hx=>am)),(ax c (aE P q) (fun x hx=>(aa (fun e=>(bH (aJ.cells O) c (by decide)) (e▸hx)) am)) (fun _ _ h=>h)),(by(try dsimp only);omega),(by(try dsimp only);have y:=bG (ls:=ls) (k:=k) (by omega);(try simp only[List.length_append,List.length_nil]);omega),(bU (cK bV (bU (cK aL u (aJ.row i) lr)) c lr))⟩ (by omega)
 have e6:(ts.getD k false)=true:=by simpa using be
 refine aX<|sg<|Pl 1<|nt<|sq<|sg<|Pl 3<|nt<|cb ((decide ((((b++(ls.getD k [])).length:Nat) : Int)≤256))) (fun W=>?_) (fun W=>?_)
 have e7:=of_decide_eq_true W
 refine go<|Pl 2<|?_
 refine L0<|Oc<|m6 (i6 (dir:=0) (ended:=true) ((ax c (aE P q) (fun x hx=>(aa (fun e=>(bH (aJ.cells O) c (by decide)) (e▸hx)) am)) (fun _ _ h=>h))).rd (by(try simp only[List.length_append]);omega)) fun e9 ea fF cf fG fH bf=>Pl 1<|nt<|sq<|sg<|Pl 1<|?_
 have cg:=aJ.upd ag (aE q bf) am (fun x hx=>am)
 refine L0<|Oc (args:=#[.pointer (some ⟨g,0,none⟩)])<|?_
 refine(cv (ed 0 (b++(ls.getD k []))) cg).mono ?_
 rintro _ fI ⟨fJ,eb,ec,ee,rfl,ef,eg,fK,fM,aj⟩
 refine⟨_,rfl,?_⟩
 have ci:=(dB.own ef)
 obtain⟨eh,ei,rfl,fN,fO⟩:=aB.shape ci.rd
 refine Pl 1<|?_
 refine L0<|Oc (args:=#[.slice eh ((bO 0 (b++(ls.getD k []))).length) ei,.slice e9 ((cl 0 (b++(ls.getD k [])) true).length) ea])<|m1 (c5 (xs:=(bO 0 (b++(ls.getD k [])))) (ys:=(cl 0 (b++(ls.getD k [])) true)) (ci).rd ((ax cf aj (fun x hx=>(aa (fun e=>(ay (aJ.lt F) (le (le (le (le f a.size) s.size) j.size) q.size) cf) (e▸hx)) am)) (gh.upd aj (ah (aJ.safe cg _ (by decide)) aA)))).rd) fun fP bg=>Pl 2<|?_
 have cj:=ud V (uz bf (aE aj bg)) (le l.size t)
 refine bl 101 ((!(decide ((bO 0 (b++(ls.getD k [])))=(cl 0 (b++(ls.getD k [])) true))))) (fun bh=>?_) (fun bh=>?_)
 have ak:(decide ((bO 0 (b++(ls.getD k [])))=(cl 0 (b++(ls.getD k [])) true)))=false:=by simpa using bh
 have ej:=of_decide_eq_false ak
 refine Pl 4<|nt<|c1<|sg<|Pl 1<|nt<|rt<|tr<|br<|tr<|tr<|?_
 refine br<|tr<|rr (.bool false)<|?_
 have hs:false=true:=by exfalso;exact of_decide_eq_false ak (fL W)
 rw[hs]
 exact⟨rfl,cj⟩
 have ak:(decide ((bO 0 (b++(ls.getD k [])))=(cl 0 (b++(ls.getD k [])) true)))=true:=by simpa using bh
 have ej:=of_decide_eq_true ak
 refine Pl 1<|?_
 have ck:=aJ.upd eg bg am (fun x hx=>am)
 refine L1<|Oc<|m1 (ca ck) fun fQ bj=>Pl 2<|nt<|?_
 have cm:=aE cj bj
 refine cb (((((du 0 []).held.length:Nat) : Int)!=0)) (fun an=>?_) (fun an=>?_)
 have el:=al an
 refine sg<|Pl 1<|nt<|rt<|tr<|br<|tr<|tr<|br<|tr<|rr (.bool false)<|?_
 have hs:false=true:=by exfalso;exact al an rfl
 rw[hs]
 exact⟨rfl,cm⟩
 have el:=ae an
 refine aX<|go<|Pl 1<|nl<|bn<|tn<|go<|Pl 1<|L0<|Oi (((k:Nat) : Int)+1)<|Pl 1<|nl<|?_
 exact ek ((k+1),[],none,0,eb,ec,ee) ⟨cm,(le (le (le (le (le (le (le (le f a.size) s.size) j.size) q.size) bf.size) aj.size) bg.size) bj.size),(aJ.upd ck bj am (fun x hx=>am)),(b6.nil w.heap.size _ _ iw _),(by(try dsimp only);omega),(by(try dsimp only);have y:=bG (ls:=ls) (k:=k) (by omega);(try simp only[List.length_append,List.length_nil]);omega),(fun x hx=>by simp[ob] at hx)⟩ (by omega)
 have e7:=of_decide_eq_false W
 refine aX<|sq<|sg<|Pl 1<|?_
 refine L0<|Oc (args:=#[.pointer (some ⟨g,0,none⟩)])<|?_
 refine(cv (ed 0 (b++(ls.getD k []))) (aJ.upd ag q am (fun x hx=>am))).mono ?_
 rintro _ fS ⟨fT,em,eo,ep,rfl,er,es,fU,fV,cn⟩
 refine⟨_,rfl,?_⟩
 have co:=(dB.own er)
 obtain⟨et,eu,rfl,fW,fX⟩:=aB.shape co.rd
 refine Pl 1<|L0<|Oc (args:=#[.slice et ((bO 0 (b++(ls.getD k []))).length) eu,.slice none 0 0])<|m1 (c5 (xs:=(bO 0 (b++(ls.getD k [])))) (ys:=[]) (co).rd (aB.nil true _ _ (gh true) _)) fun fY bm=>Pl 2<|?_
 have cp:=ud V (aE cn bm) (le l.size t)
 refine bl 101 ((!(decide ((bO 0 (b++(ls.getD k [])))=[])))) (fun bo=>?_) (fun bo=>?_)
 have ao:(decide ((bO 0 (b++(ls.getD k [])))=[]))=false:=by simpa using bo
 have ev:=of_decide_eq_false ao
 refine Pl 4<|nt<|c1<|sg<|Pl 1<|nt<|rt<|tr<|br<|tr<|tr<|?_
 refine br<|tr<|rr (.bool false)<|?_
 have hs:false=true:=by exfalso;exact of_decide_eq_false ao (fC W)
 rw[hs]
 exact⟨rfl,cp⟩
 have ao:(decide ((bO 0 (b++(ls.getD k [])))=[]))=true:=by simpa using bo
 have ev:=of_decide_eq_true ao
 refine Pl 1<|?_
 have cq:=aJ.upd es bm am (fun x hx=>am)
 refine L1<|Oc<|m1 (ca cq) fun fZ bp=>Pl 2<|nt<|?_
 have cr:=aE cp bp
 refine cb (((((du 0 []).held.length:Nat) : Int)!=0)) (fun ap=>?_) (fun ap=>?_)
 have ew:=al ap
 refine sg<|Pl 1<|nt<|rt<|tr<|br<|tr<|tr<|br<|tr<|rr (.bool false)<|?_
 have hs:false=true:=by exfalso;exact al ap rfl
 rw[hs]
 exact⟨rfl,cr⟩
 have ew:=ae ap
 refine aX<|go<|Pl 1<|nl<|bn<|tn<|go<|Pl 1<|L0<|Oi (((k:Nat) : Int)+1)<|Pl 1<|nl<|?_
 exact ek ((k+1),[],none,0,em,eo,ep) ⟨cr,(le (le (le (le (le (le (le f a.size) s.size) j.size) q.size) cn.size) bm.size) bp.size),(aJ.upd cq bp am (fun x hx=>am)),(b6.nil w.heap.size _ _ iw _),(by(try dsimp only);omega),(by(try dsimp only);have y:=bG (ls:=ls) (k:=k) (by omega);(try simp only[List.length_append,List.length_nil]);omega),(fun x hx=>by simp[ob] at hx)⟩ (by omega)
 have cI:=of_decide_eq_false au
 refine xt<|tx<|tx<|bx<|tn<|sg<|Pl 2<|nt<|rt<|rr (.bool true)<|?_
 exact⟨rfl,G⟩
theorem iM{w:World}{mA:Md}{A:Option Addr}{cpA:Nat}{ls:List (List Int)}(hA:fs mA w (.slice A ls.length cpA) ls)(hbb:∀ x,x∈ls→x.length≤140737488355328){mT:Md}{T:Option Addr}{cpT:Nat}{ts:List Bool}(hT:eN mT w (.slice T ts.length cpT) ts) :
    Calls Tryz.prog 7 #[.int .i64 1,.slice A ls.length cpA,.slice T ts.length cpT] w (c8 (.bool true) w):=by
 have hzA:=aB.len hA
 have hzT:=aB.len hT
 refine en 107 Tryz.func7 rfl<|sg<|Pl 1<|ng<|L0<|Oc<|m1 (@kp _) fun ex bq=>Pl 1<|ng<|?_
 refine Pl 1<|?_
 refine L0<|Oc<|m1 (gX (fs.old hA bq) hbb) fun aq cs=>Pl 1<|nt<|sq<|sg<|Pl 3<|cu 6 [20] 26 (((!(dc ls))||(decide (((ts.length:Nat) : Int)<((ls.length:Nat) : Int))))) (fun K bs=>?_) ?_
 refine bl 20 ((!(dc ls))) (fun E=>?_) (fun E=>?_)
 have cw:(dc ls)=false:=by simpa using E
 exact Pl 6<|ce bs true (by rw[E];rfl)
 have cw:(dc ls)=true:=by simpa using E
 exact Pl 6<|ce bs (decide (((ts.length:Nat) : Int)<((ls.length:Nat) : Int))) (by rw[E];rfl)
 refine nt<|?_
 have l:=aE bq cs
 refine cb (((!(dc ls))||(decide (((ts.length:Nat) : Int)<((ls.length:Nat) : Int))))) (fun ar=>?_) (fun ar=>?_)
 refine sg<|Pl 2<|nt<|rt<|tr<|rr (.bool true)<|?_
 exact⟨rfl,l⟩
 have cx:=(aD ar).1
 have cy:=(aD ar).2
 have cz:(dc ls)=true:=by simpa using cx
 have ey:=of_decide_eq_false cy
 refine aX<|sg<|Pl 1<|L0<|Oc<|e3 (nq (d:=1) (.inr rfl)) fun g cA t F cB=>Pl 1<|nt<|sq<|sg<|Pl 6<|nl<|?_
 refine tn<|c0<|aX<|sq<|sg<|Pl 2<|nt<|c0<|aX<|sq<|?_
 refine go<|Pl 1<|nt<|sq<|sg<|Pl 1<|nt<|bk<|?_
 obtain⟨hf1,hf2⟩:=kT cz
 refine gI (fun x=>[(0,.int .i64 1),(1,.slice A ls.length cpA),(2,.slice T ts.length cpT),(7,.bool true),(9,.pointer (some ⟨g,0,none⟩)),(10,.slice x.2.2.1 x.2.1.length x.2.2.2.1),(11,.int .i64 ((x.1:Nat) : Int))]) (fun(x:Nat × List Int × Option Addr × Nat × Option Addr × Nat × Nat) w'=>az [] w w'∧cA.heap.size≤w'.heap.size∧aJ x.2.2.2.2.2.2 aq.heap.size w' g x.2.2.2.2.1 x.2.2.2.2.2.1 (du 1 x.2.1)∧fp w.heap.size w' (.slice x.2.2.1 x.2.1.length x.2.2.2.1) x.2.1∧(x.1≤ls.length)∧(x.2.1.length≤ez (ls.take x.1))∧((∀ z,z∈ob x.2.2.1→z∉ob x.2.2.2.2.1))) (fun x=>ls.length-x.1) (0,[],none,0,none,0,aq.heap.size) ⟨(aE l cB),lr,F,(b6.nil w.heap.size _ _ iw _),(by(try dsimp only);omega),(by(try dsimp only);simp),(fun x hx=>by simp[ob] at hx)⟩ ?_
 rintro⟨k,b,Ab,cpb,Ah,ch,n⟩ bt ⟨G,f,cD,cE,cF,cG,cH⟩
 refine gJ [(0,.int .i64 1),(1,.slice A ls.length cpA),(2,.slice T ts.length cpT),(7,.bool true),(9,.pointer (some ⟨g,0,none⟩)),(10,.slice Ab b.length cpb),(11,.int .i64 ((k:Nat) : Int))] ?_
 have i:aJ n aq.heap.size bt g Ah ch (du 1 b):=cD
 have C:fp w.heap.size bt (.slice Ab b.length cpb) b:=cE
 have eA:k≤ls.length:=cF
 have eB:b.length≤ez (ls.take k):=cG
 have u:(∀ z,z∈ob Ab→z∉ob Ah):=cH
 refine sq<|sg<|Pl 4<|nt<|cb ((decide (((k:Nat) : Int)<((ls.length:Nat) : Int)))) (fun au=>?_) (fun au=>?_)
 have cI:=of_decide_eq_true au
 refine aX<|sq<|bk<|sg<|Pl 4<|ng<|Pl 3<|gz (fs.elt hA k (by omega)) fun aw aC H I aF aG aH eC eD=>L0<|fR ls.length k aF (by omega)<|?_
 refine L0<|cY (p:=⟨aw,aC+k,none⟩) (v:=.slice H ((ls.getD k []).length) I) (uc G aG)<|?_
 have hpart:=eq (ls:=ls) (k:=k) (by omega)
 refine L0<|tQ (R:=iw) (xs:=b) (ys:=(ls.getD k [])) (.int .u8 0) 1 1 C (aQ.old aH G) nJ (fun _ _ _ _ h=>h) (by(try simp only[List.length_append,List.length_cons,List.length_nil,bB]);omega) G.size fun aI aK eE c a aL=>Pl 1<|ng<|Pl 1<|nt<|sq<|sg<|Pl 3<|cu 4 [60] 64 (((!(decide (256<((b.length:Nat) : Int))))&&(decide (256<(((b++(ls.getD k [])).length:Nat) : Int))))) (fun K bu=>?_) ?_
 refine bl 60 ((!(decide (256<((b.length:Nat) : Int))))) (fun J=>?_) (fun J=>?_)
 have aN:(decide (256<((b.length:Nat) : Int)))=false:=by simpa using J
 have cJ:=of_decide_eq_false aN
 exact Pl 4<|ce bu (decide (256<(((b++(ls.getD k [])).length:Nat) : Int))) (by rw[J];rfl)
 have aN:(decide (256<((b.length:Nat) : Int)))=true:=by simpa using J
 have cJ:=of_decide_eq_true aN
 exact Pl 4<|ce bu false (by rw[J];rfl)
 refine nt<|?_
 have X:=ut G a (aM (cC C lr) av)
 refine cb (((!(decide (256<((b.length:Nat) : Int))))&&(decide (256<(((b++(ls.getD k [])).length:Nat) : Int))))) (fun L=>?_) (fun L=>?_)
 have cL:=(aO L).1
 have aP:=(aO L).2
 have cM:(decide (256<((b.length:Nat) : Int)))=false:=by simpa using cL
 have q58anp:=of_decide_eq_false cM
 have eF:=of_decide_eq_true aP
 refine go<|Pl 2<|L0<|Oc<|m6 (i6 (dir:=1) (ended:=false) (c).rd (by(try simp only[List.length_append]);omega)) fun cN cO eG bv eH eI r=>Pl 1<|nt<|sq<|sg<|Pl 3<|L0<|fR ls.length k aF (by omega)<|?_
 have aR:=aE X r
 refine L0<|cY (p:=⟨aw,aC+k,none⟩) (v:=.slice H ((ls.getD k []).length) I) (uc aR aG)<|?_
 have bw:=aJ.upd i (aE a r) (bi (bH (aJ.cells i) C (by decide)) am) (fun x hx=>(bi ((bU u) x hx) am))
 refine L0<|Oc (args:=#[.pointer (some ⟨g,0,none⟩),.slice H ((ls.getD k []).length) I])<|?_
 refine(fi (kO 1 b (ls.getD k [])) bw (aQ.old aH aR) (by have y:=eq (ls:=ls) (k:=k) (by omega);omega)).mono ?_
 rintro _ eJ ⟨eK,cP,cQ,cR,rfl,cS,cT,cU,eL,B⟩
 refine⟨_,rfl,?_⟩
 have bz:=(dB.own cS)
 obtain⟨cV,cW,rfl,eM,eO⟩:=aB.shape bz.rd
 refine Pl 1<|?_
 refine L0<|Oc (args:=#[.slice cV ((e8 b (ls.getD k [])).length) cW,.slice cN ((cl 1 (b++(ls.getD k [])) false).length) cO])<|m1 (c5 (xs:=(e8 b (ls.getD k []))) (ys:=(cl 1 (b++(ls.getD k [])) false)) (bz).rd ((ax bv B (fun x hx=>(aa (fun e=>(ay (aJ.lt F) (le f a.size) bv) (e▸hx)) am)) (gh.upd B (ah (aJ.safe bw _ (by decide)) aA)))).rd) fun eP D=>Pl 1<|nt<|?_
 have aS:=aE B D
 have bA:=ud aR aS (le l.size t)
 refine cb ((!(decide ((e8 b (ls.getD k []))=(cl 1 (b++(ls.getD k [])) false))))) (fun aT=>?_) (fun aT=>?_)
 have Y:(decide ((e8 b (ls.getD k []))=(cl 1 (b++(ls.getD k [])) false)))=false:=by simpa using aT
 have cX:=of_decide_eq_false Y
 refine sg<|Pl 1<|nt<|rt<|tr<|br<|tr<|tr<|br<|tr<|rr (.bool false)<|?_
 have hs:false=true:=by exfalso;exact of_decide_eq_false Y (nk L)
 rw[hs]
 exact⟨rfl,bA⟩
 have Y:(decide ((e8 b (ls.getD k []))=(cl 1 (b++(ls.getD k [])) false)))=true:=by simpa using aT
 have cX:=of_decide_eq_true Y
 refine aX<|sg<|Pl 3<|nt<|sq<|sg<|Pl 2<|nt<|ct aP<|?_
 refine go<|Pl 1<|nt<|sq<|sg<|Pl 1<|?_
 have Z:=aJ.upd cT D am (fun x hx=>am)
 refine L0<|Oc<|m1 (ca Z) fun eQ m=>Pl 2<|nt<|?_
 have M:=aE bA m
 refine cb (((((du 1 (b++(ls.getD k []))).held.length:Nat) : Int)!=0)) (fun a0=>?_) (fun a0=>?_)
 have cZ:=al a0
 refine sg<|Pl 1<|nt<|rt<|tr<|br<|tr<|tr<|br<|tr<|rr (.bool false)<|?_
 have hs:false=true:=by exfalso;exact al a0 (gv aP)
 rw[hs]
 exact⟨rfl,M⟩
 have cZ:=ae a0
 refine aX<|sq<|sg<|Pl 2<|?_
 refine jf (eN.at_ (eN.old hT M) k (by omega)) fun d0 d1 d2 d3=>L0<|fR ts.length k d2 (by omega)<|L0<|cY (p:=⟨d0,d1+k,none⟩) (v:=.bool (ts.getD k false)) d3<|Pl 1<|nt<|cb ((!(ts.getD k false))) (fun aU=>?_) (fun aU=>?_)
 have d4:(ts.getD k false)=false:=by simpa using aU
 refine xt<|tx<|bx<|tn<|go<|Pl 1<|L0<|Oi (((k:Nat) : Int)+1)<|Pl 1<|nl<|?_
 exact ek ((k+1),(b++(ls.getD k [])),aI,aK,cP,cQ,cR) ⟨M,(le (le (le (le (le f a.size) r.size) B.size) D.size) m.size),(aJ.upd Z m am (fun x hx=>am)),(ax c (uz r (aE aS m)) (fun x hx=>(aa (fun e=>(bH (aJ.cells (aJ.upd i a (bi (bH (aJ.cells i) C (by decide)) am) (fun x hx=>(bi ((bU u) x hx) am)))) c (by decide)) (e▸hx)) am)) (fun _ _ h=>h)),(by(try dsimp only);omega),(by(try dsimp only);have y:=bG (ls:=ls) (k:=k) (by omega);(try simp only[List.length_append,List.length_nil]);omega),(bU (cK cU (bU (cK aL u (aJ.row i) lr)) c r.size))⟩ (by omega)
 have d4:(ts.getD k false)=true:=by simpa using aU
 refine aX<|sg<|Pl 1<|nt<|sq<|sg<|Pl 3<|nt<|cb ((decide ((((b++(ls.getD k [])).length:Nat) : Int)≤256))) (fun N=>?_) (fun N=>?_)
 have d5:=of_decide_eq_true N
 refine go<|Pl 2<|?_
 refine L0<|Oc<|m6 (i6 (dir:=1) (ended:=true) ((ax c (uz r (aE aS m)) (fun x hx=>(aa (fun e=>(bH (aJ.cells (aJ.upd i a (bi (bH (aJ.cells i) C (by decide)) am) (fun x hx=>(bi ((bU u) x hx) am)))) c (by decide)) (e▸hx)) am)) (fun _ _ h=>h))).rd (by(try simp only[List.length_append]);omega)) fun d6 d7 eR bC eS eT aV=>Pl 1<|nt<|sq<|sg<|Pl 1<|?_
 have bD:=aJ.upd Z (aE m aV) am (fun x hx=>am)
 refine L0<|Oc (args:=#[.pointer (some ⟨g,0,none⟩)])<|?_
 refine(cv (ed 1 (b++(ls.getD k []))) bD).mono ?_
 rintro _ eU ⟨eV,d8,d9,da,rfl,db,dd,eW,eX,a1⟩
 refine⟨_,rfl,?_⟩
 have bE:=(dB.own db)
 obtain⟨de,df,rfl,eY,eZ⟩:=aB.shape bE.rd
 refine Pl 1<|?_
 refine L0<|Oc (args:=#[.slice de ((bO 1 (b++(ls.getD k []))).length) df,.slice d6 ((cl 1 (b++(ls.getD k [])) true).length) d7])<|m1 (c5 (xs:=(bO 1 (b++(ls.getD k [])))) (ys:=(cl 1 (b++(ls.getD k [])) true)) (bE).rd ((ax bC a1 (fun x hx=>(aa (fun e=>(ay (aJ.lt F) (le (le (le (le (le f a.size) r.size) B.size) D.size) m.size) bC) (e▸hx)) am)) (gh.upd a1 (ah (aJ.safe bD _ (by decide)) aA)))).rd) fun f0 aW=>Pl 2<|?_
 have bF:=ud M (uz aV (aE a1 aW)) (le l.size t)
 refine bl 101 ((!(decide ((bO 1 (b++(ls.getD k [])))=(cl 1 (b++(ls.getD k [])) true))))) (fun aY=>?_) (fun aY=>?_)
 have a2:(decide ((bO 1 (b++(ls.getD k [])))=(cl 1 (b++(ls.getD k [])) true)))=false:=by simpa using aY
 have dg:=of_decide_eq_false a2
 refine Pl 4<|nt<|c1<|sg<|Pl 1<|nt<|rt<|tr<|br<|tr<|tr<|?_
 refine br<|tr<|rr (.bool false)<|?_
 have hs:false=true:=by exfalso;exact of_decide_eq_false a2 (fL N)
 rw[hs]
 exact⟨rfl,bF⟩
 have a2:(decide ((bO 1 (b++(ls.getD k [])))=(cl 1 (b++(ls.getD k [])) true)))=true:=by simpa using aY
 have dg:=of_decide_eq_true a2
 refine Pl 1<|?_
 have bI:=aJ.upd dd aW am (fun x hx=>am)
 refine L1<|Oc<|m1 (ca bI) fun f1 aZ=>Pl 2<|nt<|?_
 have bJ:=aE bF aZ
 refine cb (((((du 1 []).held.length:Nat) : Int)!=0)) (fun a3=>?_) (fun a3=>?_)
 have dh:=al a3
 refine sg<|Pl 1<|nt<|rt<|tr<|br<|tr<|tr<|br<|tr<|rr (.bool false)<|?_
 have hs:false=true:=by exfalso;exact al a3 rfl
 rw[hs]
 exact⟨rfl,bJ⟩
 have dh:=ae a3
 refine aX<|go<|Pl 1<|nl<|bn<|tn<|go<|Pl 1<|L0<|Oi (((k:Nat) : Int)+1)<|Pl 1<|nl<|?_
 exact ek ((k+1),[],none,0,d8,d9,da) ⟨bJ,(le (le (le (le (le (le (le (le (le f a.size) r.size) B.size) D.size) m.size) aV.size) a1.size) aW.size) aZ.size),(aJ.upd bI aZ am (fun x hx=>am)),(b6.nil w.heap.size _ _ iw _),(by(try dsimp only);omega),(by(try dsimp only);have y:=bG (ls:=ls) (k:=k) (by omega);(try simp only[List.length_append,List.length_nil]);omega),(fun x hx=>by simp[ob] at hx)⟩ (by omega)
 have d5:=of_decide_eq_false N
 refine aX<|sq<|sg<|Pl 1<|?_
 refine L0<|Oc (args:=#[.pointer (some ⟨g,0,none⟩)])<|?_
 refine(cv (ed 1 (b++(ls.getD k []))) (aJ.upd Z m am (fun x hx=>am))).mono ?_
 rintro _ f2 ⟨f3,di,dj,dk,rfl,dl,dm,f4,f5,bK⟩
 refine⟨_,rfl,?_⟩
 have bL:=(dB.own dl)
 obtain⟨dn,dp,rfl,f6,f7⟩:=aB.shape bL.rd
 refine Pl 1<|L0<|Oc (args:=#[.slice dn ((bO 1 (b++(ls.getD k []))).length) dp,.slice none 0 0])<|m1 (c5 (xs:=(bO 1 (b++(ls.getD k [])))) (ys:=[]) (bL).rd (aB.nil true _ _ (gh true) _)) fun f8 b0=>Pl 2<|?_
 have bM:=ud M (aE bK b0) (le l.size t)
 refine bl 101 ((!(decide ((bO 1 (b++(ls.getD k [])))=[])))) (fun b1=>?_) (fun b1=>?_)
 have a4:(decide ((bO 1 (b++(ls.getD k [])))=[]))=false:=by simpa using b1
 have dq:=of_decide_eq_false a4
 refine Pl 4<|nt<|c1<|sg<|Pl 1<|nt<|rt<|tr<|br<|tr<|tr<|?_
 refine br<|tr<|rr (.bool false)<|?_
 have hs:false=true:=by exfalso;exact of_decide_eq_false a4 (fC N)
 rw[hs]
 exact⟨rfl,bM⟩
 have a4:(decide ((bO 1 (b++(ls.getD k [])))=[]))=true:=by simpa using b1
 have dq:=of_decide_eq_true a4
 refine Pl 1<|?_
 have bN:=aJ.upd dm b0 am (fun x hx=>am)
 refine L1<|Oc<|m1 (ca bN) fun f9 b2=>Pl 2<|nt<|?_
 have bP:=aE bM b2
 refine cb (((((du 1 []).held.length:Nat) : Int)!=0)) (fun a5=>?_) (fun a5=>?_)
 have dr:=al a5
 refine sg<|Pl 1<|nt<|rt<|tr<|br<|tr<|tr<|br<|tr<|rr (.bool false)<|?_
 have hs:false=true:=by exfalso;exact al a5 rfl
 rw[hs]
 exact⟨rfl,bP⟩
 have dr:=ae a5
 refine aX<|go<|Pl 1<|nl<|bn<|tn<|go<|Pl 1<|L0<|Oi (((k:Nat) : Int)+1)<|Pl 1<|nl<|?_
 exact ek ((k+1),[],none,0,di,dj,dk) ⟨bP,(le (le (le (le (le (le (le (le f a.size) r.size) B.size) D.size) m.size) bK.size) b0.size) b2.size),(aJ.upd bN b2 am (fun x hx=>am)),(b6.nil w.heap.size _ _ iw _),(by(try dsimp only);omega),(by(try dsimp only);have y:=bG (ls:=ls) (k:=k) (by omega);(try simp only[List.length_append,List.length_nil]);omega),(fun x hx=>by simp[ob] at hx)⟩ (by omega)
 refine aX<|sq<|sg<|Pl 3<|L0<|fR ls.length k aF (by omega)<|L0<|cY (p:=⟨aw,aC+k,none⟩) (v:=.slice H ((ls.getD k []).length) I) (uc X aG)<|?_
 have O:=aJ.upd i a (bi (bH (aJ.cells i) C (by decide)) am) (fun x hx=>(bi ((bU u) x hx) am))
 refine L0<|Oc (args:=#[.pointer (some ⟨g,0,none⟩),.slice H ((ls.getD k []).length) I])<|?_
 refine(fi (kO 1 b (ls.getD k [])) O (aQ.old aH X) (by have y:=eq (ls:=ls) (k:=k) (by omega);omega)).mono ?_
 rintro _ fa ⟨fb,bQ,bR,bS,rfl,ds,bT,bV,fc,s⟩
 refine⟨_,rfl,?_⟩
 have bW:=(dB.own ds)
 obtain⟨dt,dv,rfl,fd,fe⟩:=aB.shape bW.rd
 refine Pl 1<|L0<|Oc (args:=#[.slice dt ((e8 b (ls.getD k [])).length) dv,.slice none 0 0])<|m1 (c5 (xs:=(e8 b (ls.getD k []))) (ys:=[]) (bW).rd (aB.nil true _ _ (gh true) _)) fun ff j=>Pl 1<|nt<|?_
 have P:=aE s j
 have b3:=ud X P (le l.size t)
 refine cb ((!(decide ((e8 b (ls.getD k []))=[])))) (fun b4=>?_) (fun b4=>?_)
 have a6:(decide ((e8 b (ls.getD k []))=[]))=false:=by simpa using b4
 have dw:=of_decide_eq_false a6
 refine sg<|Pl 1<|nt<|rt<|tr<|br<|tr<|tr<|br<|tr<|rr (.bool false)<|?_
 have hs:false=true:=by exfalso;exact of_decide_eq_false a6 (nH L)
 rw[hs]
 exact⟨rfl,b3⟩
 have a6:(decide ((e8 b (ls.getD k []))=[]))=true:=by simpa using b4
 have dw:=of_decide_eq_true a6
 refine aX<|sg<|Pl 3<|nt<|sq<|sg<|Pl 2<|nt<|cb ((decide (256<(((b++(ls.getD k [])).length:Nat) : Int)))) (fun Q=>?_) (fun Q=>?_)
 have dx:=of_decide_eq_true Q
 refine go<|Pl 1<|nt<|sq<|sg<|Pl 1<|?_
 have a7:=aJ.upd bT j am (fun x hx=>am)
 refine L0<|Oc<|m1 (ca a7) fun fg o=>Pl 2<|nt<|?_
 have S:=aE b3 o
 refine cb (((((du 1 (b++(ls.getD k []))).held.length:Nat) : Int)!=0)) (fun a8=>?_) (fun a8=>?_)
 have dy:=al a8
 refine sg<|Pl 1<|nt<|rt<|tr<|br<|tr<|tr<|br<|tr<|rr (.bool false)<|?_
 have hs:false=true:=by exfalso;exact al a8 (gv Q)
 rw[hs]
 exact⟨rfl,S⟩
 have dy:=ae a8
 refine aX<|sq<|sg<|Pl 2<|?_
 refine jf (eN.at_ (eN.old hT S) k (by omega)) fun dz dA dC dD=>L0<|fR ts.length k dC (by omega)<|L0<|cY (p:=⟨dz,dA+k,none⟩) (v:=.bool (ts.getD k false)) dD<|Pl 1<|nt<|cb ((!(ts.getD k false))) (fun b5=>?_) (fun b5=>?_)
 have dE:(ts.getD k false)=false:=by simpa using b5
 refine xt<|tx<|bx<|tn<|go<|Pl 1<|L0<|Oi (((k:Nat) : Int)+1)<|Pl 1<|nl<|?_
 exact ek ((k+1),(b++(ls.getD k [])),aI,aK,bQ,bR,bS) ⟨S,(le (le (le (le f a.size) s.size) j.size) o.size),(aJ.upd a7 o am (fun x hx=>am)),(ax c (aE P o) (fun x hx=>(aa (fun e=>(bH (aJ.cells O) c (by decide)) (e▸hx)) am)) (fun _ _ h=>h)),(by(try dsimp only);omega),(by(try dsimp only);have y:=bG (ls:=ls) (k:=k) (by omega);(try simp only[List.length_append,List.length_nil]);omega),(bU (cK bV (bU (cK aL u (aJ.row i) lr)) c lr))⟩ (by omega)
 have dE:(ts.getD k false)=true:=by simpa using b5
 refine aX<|sg<|Pl 1<|nt<|sq<|sg<|Pl 3<|nt<|cb ((decide ((((b++(ls.getD k [])).length:Nat) : Int)≤256))) (fun U=>?_) (fun U=>?_)
 have dF:=of_decide_eq_true U
 refine go<|Pl 2<|?_
 refine L0<|Oc<|m6 (i6 (dir:=1) (ended:=true) ((ax c (aE P o) (fun x hx=>(aa (fun e=>(bH (aJ.cells O) c (by decide)) (e▸hx)) am)) (fun _ _ h=>h))).rd (by(try simp only[List.length_append]);omega)) fun dG dH fh bX fj fk b7=>Pl 1<|nt<|sq<|sg<|Pl 1<|?_
 have bY:=aJ.upd a7 (aE o b7) am (fun x hx=>am)
 refine L0<|Oc (args:=#[.pointer (some ⟨g,0,none⟩)])<|?_
 refine(cv (ed 1 (b++(ls.getD k []))) bY).mono ?_
 rintro _ fl ⟨fm,dI,dJ,dK,rfl,dL,dM,fn,fo,a9⟩
 refine⟨_,rfl,?_⟩
 have bZ:=(dB.own dL)
 obtain⟨dN,dO,rfl,fq,fr⟩:=aB.shape bZ.rd
 refine Pl 1<|?_
 refine L0<|Oc (args:=#[.slice dN ((bO 1 (b++(ls.getD k []))).length) dO,.slice dG ((cl 1 (b++(ls.getD k [])) true).length) dH])<|m1 (c5 (xs:=(bO 1 (b++(ls.getD k [])))) (ys:=(cl 1 (b++(ls.getD k [])) true)) (bZ).rd ((ax bX a9 (fun x hx=>(aa (fun e=>(ay (aJ.lt F) (le (le (le (le f a.size) s.size) j.size) o.size) bX) (e▸hx)) am)) (gh.upd a9 (ah (aJ.safe bY _ (by decide)) aA)))).rd) fun ft b8=>Pl 2<|?_
 have c2:=ud S (uz b7 (aE a9 b8)) (le l.size t)
 refine bl 101 ((!(decide ((bO 1 (b++(ls.getD k [])))=(cl 1 (b++(ls.getD k [])) true))))) (fun b9=>?_) (fun b9=>?_)
 have ab:(decide ((bO 1 (b++(ls.getD k [])))=(cl 1 (b++(ls.getD k [])) true)))=false:=by simpa using b9
 have dP:=of_decide_eq_false ab
 refine Pl 4<|nt<|c1<|sg<|Pl 1<|nt<|rt<|tr<|br<|tr<|tr<|?_
 refine br<|tr<|rr (.bool false)<|?_
 have hs:false=true:=by exfalso;exact of_decide_eq_false ab (fL U)
 rw[hs]
 exact⟨rfl,c2⟩
 have ab:(decide ((bO 1 (b++(ls.getD k [])))=(cl 1 (b++(ls.getD k [])) true)))=true:=by simpa using b9
 have dP:=of_decide_eq_true ab
 refine Pl 1<|?_
 have c3:=aJ.upd dM b8 am (fun x hx=>am)
 refine L1<|Oc<|m1 (ca c3) fun fu ba=>Pl 2<|nt<|?_
 have c4:=aE c2 ba
 refine cb (((((du 1 []).held.length:Nat) : Int)!=0)) (fun ac=>?_) (fun ac=>?_)
 have dQ:=al ac
 refine sg<|Pl 1<|nt<|rt<|tr<|br<|tr<|tr<|br<|tr<|rr (.bool false)<|?_
 have hs:false=true:=by exfalso;exact al ac rfl
 rw[hs]
 exact⟨rfl,c4⟩
 have dQ:=ae ac
 refine aX<|go<|Pl 1<|nl<|bn<|tn<|go<|Pl 1<|L0<|Oi (((k:Nat) : Int)+1)<|Pl 1<|nl<|?_
 exact ek ((k+1),[],none,0,dI,dJ,dK) ⟨c4,(le (le (le (le (le (le (le (le f a.size) s.size) j.size) o.size) b7.size) a9.size) b8.size) ba.size),(aJ.upd c3 ba am (fun x hx=>am)),(b6.nil w.heap.size _ _ iw _),(by(try dsimp only);omega),(by(try dsimp only);have y:=bG (ls:=ls) (k:=k) (by omega);(try simp only[List.length_append,List.length_nil]);omega),(fun x hx=>by simp[ob] at hx)⟩ (by omega)
 have dF:=of_decide_eq_false U
 refine aX<|sq<|sg<|Pl 1<|?_
 refine L0<|Oc (args:=#[.pointer (some ⟨g,0,none⟩)])<|?_
 refine(cv (ed 1 (b++(ls.getD k []))) (aJ.upd a7 o am (fun x hx=>am))).mono ?_
 rintro _ fv ⟨fw,dR,dS,dT,rfl,dU,dV,fx,fy,c6⟩
 refine⟨_,rfl,?_⟩
 have c7:=(dB.own dU)
 obtain⟨dW,dX,rfl,fz,fA⟩:=aB.shape c7.rd
 refine Pl 1<|L0<|Oc (args:=#[.slice dW ((bO 1 (b++(ls.getD k []))).length) dX,.slice none 0 0])<|m1 (c5 (xs:=(bO 1 (b++(ls.getD k [])))) (ys:=[]) (c7).rd (aB.nil true _ _ (gh true) _)) fun fB bb=>Pl 2<|?_
 have c9:=ud S (aE c6 bb) (le l.size t)
 refine bl 101 ((!(decide ((bO 1 (b++(ls.getD k [])))=[])))) (fun bc=>?_) (fun bc=>?_)
 have ad:(decide ((bO 1 (b++(ls.getD k [])))=[]))=false:=by simpa using bc
 have dY:=of_decide_eq_false ad
 refine Pl 4<|nt<|c1<|sg<|Pl 1<|nt<|rt<|tr<|br<|tr<|tr<|?_
 refine br<|tr<|rr (.bool false)<|?_
 have hs:false=true:=by exfalso;exact of_decide_eq_false ad (fC U)
 rw[hs]
 exact⟨rfl,c9⟩
 have ad:(decide ((bO 1 (b++(ls.getD k [])))=[]))=true:=by simpa using bc
 have dY:=of_decide_eq_true ad
 refine Pl 1<|?_
 have cc:=aJ.upd dV bb am (fun x hx=>am)
 refine L1<|Oc<|m1 (ca cc) fun fD bd=>Pl 2<|nt<|?_
 have cd:=aE c9 bd
 refine cb (((((du 1 []).held.length:Nat) : Int)!=0)) (fun af=>?_) (fun af=>?_)
 have dZ:=al af
 refine sg<|Pl 1<|nt<|rt<|tr<|br<|tr<|tr<|br<|tr<|rr (.bool false)<|?_
 have hs:false=true:=by exfalso;exact al af rfl
 rw[hs]
 exact⟨rfl,cd⟩
 have dZ:=ae af
 refine aX<|go<|Pl 1<|nl<|bn<|tn<|go<|Pl 1<|L0<|Oi (((k:Nat) : Int)+1)<|Pl 1<|nl<|?_
 exact ek ((k+1),[],none,0,dR,dS,dT) ⟨cd,(le (le (le (le (le (le (le f a.size) s.size) j.size) o.size) c6.size) bb.size) bd.size),(aJ.upd cc bd am (fun x hx=>am)),(b6.nil w.heap.size _ _ iw _),(by(try dsimp only);omega),(by(try dsimp only);have y:=bG (ls:=ls) (k:=k) (by omega);(try simp only[List.length_append,List.length_nil]);omega),(fun x hx=>by simp[ob] at hx)⟩ (by omega)
 have dx:=of_decide_eq_false Q
 refine aX<|sq<|sg<|Pl 1<|?_
 have ag:=aJ.upd bT j am (fun x hx=>am)
 refine L0<|Oc<|m1 (ca ag) fun fE q=>Pl 2<|nt<|?_
 have V:=aE b3 q
 refine cb (((((du 1 (b++(ls.getD k []))).held.length:Nat) : Int)!=(((b++(ls.getD k [])).length:Nat) : Int))) (fun ai=>?_) (fun ai=>?_)
 have e0:=al ai
 refine sg<|Pl 1<|nt<|rt<|tr<|br<|tr<|tr<|br<|tr<|rr (.bool false)<|?_
 have hs:false=true:=by exfalso;exact al ai (nw Q)
 rw[hs]
 exact⟨rfl,V⟩
 have e0:=ae ai
 refine aX<|sq<|sg<|Pl 2<|?_
 refine jf (eN.at_ (eN.old hT V) k (by omega)) fun e1 e2 e4 e5=>L0<|fR ts.length k e4 (by omega)<|L0<|cY (p:=⟨e1,e2+k,none⟩) (v:=.bool (ts.getD k false)) e5<|Pl 1<|nt<|cb ((!(ts.getD k false))) (fun be=>?_) (fun be=>?_)
 have e6:(ts.getD k false)=false:=by simpa using be
 refine xt<|tx<|bx<|tn<|go<|Pl 1<|L0<|Oi (((k:Nat) : Int)+1)<|Pl 1<|nl<|?_
 exact ek ((k+1),(b++(ls.getD k [])),aI,aK,bQ,bR,bS) ⟨V,(le (le (le (le f a.size) s.size) j.size) q.size),(aJ.upd ag q am (fun x hx=>am)),(ax c (aE P q) (fun x hx=>(aa (fun e=>(bH (aJ.cells O) c (by decide)) (e▸hx)) am)) (fun _ _ h=>h)),(by(try dsimp only);omega),(by(try dsimp only);have y:=bG (ls:=ls) (k:=k) (by omega);(try simp only[List.length_append,List.length_nil]);omega),(bU (cK bV (bU (cK aL u (aJ.row i) lr)) c lr))⟩ (by omega)
 have e6:(ts.getD k false)=true:=by simpa using be
 refine aX<|sg<|Pl 1<|nt<|sq<|sg<|Pl 3<|nt<|cb ((decide ((((b++(ls.getD k [])).length:Nat) : Int)≤256))) (fun W=>?_) (fun W=>?_)
 have e7:=of_decide_eq_true W
 refine go<|Pl 2<|?_
 refine L0<|Oc<|m6 (i6 (dir:=1) (ended:=true) ((ax c (aE P q) (fun x hx=>(aa (fun e=>(bH (aJ.cells O) c (by decide)) (e▸hx)) am)) (fun _ _ h=>h))).rd (by(try simp only[List.length_append]);omega)) fun e9 ea fF cf fG fH bf=>Pl 1<|nt<|sq<|sg<|Pl 1<|?_
 have cg:=aJ.upd ag (aE q bf) am (fun x hx=>am)
 refine L0<|Oc (args:=#[.pointer (some ⟨g,0,none⟩)])<|?_
 refine(cv (ed 1 (b++(ls.getD k []))) cg).mono ?_
 rintro _ fI ⟨fJ,eb,ec,ee,rfl,ef,eg,fK,fM,aj⟩
 refine⟨_,rfl,?_⟩
 have ci:=(dB.own ef)
 obtain⟨eh,ei,rfl,fN,fO⟩:=aB.shape ci.rd
 refine Pl 1<|?_
 refine L0<|Oc (args:=#[.slice eh ((bO 1 (b++(ls.getD k []))).length) ei,.slice e9 ((cl 1 (b++(ls.getD k [])) true).length) ea])<|m1 (c5 (xs:=(bO 1 (b++(ls.getD k [])))) (ys:=(cl 1 (b++(ls.getD k [])) true)) (ci).rd ((ax cf aj (fun x hx=>(aa (fun e=>(ay (aJ.lt F) (le (le (le (le f a.size) s.size) j.size) q.size) cf) (e▸hx)) am)) (gh.upd aj (ah (aJ.safe cg _ (by decide)) aA)))).rd) fun fP bg=>Pl 2<|?_
 have cj:=ud V (uz bf (aE aj bg)) (le l.size t)
 refine bl 101 ((!(decide ((bO 1 (b++(ls.getD k [])))=(cl 1 (b++(ls.getD k [])) true))))) (fun bh=>?_) (fun bh=>?_)
 have ak:(decide ((bO 1 (b++(ls.getD k [])))=(cl 1 (b++(ls.getD k [])) true)))=false:=by simpa using bh
 have ej:=of_decide_eq_false ak
 refine Pl 4<|nt<|c1<|sg<|Pl 1<|nt<|rt<|tr<|br<|tr<|tr<|?_
 refine br<|tr<|rr (.bool false)<|?_
 have hs:false=true:=by exfalso;exact of_decide_eq_false ak (fL W)
 rw[hs]
 exact⟨rfl,cj⟩
 have ak:(decide ((bO 1 (b++(ls.getD k [])))=(cl 1 (b++(ls.getD k [])) true)))=true:=by simpa using bh
 have ej:=of_decide_eq_true ak
 refine Pl 1<|?_
 have ck:=aJ.upd eg bg am (fun x hx=>am)
 refine L1<|Oc<|m1 (ca ck) fun fQ bj=>Pl 2<|nt<|?_
 have cm:=aE cj bj
 refine cb (((((du 1 []).held.length:Nat) : Int)!=0)) (fun an=>?_) (fun an=>?_)
 have el:=al an
 refine sg<|Pl 1<|nt<|rt<|tr<|br<|tr<|tr<|br<|tr<|rr (.bool false)<|?_
 have hs:false=true:=by exfalso;exact al an rfl
 rw[hs]
 exact⟨rfl,cm⟩
 have el:=ae an
 refine aX<|go<|Pl 1<|nl<|bn<|tn<|go<|Pl 1<|L0<|Oi (((k:Nat) : Int)+1)<|Pl 1<|nl<|?_
 exact ek ((k+1),[],none,0,eb,ec,ee) ⟨cm,(le (le (le (le (le (le (le (le f a.size) s.size) j.size) q.size) bf.size) aj.size) bg.size) bj.size),(aJ.upd ck bj am (fun x hx=>am)),(b6.nil w.heap.size _ _ iw _),(by(try dsimp only);omega),(by(try dsimp only);have y:=bG (ls:=ls) (k:=k) (by omega);(try simp only[List.length_append,List.length_nil]);omega),(fun x hx=>by simp[ob] at hx)⟩ (by omega)
 have e7:=of_decide_eq_false W
 refine aX<|sq<|sg<|Pl 1<|?_
 refine L0<|Oc (args:=#[.pointer (some ⟨g,0,none⟩)])<|?_
 refine(cv (ed 1 (b++(ls.getD k []))) (aJ.upd ag q am (fun x hx=>am))).mono ?_
 rintro _ fS ⟨fT,em,eo,ep,rfl,er,es,fU,fV,cn⟩
 refine⟨_,rfl,?_⟩
 have co:=(dB.own er)
 obtain⟨et,eu,rfl,fW,fX⟩:=aB.shape co.rd
 refine Pl 1<|L0<|Oc (args:=#[.slice et ((bO 1 (b++(ls.getD k []))).length) eu,.slice none 0 0])<|m1 (c5 (xs:=(bO 1 (b++(ls.getD k [])))) (ys:=[]) (co).rd (aB.nil true _ _ (gh true) _)) fun fY bm=>Pl 2<|?_
 have cp:=ud V (aE cn bm) (le l.size t)
 refine bl 101 ((!(decide ((bO 1 (b++(ls.getD k [])))=[])))) (fun bo=>?_) (fun bo=>?_)
 have ao:(decide ((bO 1 (b++(ls.getD k [])))=[]))=false:=by simpa using bo
 have ev:=of_decide_eq_false ao
 refine Pl 4<|nt<|c1<|sg<|Pl 1<|nt<|rt<|tr<|br<|tr<|tr<|?_
 refine br<|tr<|rr (.bool false)<|?_
 have hs:false=true:=by exfalso;exact of_decide_eq_false ao (fC W)
 rw[hs]
 exact⟨rfl,cp⟩
 have ao:(decide ((bO 1 (b++(ls.getD k [])))=[]))=true:=by simpa using bo
 have ev:=of_decide_eq_true ao
 refine Pl 1<|?_
 have cq:=aJ.upd es bm am (fun x hx=>am)
 refine L1<|Oc<|m1 (ca cq) fun fZ bp=>Pl 2<|nt<|?_
 have cr:=aE cp bp
 refine cb (((((du 1 []).held.length:Nat) : Int)!=0)) (fun ap=>?_) (fun ap=>?_)
 have ew:=al ap
 refine sg<|Pl 1<|nt<|rt<|tr<|br<|tr<|tr<|br<|tr<|rr (.bool false)<|?_
 have hs:false=true:=by exfalso;exact al ap rfl
 rw[hs]
 exact⟨rfl,cr⟩
 have ew:=ae ap
 refine aX<|go<|Pl 1<|nl<|bn<|tn<|go<|Pl 1<|L0<|Oi (((k:Nat) : Int)+1)<|Pl 1<|nl<|?_
 exact ek ((k+1),[],none,0,em,eo,ep) ⟨cr,(le (le (le (le (le (le (le f a.size) s.size) j.size) q.size) cn.size) bm.size) bp.size),(aJ.upd cq bp am (fun x hx=>am)),(b6.nil w.heap.size _ _ iw _),(by(try dsimp only);omega),(by(try dsimp only);have y:=bG (ls:=ls) (k:=k) (by omega);(try simp only[List.length_append,List.length_nil]);omega),(fun x hx=>by simp[ob] at hx)⟩ (by omega)
 have cI:=of_decide_eq_false au
 refine xt<|tx<|tx<|bx<|tn<|sg<|Pl 2<|nt<|rt<|rr (.bool true)<|?_
 exact⟨rfl,G⟩
theorem iW{w:World}{dir:Int}(hd:¬ (dir=0∨dir=1)){mA:Md}{A:Option Addr}{cpA:Nat}{ls:List (List Int)}(hA:fs mA w (.slice A ls.length cpA) ls)(hbb:∀ x,x∈ls→x.length≤140737488355328){mT:Md}{T:Option Addr}{cpT:Nat}{ts:List Bool}(hT:eN mT w (.slice T ts.length cpT) ts) :
    Calls Tryz.prog 7 #[.int .i64 dir,.slice A ls.length cpA,.slice T ts.length cpT] w (c8 (.bool true) w):=by
 have hzA:=aB.len hA
 have hzT:=aB.len hT
 have e0:(dir != 0)=true:=by simp;omega
 have e1:(dir != 1)=true:=by simp;omega
 refine en 107 Tryz.func7 rfl<|sg<|Pl 1<|ng<|L0<|Oc<|m1 (@kp _) fun k c=>Pl 1<|ng<|?_
 refine Pl 1<|?_
 refine L0<|Oc<|m1 (gX (fs.old hA c) hbb) fun l f=>Pl 1<|nt<|sq<|sg<|Pl 3<|cu 6 [20] 26 (((!(dc ls))||(decide (((ts.length:Nat) : Int)<((ls.length:Nat) : Int))))) (fun K d=>?_) ?_
 refine bl 20 ((!(dc ls))) (fun a=>?_) (fun a=>?_)
 have g:(dc ls)=false:=by simpa using a
 exact Pl 6<|ce d true (by rw[a];rfl)
 have g:(dc ls)=true:=by simpa using a
 exact Pl 6<|ce d (decide (((ts.length:Nat) : Int)<((ls.length:Nat) : Int))) (by rw[a];rfl)
 refine nt<|?_
 have e:=aE c f
 refine cb (((!(dc ls))||(decide (((ts.length:Nat) : Int)<((ls.length:Nat) : Int))))) (fun b=>?_) (fun b=>?_)
 refine sg<|Pl 2<|nt<|rt<|tr<|rr (.bool true)<|?_
 exact⟨rfl,e⟩
 have h:=(aD b).1
 have i:=(aD b).2
 have m:(dc ls)=true:=by simpa using h
 have n:=of_decide_eq_false i
 refine aX<|sg<|Pl 1<|L0<|Oc<|m1 (pg e0 e1) fun o j=>Pl 1<|nt<|sq<|sg<|Pl 3<|sy 32 e0<|?_
 refine Pl 3<|nt<|ct e1<|sg<|Pl 6<|nt<|rt<|tr<|rr (.bool true)<|?_
 exact⟨rfl,(aE e j)⟩
theorem jl{w:World}{dir:Int}{mA:Md}{v:Value}{ls:List (List Int)}(hA:fs mA w v ls)(hbb:∀ x,x∈ls→x.length≤140737488355328){mT:Md}{vT:Value}{ts:List Bool}(hT:eN mT w vT ts) : Calls Tryz.prog 7 #[.int .i64 dir,v,vT] w (c8 (.bool true) w):=by
  obtain⟨A0,cp0,rfl,_,_⟩:=hA.shape
  obtain⟨T0,cT,rfl,_,_⟩:=hT.shape
  by_cases h0:dir=0
  · subst h0;exact iP hA hbb hT
  by_cases h1:dir=1
  · subst h1;exact iM hA hbb hT
  exact iW (by omega) hA hbb hT
open Go.RowKit
section
variable {H:Type}{enc:TypeId × Value→H}{P:Program}{w:World}{base:Nat}{spare:Nat→Bool}{held:Bool}
theorem lK(b off:Nat)(sp:Option Nat)(n:Nat)(h:sp=none) : (⟨b,off,sp⟩ : Addr).add n=⟨b,off+n,none⟩:=fZ b off n sp h
theorem oU{b off:Nat}{sp:Option Nat}{v:Value}(h:w.cell? ⟨b,off,sp⟩=some v) : sp=none:=by
  cases sp with
  | none=>rfl
  | some s =>
    unfold World.cell? at h
    simp at h
    split at h<;>cases h
theorem l6{α:Type}{Pd:DataW H→Prop}{R:World→α→List Value→Prop}{t e:TypeId}{sz fuel:Nat}{cs:List Value}{x:DataW H × List MemPlace}(ht:P.underlying t=some (.slice e))(hsz:P.cellsOf e=sz)(hp:0<sz)
    (hel:∀ n cs' y,cs'.length=sz→DataW.trod enc P w base spare held n e cs'=some y→Pd y.1→∃ x,R w x cs') (hP:∀ elems spare,x.1 = .slice elems spare→∀ d,d∈elems→Pd d) (h:DataW.trod enc P w base spare held fuel t cs=some x) : ∃ v xs,cs=[v]∧aB false e sz R w v xs:=by
  rcases Go.Deep.open_slice ht h with⟨rfl,_⟩|⟨a,len,cap,m,n,D,Pl,rfl,_,hl,hm,hmm,hxe,hx⟩
  · exact⟨_,[],rfl,aB.nil ..⟩
  have hlm:len≤m:=by rw[hmm];split<;>omega
  have key:∀ i:Fin len,∃ y:α × List Value,w.cells? base (a.add (i*sz)) sz=some y.2∧y.2.length=sz∧R w y.1 y.2:=fun i=>by
    obtain⟨cs',h1,h2⟩:=hx i (by omega)
    rw[hsz] at h1
    obtain⟨_,hlen,_⟩:=World.cells?_some h1
    obtain⟨y,hy⟩:=hel n cs' _ hlen h2 (hP _ _ (by rw[hxe]) _ (List.mem_map.2 ⟨i.1,List.mem_range.2 i.2,rfl⟩))
    exact⟨(y,cs'),h1,hlen,hy⟩
  obtain⟨f,hf⟩:=Classical.axiomOfChoice key
  refine⟨_,List.ofFn fun i=>(f i).1,rfl,some a,cap,by simp,by simpa using hl,hm,(fun h=>by cases h),fun hpos=>?_⟩
  have hpos':0<len:=by simpa using hpos
  obtain⟨b,off,sp⟩:=a
  have hsp:sp=none:=by
    obtain⟨h1,h2,_⟩:=hf ⟨0,hpos'⟩
    obtain⟨_,_,h3⟩:=World.cells?_some h1
    have h4:=h3 0 hp
    rw[List.getElem?_eq_getElem (by omega)] at h4
    cases sp with
    | none=>rfl
    | some s =>
      simp[Addr.add] at h4
      exact oU h4
  subst hsp
  have hc:∀ i:Fin len,∀ k u,(f i).2[k]? = some u→w.cell? ⟨b,off+i*sz+k,none⟩=some u:=fun i k u hu=>by
    obtain⟨h1,h2,_⟩:=hf i
    obtain⟨_,_,h3⟩:=World.cells?_some h1
    have hk:k<sz:=by have:=(List.getElem?_eq_some_iff.1 hu).1;omega
    have h4:=h3 k hk
    rw[lK _ _ _ _ rfl,lK _ _ _ _ rfl] at h4
    rw[h4,hu]
  have h0:∃ u,w.cell? ⟨b,off+0*sz+0,none⟩=some u:=by
    obtain⟨_,h2,_⟩:=hf ⟨0,hpos'⟩
    exact⟨_,hc ⟨0,hpos'⟩ 0 _ (List.getElem?_eq_getElem (by omega))⟩
  obtain⟨u,hu⟩:=h0
  unfold World.cell? at hu
  split at hu
  · rename_i cells t' fr hb
    refine⟨b,off,cells,t',fr,rfl,hb,fun h=>(by cases h),fun j y hj=>?_⟩
    have hjl:j<len:=by have:=(List.getElem?_eq_some_iff.1 hj).1;simpa using this
    have hy:(f ⟨j,hjl⟩).1=y:=by
      rw[List.getElem?_ofFn] at hj
      simpa [hjl] using hj
    obtain⟨_,h2,h3⟩:=hf ⟨j,hjl⟩
    refine⟨(f ⟨j,hjl⟩).2,h2,by rw[← hy];exact h3,fun i u hi=>?_⟩
    have:=hc ⟨j,hjl⟩ i u hi
    rw[bR hb] at this
    exact this
  · cases hu
theorem nT{α:Type}{R:World→α→List Value→Prop}{t e:TypeId}{sz fuel:Nat}{cs:List Value}{x:DataW H × List MemPlace}(ht:P.underlying t=some (.slice e))(hsz:P.cellsOf e=sz)(hp:0<sz)
    (hel:∀ n cs' y,cs'.length=sz→DataW.trod enc P w base spare held n e cs'=some y→∃ x,R w x cs') (h:DataW.trod enc P w base spare held fuel t cs=some x) : ∃ v xs,cs=[v]∧aB false e sz R w v xs :=
  l6 (Pd:=fun _=>True) ht hsz hp (fun n cs' y h1 h2 _=>hel n cs' y h1 h2) (fun _ _ _ _ _=>trivial) h
end
section
variable {H:Type}{enc:TypeId × Value→H}{w:World}{base:Nat}{spare:Nat→Bool}{held:Bool}{n:Nat}{y:DataW H × List MemPlace}
theorem tT{cs:List Value}(h:DataW.trod enc Tryz.prog w base spare held n 5 cs=some y) : ∃ x,iw w x cs:=by
  obtain⟨k,rfl,_,hw⟩:=DataW.trod_int Tryz.underlying5 h
  exact⟨k,rfl,pe hw⟩
theorem rE{cs:List Value}(h:DataW.trod enc Tryz.prog w base spare held n 4 cs=some y) : ∃ x,jF w x cs:=by
  obtain⟨k,rfl,_⟩:=DataW.trod_bool Tryz.underlying4 h
  exact⟨k,rfl⟩
theorem tY{cs:List Value}(h:DataW.trod enc Tryz.prog w base spare held n 22 cs=some y) : ∃ v xs,cs=[v]∧aQ false w v xs:=nT Tryz.underlying22 (by kernel_rfl) (by decide) (fun _ _ _ _ h=>tT h) h
theorem ro{cs:List Value}(h:DataW.trod enc Tryz.prog w base spare held n 26 cs=some y) : ∃ v xs,cs=[v]∧eN false w v xs:=nT Tryz.underlying26 (by kernel_rfl) (by decide) (fun _ _ _ _ h=>rE h) h
end
open Go.RowKit
section
variable {H:Type}{enc:TypeId × Value→H}{w:World}{base:Nat}{spare:Nat→Bool}{held:Bool}{n:Nat}{y:DataW H × List MemPlace}
end
end Go.Proofs.YtogbnemojakcpaaGreat
namespace Go.Proofs.YtogbnemojakcpaaGreat
open Go.WideShapes
def vM (w:World)(b:List Int)(cs:List Value) : Prop:=∃ v,cs=[v]∧aQ false w v b∧b.length≤140737488355328
section
variable {H:Type}{enc:TypeId × Value→H}{w:World}{base:Nat}{spare:Nat→Bool}{held:Bool}{n:Nat}{y:DataW H × List MemPlace}
theorem tq{cs:List Value}(h:DataW.trod enc Tryz.prog w base spare held n 22 cs=some y)(hp:∀ e2 s2,y.1 = .slice e2 s2→e2.length≤140737488355328) : ∃ b,vM w b cs:=by
  obtain⟨v,xs,hc,hr⟩:=tY h
  refine⟨xs,v,hc,hr,?_⟩
  obtain⟨A,c,hv,_,_⟩:=hr.shape
  rcases DataW.trod_slice Tryz.underlying22 h with⟨h1,_⟩|⟨a,len,cap,elems,rest,m,_,h1,h2,_,_,_,h3,_⟩
  · rw[hc] at h1
    simp only[List.cons.injEq,and_true] at h1
    rw[h1] at hv
    injection hv with _ h4 _
    omega
  · rw[hc] at h1
    simp only[List.cons.injEq,and_true] at h1
    rw[h1] at hv
    injection hv with _ h4 _
    have:=hp _ _ (by rw[h2])
    rw[List.length_map] at this
    omega
theorem rQ{cs:List Value}(h:DataW.trod enc Tryz.prog w base spare held n 49 cs=some y)(hp:∀ elems sp,y.1 = .slice elems sp→∀ d,d∈elems→∀ e2 s2,d = .slice e2 s2→e2.length≤140737488355328) :
    ∃ v xs,cs=[v]∧fs false w v xs∧∀ x,x∈xs→x.length≤140737488355328:=by
  obtain⟨v,xs,hc,hr⟩:=l6 (R:=vM) (sz:=1) (Pd:=fun d=>∀ e2 s2,d = .slice e2 s2→e2.length≤140737488355328) Tryz.underlying49 (by kernel_rfl) (by decide) (fun _ _ _ _ h hp=>tq h hp) hp h
  refine⟨v,xs,hc,aB.any hr (fun _ _ ⟨v,h1,h2,_⟩=>⟨v,h1,h2⟩),fun x hx=>?_⟩
  obtain⟨A,c,rfl,_,_⟩:=hr.shape
  obtain⟨j,hj⟩:=List.getElem?_of_mem hx
  have hl:=(List.getElem?_eq_some_iff.1 hj).1
  obtain⟨_,_,_,_,_,_,_,_,_,⟨_,_,_,h4⟩,_⟩:=aB.elt hr [] j hl
  rw[List.getD_eq_getElem?_getD,hj] at h4
  exact h4
end
theorem fA{H:Type}{P:Program}{e:TypeId}{d:DataW H}{k:Nat}(hk:k∈d.weights P e) : ∀ {l:List (DataW H)},d∈l→k∈DataW.weightsAll P e l
  | [],h=>by cases h
  | x :: r,h=>by
    simp only[DataW.weightsAll,List.mem_append]
    rcases List.mem_cons.1 h with rfl|h
    · exact .inl hk
    · exact .inr (fA hk h)
theorem rT{H:Type}{ts:List TypeId}{ds:List (DataW H)}(h:(DataW.weightsEach Tryz.prog ts ds).all (·≤reachBytes)=true){j:Nat}{d:DataW H}(ht:ts[j]? = some 49)(hd:ds[j]? = some d) :
    ∀ elems sp,d = .slice elems sp→∀ d2,d2∈elems→∀ e2 s2,d2 = .slice e2 s2→e2.length≤140737488355328:=by
  rintro elems sp rfl d2 hm e2 s2 rfl
  have hw:(e2.length+s2.length)*Tryz.prog.bytesOf 5∈(DataW.slice elems sp).weights Tryz.prog 49:=by
    simp only[DataW.weights,Tryz.underlying49,List.mem_cons,List.mem_append]
    refine .inr (.inl (fA ?_ hm))
    simp only[DataW.weights,Tryz.underlying22,List.mem_cons]
    exact .inl trivial
  have h2:=List.all_eq_true.1 h _ (DataW.weights_mem_each ht hd _ hw)
  have h3:(e2.length+s2.length)*Tryz.prog.bytesOf 5≤reachBytes:=by simpa using h2
  rw[show Tryz.prog.bytesOf 5=1 from by kernel_rfl] at h3
  have h4:reachBytes<2 ^ 47:=reachBytes_lt
  omega
end Go.Proofs.YtogbnemojakcpaaGreat
