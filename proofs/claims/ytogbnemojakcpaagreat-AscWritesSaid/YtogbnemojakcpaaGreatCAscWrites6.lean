/- Contracts of functions, part CAscWrites6. -/
import Derived.Test.YtogbnemojakcpaaGreatCAscWrites1
import Derived.Test.YtogbnemojakcpaaGreatCAscWrites2
import Derived.Test.YtogbnemojakcpaaGreatCAscWrites3
import Derived.Test.YtogbnemojakcpaaGreatCAscWrites4
import Derived.Test.YtogbnemojakcpaaGreatCAscWrites5
set_option linter.unusedVariables false
set_option linter.unusedSimpArgs false
set_option maxRecDepth 100000
set_option maxHeartbeats 4000000
namespace Go.Proofs.YtogbnemojakcpaaGreat
open Go.RowKit
theorem ip{C:ak}(h:eM C){b:Bool}{x:Int}:eM (C.need b x):=fun y hy=>h y (by rwa [jS] at hy)
theorem iI{C:ak}(h:eM C){n:Int}:eM (C.bytesC n):=i8 h n
theorem nz{C:ak}(h:eM C){n:Int}:eM (C.wordsC n):=cD h n
theorem wW(C:ak)(x:Int) : (C.bytesC 1).need (!(C.bytesC 1).sh) x=C.bytesC 1:=by
  by_cases hf:C.fails 1=true
  · exact el (fo hf)
  · have h:(C.bytesC 1).sh=false:=by
      unfold ak.bytesC
      rw[if_neg hf]
      unfold ak.fails at hf
      simp only[Bool.or_eq_true,decide_eq_true_eq,not_or] at hf
      show C.sh=false
      simpa using hf.1.1
    rw[h]
    unfold ak.need
    rw[if_neg (by rintro⟨_,h⟩;cases h)]
theorem uH{v:Int}(h:0≤v) : decide (0<v)=(v != 0):=by
  rw[Bool.eq_iff_iff]
  simp only[decide_eq_true_eq,bne_iff_ne,ne_eq]
  omega
def Ah (C:ak) : ak:=((C.bytesC 1).need (!(C.bytesC 1).sh) 5).need (C.byteV==6) 9
def Ai (C:ak) : ak:=((Ah C).wordsC 1).need (decide (0<(Ah C).wordV)) 6
def Am (C:ak) : ak:=((Ai C).wordsC 1).need (decide ((Ai C).wordV≤9999)) 7
def vz (C:ak) : ak:=((Am C).wordsC 1).need (decide (0<(Am C).wordV)) 5
theorem u0(C:ak) : Ah C=ig C:=by unfold Ah ig;rw[wW]
theorem rC{C:ak}(h:eM C) : eM (ig C):=ip (iI h)
theorem uK{C:ak}(h:eM C) : Ai C=iO C:=by unfold Ai iO;rw[u0,uH (bN (rC h)).1]
theorem xb{C:ak}(h:eM C) : eM (iO C):=ip (nz (rC h))
theorem vH{C:ak}(h:eM C) : Am C=mc C:=by unfold Am mc;rw[uK h]
theorem wL{C:ak}(h:eM C) : eM (mc C):=ip (nz (xb h))
theorem tk{C:ak}(h:eM C) : vz C=dw C:=by unfold vz dw;rw[vH h,uH (bN (wL h)).1]
theorem yo{C:ak}(h:C.e≠0) : C.endC=C:=by unfold ak.endC;exact el h
theorem yF{b:List Int}(h:b.length≠0) : (ak.mk b false 0).byteV=b.getD 0 0∧(ak.mk b false 0).bytesC 1=⟨b.drop 1,false,0⟩:=by
  have hf:¬ (ak.mk b false 0).fails 1=true:=by
    unfold ak.fails
    simp only[Bool.or_eq_true,decide_eq_true_eq,not_or]
    exact⟨⟨by decide,by decide⟩,by omega⟩
  constructor
  · unfold ak.byteV ak.bytesR
    rw[if_neg hf]
    rcases b with _|⟨x,t⟩
    · exact absurd rfl h
    · rfl
  · unfold ak.bytesC
    rw[if_neg hf]
    rfl
def cV (b:List Int)(n:Int) : List Int:=(b.take (n+1).toNat).drop 1
def dQ (one:Int→ak→Int × ak × dj)(c:Int)(b:List Int) : aP × Int :=
  if (aR one (cV b (b.getD 0 0)).length 0 ⟨cV b (b.getD 0 0),false,0⟩ []).1.e != 0 then (aP.zero,bp (aR one (cV b (b.getD 0 0)).length 0 ⟨cV b (b.getD 0 0),false,0⟩ []).1.e)
  else if decide (b.getD 0 0+1<(b.length:Int)) then (aP.zero,3)
  else ({ aP.zero with code:=c,recs:=(aR one (cV b (b.getD 0 0)).length 0 ⟨cV b (b.getD 0 0),false,0⟩ []).2 },0)
def bP (one:Int→ak→Int × ak × dj)(may:Int→Bool)(c:Int)(b:List Int) : aP × Int :=
  if (b.length:Int)==0 then (aP.zero,2)
  else if !(may (b.getD 0 0)) then (aP.zero,5)
  else if decide ((b.length:Int)<b.getD 0 0+1) then (aP.zero,2)
  else dQ one c b
theorem kS{M:aP}{C:ak}(h:C.e≠0) : b6 M C=(aP.zero,C.e):=by
  unfold b6
  rw[yo h,if_neg h]
theorem jX{one:Int→ak→Int × ak × dj}{may:Int→Bool}{c:Int}{b:List Int}(hr:∀ x,x∈b→0≤x∧x<256) : b6 (dK one may c ⟨b,false,0⟩).2 (dK one may c ⟨b,false,0⟩).1=bP one may c b:=by
  unfold bP
  by_cases h0:b.length=0
  · rw[if_pos (by rw[beq_iff_eq];omega)]
    obtain rfl:=List.eq_nil_of_length_eq_zero h0
    have e1:(kM may ⟨[],false,0⟩).e=2:=by
      unfold kM
      rw[el (fo (by decide))]
      rfl
    have e2:((kM may ⟨[],false,0⟩).bytesC (ak.mk [] false 0).byteV).e=2:=by
      have hs:(kM may ⟨[],false,0⟩).sh=true:=by
        unfold kM
        rw[el (fo (by decide))]
        rfl
      unfold ak.bytesC
      rw[if_pos (by unfold ak.fails;rw[hs];rfl),el (by show(kM may ⟨[],false,0⟩).e≠0;rw[e1];decide)]
      exact e1
    unfold dK
    dsimp only
    rw[el (by rw[e2];decide),kS (by rw[e2];decide),e2]
  rw[if_neg (by rw[beq_iff_eq];omega)]
  obtain⟨e1,e2⟩:=yF h0
  have hn:0≤b.getD 0 0∧b.getD 0 0<256:=by
    rcases b with _|⟨x,t⟩
    · exact absurd rfl h0
    · exact hr x (by simp)
  by_cases hm:may (b.getD 0 0)=true
  · rw[if_neg (by rw[hm];decide)]
    have e3:kM may ⟨b,false,0⟩=⟨b.drop 1,false,0⟩:=by
      unfold kM
      rw[e1,e2,hm]
      rfl
    by_cases hs:(b.length:Int)<b.getD 0 0+1
    · rw[if_pos (by simpa using hs)]
      have hf:(ak.mk (b.drop 1) false 0).fails (b.getD 0 0)=true:=by
        unfold ak.fails
        simp only[Bool.or_eq_true,decide_eq_true_eq,List.length_drop]
        exact .inr (by omega)
      have e4:(kM may ⟨b,false,0⟩).bytesC (ak.mk b false 0).byteV=⟨[],true,2⟩:=by
        rw[e1,e3]
        unfold ak.bytesC
        rw[if_pos hf]
        rfl
      unfold dK
      dsimp only
      rw[e4,el (by decide),kS (by decide)]
    · rw[if_neg (by simpa using hs)]
      have hf:¬ (ak.mk (b.drop 1) false 0).fails (b.getD 0 0)=true:=by
        unfold ak.fails
        simp only[Bool.or_eq_true,decide_eq_true_eq,List.length_drop,not_or]
        exact⟨⟨by decide,by omega⟩,by omega⟩
      have e4:(kM may ⟨b,false,0⟩).bytesC (ak.mk b false 0).byteV=⟨(b.drop 1).drop (b.getD 0 0).toNat,false,0⟩:=by
        rw[e1,e3]
        unfold ak.bytesC
        rw[if_neg hf]
      have e5:vX may ⟨b,false,0⟩=⟨cV b (b.getD 0 0),false,0⟩:=by
        unfold vX cV
        rw[e1,e3]
        unfold ak.bytesR
        rw[if_neg hf,show(b.getD 0 0+1).toNat=1+(b.getD 0 0).toNat from by omega,List.drop_take]
        rw[show 1+(b.getD 0 0).toNat-1=(b.getD 0 0).toNat from by omega]
      unfold dK dQ qj
      dsimp only
      rw[e4,e5]
      by_cases hz:(aR one (cV b (b.getD 0 0)).length 0 ⟨cV b (b.getD 0 0),false,0⟩ []).1.e=0
      · rw[hz,if_neg (by decide)]
        have e6:(ak.mk ((b.drop 1).drop (b.getD 0 0).toNat) false 0).need ((0:Int)==0) (bp 0)=⟨(b.drop 1).drop (b.getD 0 0).toNat,false,0⟩:=rfl
        rw[e6]
        by_cases hl:b.getD 0 0+1<(b.length:Int)
        · rw[if_pos (by simpa using hl)]
          have e7:(ak.mk ((b.drop 1).drop (b.getD 0 0).toNat) false 0).endC=⟨(b.drop 1).drop (b.getD 0 0).toNat,false,3⟩:=by
            unfold ak.endC ak.need
            rw[if_pos ⟨rfl,by rw[beq_eq_false_iff_ne];simp only[List.length_drop];omega⟩]
          unfold b6
          rw[e7,if_neg (show ¬ (3:Int)=0 from by decide)]
        · rw[if_neg (by simpa using hl)]
          have e7:(ak.mk ((b.drop 1).drop (b.getD 0 0).toNat) false 0).endC=⟨(b.drop 1).drop (b.getD 0 0).toNat,false,0⟩:=by
            unfold ak.endC ak.need
            rw[if_neg (by rintro⟨_,h⟩;rw[beq_eq_false_iff_ne] at h;simp only[List.length_drop] at h;omega)]
          unfold b6
          rw[e7,if_pos rfl]
      · rw[if_pos (by simpa using hz)]
        have hw:bp (aR one (cV b (b.getD 0 0)).length 0 ⟨cV b (b.getD 0 0),false,0⟩ []).1.e≠0:=by
          unfold bp
          split
          · decide
          · exact hz
        have e6:(ak.mk ((b.drop 1).drop (b.getD 0 0).toNat) false 0).need ((aR one (cV b (b.getD 0 0)).length 0 ⟨cV b (b.getD 0 0),false,0⟩ []).1.e==0) (bp (aR one (cV b (b.getD 0 0)).length 0 ⟨cV b (b.getD 0 0),false,0⟩ []).1.e)=⟨(b.drop 1).drop (b.getD 0 0).toNat,false,bp (aR one (cV b (b.getD 0 0)).length 0 ⟨cV b (b.getD 0 0),false,0⟩ []).1.e⟩:=by
          unfold ak.need
          rw[if_pos ⟨rfl,by simpa using hz⟩]
        rw[e6,kS hw]
  · have hm:may (b.getD 0 0)=false:=by simpa using hm
    rw[if_pos (by rw[hm];rfl)]
    have e3:kM may ⟨b,false,0⟩=⟨b.drop 1,false,5⟩:=by
      unfold kM
      rw[e1,e2,hm]
      rfl
    have e4:((kM may ⟨b,false,0⟩).bytesC (ak.mk b false 0).byteV).e=5:=by
      rw[e3]
      unfold ak.bytesC
      split
      · rfl
      · rfl
    unfold dK
    dsimp only
    rw[el (by rw[e4];decide),kS (by rw[e4];decide),e4]
theorem qG{b:List Int}(hr:∀ x,x∈b→0≤x∧x<256) : ai aX 0 20 b=bP cK fC 20 b:=jX hr
theorem rk{b:List Int}(hr:∀ x,x∈b→0≤x∧x<256) : ai aX 1 20 b=bP bK fA 20 b:=jX hr
theorem uU{dir:Int}{b:List Int}(hd:dir=0∨dir=1)(hr:∀ x,x∈b→0≤x∧x<256) : ai aX dir 21 b=bP cM fL 21 b:=by
  unfold ai
  rw[if_pos hd]
  exact jX hr
theorem xF:∀ n:Nat,n<256→(decide (1≤(n:Int)%128)&&decide ((n:Int)%128≤3))=cc (n:Int):=by decide +kernel
theorem zP{x:Int}(h:0≤x∧x<256) : (decide (1≤x%128)&&decide (x%128≤3))=cc x:=by
  obtain⟨n,rfl⟩:=Int.eq_ofNat_of_zero_le h.1
  exact xF n (by omega)
theorem yH{x:Int}:(decide (0<x)&&decide (x<5))=(decide (1≤x)&&decide (x≤4)):=by
  rw[Bool.eq_iff_iff]
  simp only[Bool.and_eq_true,decide_eq_true_eq]
  omega
def fl (C:ak) : ak:=((dB C).bytesC 1).need (decide (0<(dB C).byteV)&&decide ((dB C).byteV<5)) 6
theorem vc(C:ak) : fl C=ek C:=by unfold fl ek;rw[yH]
def ge (C:ak) : ak:=(C.bytesC 1).need (decide (1≤C.byteV%128)&&decide (C.byteV%128≤3)) 6
def ib (C:ak) : ak:=((ge C).bytesC 1).need ((ge C).byteV==0 || (ge C).byteV==255) 6
def ic (C:ak) : ak:=((ib C).bytesC 1).need ((ib C).byteV==0 || (ge C).byteV==255) 6
def jx (kd:Int)(C:ak) : ak:=((ic C).bytesC 1).need ((ic C).byteV==1 || kd != 4) 5
def ef (kd:Int)(C:ak) : ak × List Obj:=eg (ic C).byteV.toNat (jx kd C) []
theorem lc{C:ak}(h:eM C) : ge C=kK C:=by unfold ge kK;rw[zP (cR h)]
theorem oU{C:ak}(h:eM C) : ib C=kL C:=by unfold ib kL;rw[lc h]
theorem vi{C:ak}(h:eM C) : ic C=mA C:=by
  unfold ic mA
  rw[oU h,lc h]
  by_cases e:((kL C).bytesC 1).e=0
  · have h1:=(gN e).1
    unfold kL at h1
    have h2:=(gk (by decide) h1).2
    congr 1
    rw[Bool.eq_iff_iff]
    simp only[Bool.or_eq_true,beq_iff_eq,bne_iff_ne,ne_eq] at h2 ⊢
    omega
  · rw[el e,el e]
theorem oL{kd:Int}{C:ak}(h:eM C) : ef kd C=dT kd C:=by
  unfold ef dT jx tV
  rw[vi h,Bool.or_comm]
def cJ (dir c:Int)(C:ak) : Option (ak × aP) :=
  if c != 43 then none
  else if C.byteV==13 then some ((fF C).bytesC ((dB C).l.length:Int),{ aP.zero with code:=43,mei:=C.byteV,data:=(fF C).bytesR ((dB C).l.length:Int) })
  else if dir==0 then some ((fl C).bytesC 1,{ aP.zero with code:=43,mei:=C.byteV,kind:=(dB C).byteV,next:=(fl C).byteV })
  else some ((ef (dB C).byteV (fl C)).1,{ aP.zero with code:=43,mei:=C.byteV,kind:=(dB C).byteV,level:=(fl C).byteV,more:=(ge (fl C)).byteV,next:=(ib (fl C)).byteV,objects:=(ef (dB C).byteV (fl C)).2 })
theorem pz{dir c:Int}{b:List Int}(hr:∀ x,x∈b→0≤x∧x<256) : ai cJ dir c b=ai bD dir c b:=by
  unfold ai
  split
  · rename_i hd
    unfold cJ bD
    by_cases hc:c=43
    · subst hc
      have hD:eM (fl ⟨b,false,0⟩):=ip (iI (ip (iI (C:=⟨b,false,0⟩) hr)))
      have hl:(fF ⟨b,false,0⟩).l.length=(dB ⟨b,false,0⟩).l.length:=by unfold fF;rw[jS]
      rw[if_neg (show ¬ (((43:Int)!=43)=true) from by decide),if_neg (show ¬ (((43:Int)!=43)=true) from by decide),lc hD,oU hD,oL hD,vc,hl]
      rcases hd with rfl|rfl
      · rw[if_pos (show((0:Int)==0)=true from rfl),if_neg (show ¬ ((0:Int)==1)=true from by decide)]
      · rw[if_neg (show ¬ ((1:Int)==0)=true from by decide),if_pos (show((1:Int)==1)=true from rfl)]
    · rw[if_pos (by simpa using hc),if_pos (by simpa using hc)]
  · rfl
open Go.RowKit
theorem RC.safe{w0:World}{m:Md}{A:Option Addr}{cp:Nat}{full:List Int}{w:World}{g:Nat}{C:ak}(h:RC w0 m A cp full w g C)(D:List TypeId)(hD:159∉D) : de true D [g] w:=by
  obtain⟨k,h1,_⟩:=h.cell
  exact de.one h1 hD
theorem RC.nrow{α:Type}{base sz n c:Nat}{e:TypeId}{R:World→α→List Value→Prop}{B:Option Addr}{xs:List α}{w0:World}{m:Md}{A:Option Addr}{cp:Nat}{full:List Int}{w:World}{g:Nat}{C:ak}(h:RC w0 m A cp full w g C)(ho:aS base e sz R w (.slice B n c) xs)(ht:(159==e)=false) : g∉ob B:=by
  obtain⟨k,h1,_⟩:=h.cell
  exact db h1 ho ht
theorem RC.fld2{w0:World}{m:Md}{A:Option Addr}{cp:Nat}{full:List Int}{w:World}{g:Nat}{C:ak}(h:RC w0 m A cp full w g C) : w.cell? ⟨g,2,none⟩=some (.bool C.sh):=by
  obtain⟨k,h1,_⟩:=h.cell
  rw[bt h1]
  rfl
def xR (w0:World)(m:Md)(A:Option Addr)(cp:Nat)(full:List Int)(g:Nat)(C':ak)(r:dj)(w:World)(e:Ending)(w':World) : Prop:=e = .returned (.agg #[.int .u16 r.file,.int .u16 r.record,.int .u16 r.count,.slice none 0 0])∧dp r.file∧dp r.record∧dp r.count∧RC w0 m A cp full w' g C'∧aC [g] w w'
theorem nD{x:Int}(h : -1≤x∧x≤255) : 0≤Int.tdiv x 2∧Int.tdiv x 2≤127:=by
  by_cases h0:x = -1
  · subst h0;decide
  · rw[Int.tdiv_eq_ediv_of_nonneg (by omega)]
    omega
theorem iG{one:Int→ak→Int × ak × dj}{n:Nat}{s:Int}{C:ak}{L:List dj}{R:ak × List dj}(h3:(C.e=0∧C.l.length≤n∧aR one n s C L=R)∨(C.e≠0∧R.1=C))(hc:0<C.l.length)(he:C.e=0)(hlt:(one s C).2.1.l.length<C.l.length) :
    ((one s C).2.1.e=0∧(one s C).2.1.l.length≤n-1∧aR one (n-1) (one s C).1 (one s C).2.1 (L++[(one s C).2.2])=R)∨((one s C).2.1.e≠0∧R.1=(one s C).2.1):=by
  rcases h3 with⟨_,hn,hR⟩|⟨h,_⟩
  · obtain⟨k,rfl⟩ : ∃ k,n=k+1:=⟨n-1,by omega⟩
    unfold aR at hR
    rw[if_pos (by rw[he];simpa using hc)] at hR
    by_cases hz:(one s C).2.1.e=0
    · rw[if_neg (by rw[hz];decide)] at hR
      exact .inl ⟨hz,by omega,hR⟩
    · rw[if_pos (by simpa using hz)] at hR
      exact .inr ⟨hz,by rw[← hR]⟩
  · exact absurd he h
theorem fG{one:Int→ak→Int × ak × dj}{n:Nat}{s:Int}{C:ak}{L:List dj}{R:ak × List dj}(h3:(C.e=0∧C.l.length≤n∧aR one n s C L=R)∨(C.e≠0∧R.1=C))(hq:(decide (0<((C.l.length:Nat) : Int))&&C.e==0)=false) : R.1.e=C.e∧(C.e=0→R.2=L):=by
  rcases h3 with⟨he,hn,hR⟩|⟨h,h2⟩
  · rw[i3 one n s C L hq] at hR
    rw[← hR]
    exact⟨rfl,fun _=>rfl⟩
  · rw[h2]
    exact⟨rfl,fun h3=>absurd h3 h⟩
def gg (R:ak × List dj)(w:World)(e:Ending)(w':World) : Prop:=∃ A2 n2 c2,e = .returned (.tuple #[.slice A2 n2 c2,.int .i64 (bp R.1.e)])∧(bp R.1.e=0→aS w.heap.size 109 4 (bq true) w' (.slice A2 n2 c2) R.2)∧aC [] w w'
theorem lO{f:FuncId}{args:Array Value}{R:ak × List dj}{w:World}(h:Calls Tryz.prog f args w (gg R w))(h0:bp R.1.e=0) : Calls Tryz.prog f args w (fun e w'=>∃ v,e = .returned (.tuple #[v,.int .i64 0])∧aS w.heap.size 109 4 (bq true) w' v R.2∧aC [] w w'):=by
  refine h.mono ?_
  rintro e w' ⟨A2,n2,c2,rfl,h1,h2⟩
  exact⟨_,by rw[h0],h1 h0,h2⟩
theorem ka{f:FuncId}{args:Array Value}{R:ak × List dj}{w:World}(h:Calls Tryz.prog f args w (gg R w)) : Calls Tryz.prog f args w (fun e w'=>∃ A2 n2 c2,e = .returned (.tuple #[.slice A2 n2 c2,.int .i64 (bp R.1.e)])∧aC [] w w'):=by
  refine h.mono ?_
  rintro e w' ⟨A2,n2,c2,rfl,h1,h2⟩
  exact⟨A2,n2,c2,rfl,h2⟩
theorem xO{w0:World}{m:Md}{A:Option Addr}{cp:Nat}{full:List Int}{w:World}{g:Nat}{C:ak}(hC:RC w0 m A cp full w g C) : Calls Tryz.prog 218 #[.pointer (some ⟨g,0,none⟩)] w (xR w0 m A cp full g (dw C) (aQ C) w):=by
 have hr:eM C:=RC.rng hC
 refine en 42 Tryz.func218 rfl<|sg<|L0<|bH #[.int .u16 0,.int .u16 0,.int .u16 0,.slice none 0 0] fun N O b i a=>ng<|Pl 1<|?_
 refine L0<|Oc<|m3 (ed (RC.upd hC a az (aC.step (RC.u hC) a))) fun P c j Q=>Pl 1<|ng<|Pl 4<|L0<|ei (p:=⟨g,2,none⟩) (v:=.bool ((C.bytesC 1).sh)) (RC.fld2 c)<|Pl 1<|L0<|Oc<|m2 (aY ((!((C.bytesC 1).sh))) 5 c) fun R k l=>ng<|?_
 refine Pl 3<|L0<|Oc<|m2 (aY ((C.byteV==6)) 9 k) fun S n o=>?_
 refine fY n fun x26 q r=>?_
 refine ng<|Pl 1<|L0<|Oc<|m3 (cO r) fun T s t U=>Pl 1<|ng<|Pl 3<|L0<|Oc<|m2 (aY ((decide (0<x26.wordV))) 6 s) fun V y z=>nl<|?_
 refine tn<|sg<|Pl 1<|L0<|Oc<|m3 (cO y) fun W B D X=>Pl 1<|ng<|Pl 3<|L0<|Oc<|m2 (aY ((decide ((((x26.wordsC 1).need (decide (0<x26.wordV)) 6).wordV)≤9999))) 7 B) fun Y E F=>?_
 refine fY E fun x43 G H=>?_
 refine ng<|Pl 1<|L0<|Oc<|m3 (cO H) fun Z I J a0=>Pl 1<|ng<|Pl 3<|L0<|Oc<|m2 (aY ((decide (0<x43.wordV))) 5 I) fun a1 K L=>nl<|?_
 refine tn<|sg<|Pl 4<|?_
 have d:=u1 j (u1 l (u1 o (u1 t (u1 z (u1 D (u1 F (u1 J L im) im) im) im) im) im) im) im
 have e:=nb (RC.lt hC) lr b
 refine L0<|b7 (aW d (Ne.symm e) i) #[.int .u16 x26.wordV,.int .u16 (((x26.wordsC 1).need (decide (0<x26.wordV)) 6).wordV),.int .u16 x43.wordV,.slice none 0 0] fun a2 M f=>nt<|rt<|yn M<|?_
 subst G q
 have e1:dw C=(((((((((C.bytesC 1).need (!((C.bytesC 1).sh)) 5).need (C.byteV==6) 9).wordsC 1).need (decide (0<(((C.bytesC 1).need (!((C.bytesC 1).sh)) 5).need (C.byteV==6) 9).wordV)) 6).wordsC 1).need (decide (((((((C.bytesC 1).need (!((C.bytesC 1).sh)) 5).need (C.byteV==6) 9).wordsC 1).need (decide (0<(((C.bytesC 1).need (!((C.bytesC 1).sh)) 5).need (C.byteV==6) 9).wordV)) 6).wordV)≤9999)) 7).wordsC 1).need (decide (0<(((((((C.bytesC 1).need (!((C.bytesC 1).sh)) 5).need (C.byteV==6) 9).wordsC 1).need (decide (0<(((C.bytesC 1).need (!((C.bytesC 1).sh)) 5).need (C.byteV==6) 9).wordV)) 6).wordsC 1).need (decide (((((((C.bytesC 1).need (!((C.bytesC 1).sh)) 5).need (C.byteV==6) 9).wordsC 1).need (decide (0<(((C.bytesC 1).need (!((C.bytesC 1).sh)) 5).need (C.byteV==6) 9).wordV)) 6).wordV)≤9999)) 7).wordV)) 5):=by rw[← tk hr];rfl
 have e2:(aQ C).file=(((C.bytesC 1).need (!((C.bytesC 1).sh)) 5).need (C.byteV==6) 9).wordV:=by show(ig C).wordV=_;rw[← u0];rfl
 have e3:(aQ C).record=(((((C.bytesC 1).need (!((C.bytesC 1).sh)) 5).need (C.byteV==6) 9).wordsC 1).need (decide (0<(((C.bytesC 1).need (!((C.bytesC 1).sh)) 5).need (C.byteV==6) 9).wordV)) 6).wordV:=by show(iO C).wordV=_;rw[← uK hr];rfl
 have e4:(aQ C).count=(((((((C.bytesC 1).need (!((C.bytesC 1).sh)) 5).need (C.byteV==6) 9).wordsC 1).need (decide (0<(((C.bytesC 1).need (!((C.bytesC 1).sh)) 5).need (C.byteV==6) 9).wordV)) 6).wordsC 1).need (decide (((((((C.bytesC 1).need (!((C.bytesC 1).sh)) 5).need (C.byteV==6) 9).wordsC 1).need (decide (0<(((C.bytesC 1).need (!((C.bytesC 1).sh)) 5).need (C.byteV==6) 9).wordV)) 6).wordV)≤9999)) 7).wordV:=by show(mc C).wordV=_;rw[← vH hr];rfl
 have h:=ue a (us d f) b
 unfold xR
 rw[e1,e2,e3,e4]
 exact⟨rfl,ez (by omega),ez (by omega),ez (by omega),(RC.upd K f (aa e az) (hC.u.trans' h (fun x hx=>.inr (by simp at hx;subst hx;exact hC.new)))),h⟩
theorem vB{m:Md}{A:Option Addr}{cp:Nat}{b:List Int}{w:World}(hsl:b9 m w (.slice A b.length cp) b)(hb:b.length≤1048576) :
    Calls Tryz.prog 163 #[.int .i64 0,.int .u8 20,.slice A b.length cp] w (gg (aR cK b.length 0 ⟨b,false,0⟩ []) w):=by
 have hln:(b.length:Int)≤1048576:=by omega
 refine en 108 Tryz.func163 rfl<|sg<|Pl 2<|ng<|Pl 2<|L0<|dv #[.slice A b.length cp,.int .i64 0,.bool false,.int .i64 0] fun d U E a8 F=>Pl 1<|nt<|sq<|?_
 refine go<|Pl 1<|ng<|Pl 1<|nt<|sq<|bk<|?_
 have V:RC w _ A cp b U d (ak.mk b false 0):=⟨hsl,F,E,⟨0,a8,Nat.zero_le _,rfl⟩,by omega⟩
 refine iN (fun x=>[(0,.int .i64 0),(1,.int .u8 20),(6,.slice none 0 0),(7,.int .i64 0),(8,.pointer (some ⟨d,0,none⟩)),(9,.slice x.2.2.2.1 x.2.2.1.length x.2.2.2.2.1),(10,.int .i64 x.2.2.2.2.2)]) (fun(x:Nat × ak × List dj × Option Addr × Nat × Int) w'=>aC [] w w'∧U.heap.size≤w'.heap.size∧RC w m A cp b w' d x.2.1∧aS w.heap.size 109 4 (bq true) w' (.slice x.2.2.2.1 x.2.2.1.length x.2.2.2.2.1) x.2.2.1∧(0≤x.2.2.2.2.2)∧(x.2.1.e=0→x.2.2.2.2.2≤245)∧(x.2.2.1.length+x.2.1.l.length≤b.length)∧((x.2.1.e=0∧x.2.1.l.length≤x.1∧aR cK x.1 x.2.2.2.2.2 x.2.1 x.2.2.1=aR cK b.length 0 ⟨b,false,0⟩ [])∨(x.2.1.e≠0∧(aR cK b.length 0 ⟨b,false,0⟩ []).1=x.2.1))) (fun x=>x.2.1.l.length) (b.length,(ak.mk b false 0),[],none,0,0) ⟨F,lr,V,(aS.nil w.heap.size _ _ (bq true) _),(by(try dsimp only);omega),(fun _=>(show(0:Int)≤245 from by decide)),(by(try dsimp only);simp),.inl ⟨rfl,Nat.le_refl _,rfl⟩⟩ ?_
 rintro⟨n,C,L,B,cq,s⟩ W ⟨a9,G,ab,ad,ae,af,ag,ai⟩
 refine iy [(0,.int .i64 0),(1,.int .u8 20),(6,.slice none 0 0),(7,.int .i64 0),(8,.pointer (some ⟨d,0,none⟩)),(9,.slice B L.length cq),(10,.int .i64 s)] ?_
 have a:RC w m A cp b W d C:=ab
 have hlC:=RC.clen a
 have hrC:eM C:=RC.rng a
 have i:aS w.heap.size 109 4 (bq true) W (.slice B L.length cq) L:=ad
 have aM:0≤s:=ae
 have aP:C.e=0→s≤245:=af
 have aU:L.length+C.l.length≤b.length:=ag
 have H:(C.e=0∧C.l.length≤n∧aR cK n s C L=aR cK b.length 0 ⟨b,false,0⟩ [])∨(C.e≠0∧(aR cK b.length 0 ⟨b,false,0⟩ []).1=C):=ai
 refine sq<|sg<|Pl 1<|L0<|Oc<|m1 (iU a) fun aV c=>?_
 have aX:=RC.clen a
 refine Pl 2<|cu 6 [20] 26 (((decide (0<((C.l.length:Nat) : Int)))&&(C.e==0))) (fun K X=>?_) ?_
 refine bl 20 ((decide (0<((C.l.length:Nat) : Int)))) (fun j=>?_) (fun j=>?_)
 have al:=of_decide_eq_true j
 refine Pl 3<|?_
 exact L1<|ei (p:=⟨d,3,none⟩) (v:=.int .i64 C.e) (RC.fld (RC.upd a c az (aC.step (RC.u a) c)))<|Pl 2<|ce X (C.e==0) (by rw[j];rfl)
 have al:=of_decide_eq_false j
 exact Pl 6<|ce X false (by rw[j];rfl)
 refine nt<|?_
 have I:=aD a9 c
 refine cb (((decide (0<((C.l.length:Nat) : Int)))&&(C.e==0))) (fun f=>?_) (fun f=>?_)
 have J:=(aT f).1
 have M:=(aT f).2
 have aZ:=of_decide_eq_true J
 have b0:=ah M
 refine bf<|bk<|sg<|Pl 1<|L0<|bH #[.int .u16 0,.int .u16 0,.int .u16 0,.slice none 0 0] fun b1 b2 k am N=>L0<|b7 am #[.int .u16 0,.int .u16 0,.int .u16 0,.slice none 0 0] fun b3 an O=>nt<|sq<|sg<|Pl 6<|nl<|?_
 refine tn<|c0<|sg<|Pl 1<|?_
 have Y:=ud N O k
 have r:=aD c Y
 refine L0<|Oc<|m5 (xO (RC.upd a r az (aC.step (RC.u a) r))) fun b4 ao ar au aw t=>?_
 obtain⟨b5,b6⟩:=ao
 obtain⟨b8,ba⟩:=ar
 obtain⟨bb,bc⟩:=au
 have P:=nb (RC.lt V) (le G c.size) k
 refine L0<|b7 (aW t (Ne.symm P) an) #[.int .u16 ((aQ C).file),.int .u16 ((aQ C).record),.int .u16 ((aQ C).count),.slice none 0 0] fun bd Z y=>ng<|Pl 2<|nt<|c0<|sg<|Pl 1<|L0<|Oi (s+2)<|Pl 1<|L0<|aO Z 2<|?_
 refine L0<|Oi ((aQ C).count)<|L0<|Oi (2*((aQ C).count))<|L0<|Oi ((s+2)+(2*((aQ C).count)))<|Pl 1<|nt<|go<|Pl 3<|?_
 have Q:=us t y
 have a0:=ud I (ue Y Q k) E
 refine L0<|Oc<|m2 (aY ((decide (((s+2)+(2*((aQ C).count)))≤245))) 5 (RC.upd aw y (aa P az) a0)) fun be ax o=>?_
 refine fY ax fun x68 aB a1=>?_
 refine nt<|go<|Pl 1<|?_
 refine L0<|bO (aW o (Ne.symm P) Z)<|L0<|cL (m:=1) (e:=109) #[.int .u16 ((aQ C).file),.int .u16 ((aQ C).record),.int .u16 ((aQ C).count),.slice none 0 0] fun bg bh bm aE z=>?_
 have aF:=kP (R:=bq true) (x:=(dj.mk ((aQ C).file) ((aQ C).record) ((aQ C).count) ([]))) aE rfl ⟨_,rfl,(aL.nil true _ _ _ _),ez (x:=(aQ C).file) (by omega),ez (x:=(aQ C).record) (by omega),ez (x:=(aQ C).count) (by omega)⟩
 have a2:=aD o z
 have a3:=ue r (u1 Q a2 im) (le c.size k)
 have a4:=ap i a3 (fun x hx=>(aa (fun e=>(RC.nrow a i (by decide)) (e▸hx)) az)) (bq.upd16 a3 (aq (RC.safe a _ (by decide)) aG))
 refine L0<|ie (xs:=L) (ys:=([(dj.mk ((aQ C).file) ((aQ C).record) ((aQ C).count) ([]))])) (.agg #[.int .u16 0,.int .u16 0,.int .u16 0,.slice none 0 0]) 4 32 a4 aF (by simp) bq.ones (fun w' hv=>bq.upd16 hv (cP (dt _ a4 (by decide)) aG)) (by(try simp only[List.length_append,List.length_cons,List.length_nil,aA]);omega) (le (le (le (le (le (le (le (le F.size G) c.size) N.size) O.size) t.size) y.size) o.size) z.size) fun aH aI bo aJ S=>Pl 1<|nl<|bn<|?_
 subst aB
 have hC2:(cK s C).2.1=((dw C).need (decide (((s+2)+(2*((aQ C).count)))≤245)) 5):=by show eH s C=_;(try simp only[eH,eK,← Int.add_assoc,f,J,M,bs,if_true,if_false,decide_true,decide_false]);all_goals rfl
 have hM2:[(cK s C).2.2]=[(dj.mk ((aQ C).file) ((aQ C).record) ((aQ C).count) ([]))]:=by show[aQ C]=_;(try simp only[eH,eK,← Int.add_assoc,f,J,M,bs,if_true,if_false,decide_true,decide_false]);all_goals rfl
 have hS2:(cK s C).1=((s+2)+(2*((aQ C).count))):=by(try (show eK s C=_));(try simp only[eK,← Int.add_assoc]);all_goals rfl
 have hlt:=od s C (by omega)
 have h9:=iG (one:=cK) H (by omega) (by omega) hlt
 rw[hC2,hM2,hS2] at h9
 rw[hC2] at hlt
 have a5:=ut a0 (ut (aC.mono (S':=(d :: (ob B++[]))) a2 (ac im ay)) S (av il ay)) (ac (nr E) (av (aN i lr) ay))
 have a6:=ue r (u1 Q o im) (le c.size k)
 exact gB ((n-1),((dw C).need (decide (((s+2)+(2*((aQ C).count)))≤245)) 5),(L++[(dj.mk ((aQ C).file) ((aQ C).record) ((aQ C).count) ([]))]),aH,aI,((s+2)+(2*((aQ C).count)))) ⟨a5,(le (le (le (le (le (le (le (le G c.size) N.size) O.size) t.size) y.size) o.size) z.size) S.size),(RC.upd a1 (ut (aC.mono (S':=(ob B++[])) z ay) S (av il ay)) (bj (RC.nrow a1 (ap i a6 (fun x hx=>(aa (fun e=>(RC.nrow a i (by decide)) (e▸hx)) az)) (bq.upd16 a6 (aq (RC.safe a _ (by decide)) aG))) (by decide)) az) a5),aJ,(by(try dsimp only);omega),(by(try dsimp only);intro he;have hk:=(gk (by decide) he).2;simp only[decide_eq_true_eq] at hk;omega),(by(try dsimp only);simp only[List.length_append,List.length_cons,List.length_nil];omega),h9⟩ (by omega)
 refine xt<|tx<|tx<|bx<|tn<|sq<|sg<|Pl 3<|?_
 have T:=RC.upd a c az (aC.step (RC.u a) c)
 refine L0<|ei (p:=⟨d,3,none⟩) (v:=.int .i64 C.e) (RC.fld T)<|Pl 1<|nt<|cb ((C.e==2)) (fun q=>?_) (fun q=>?_)
 have aK:=ah q
 refine sg<|Pl 2<|nt<|rt<|tr<|rr (.tuple #[.slice none 0 0,.int .i64 5])<|?_
 obtain⟨ig,iO⟩:=fG H f
 have hw:bp (aR cK b.length 0 ⟨b,false,0⟩ []).1.e=5:=by unfold bp;rw[ig,if_pos q]
 refine⟨none,0,0,by rw[hw],fun h=>absurd (hw.symm.trans h) (by decide),I⟩
 have aK:=aj q
 refine bf<|sq<|Rg 7 (fun w'=>w'.cell? ⟨d,3,none⟩=some (.int .i64 C.e)) fun br D=>?_
 refine bi (RC.fld (RC.upd T D az (aC.step (RC.u T) D))) fun g=>Rt 0 g<|Rt 1 g<|Rt 2 g<|Rt 3 g<|Rl 4 g (fun _ hs=>hs)<|Rt 5 g<|Rt 6 g<|re<|tn<|rt<|rr (.tuple #[.slice B L.length cq,.int .i64 C.e])<|?_
 obtain⟨ig,iO⟩:=fG H f
 have hw:bp (aR cK b.length 0 ⟨b,false,0⟩ []).1.e=C.e:=by unfold bp;rw[ig,if_neg (by rw[q];decide)]
 have a7:=aD c D
 refine⟨_,_,_,by rw[hw],fun h=>by rw[iO (hw.symm.trans h)];exact(ap i a7 (fun x hx=>az) (bq.upd16 a7 aG)),(aD I D)⟩
theorem uI{m:Md}{A:Option Addr}{cp:Nat}{b:List Int}{w:World}(hsl:b9 m w (.slice A b.length cp) b)(hb:b.length≤1048576) :
    Calls Tryz.prog 163 #[.int .i64 1,.int .u8 20,.slice A b.length cp] w (gg (aR bK b.length 0 ⟨b,false,0⟩ []) w):=by
 have hln:(b.length:Int)≤1048576:=by omega
 refine en 108 Tryz.func163 rfl<|sg<|Pl 2<|ng<|Pl 2<|L0<|dv #[.slice A b.length cp,.int .i64 0,.bool false,.int .i64 0] fun f ag M ba N=>Pl 1<|nt<|sq<|?_
 refine go<|Pl 1<|ng<|Pl 1<|nt<|sq<|bk<|?_
 have Z:RC w _ A cp b ag f (ak.mk b false 0):=⟨hsl,N,M,⟨0,ba,Nat.zero_le _,rfl⟩,by omega⟩
 refine iN (fun x=>[(0,.int .i64 1),(1,.int .u8 20),(6,.slice none 0 0),(7,.int .i64 0),(8,.pointer (some ⟨f,0,none⟩)),(9,.slice x.2.2.2.1 x.2.2.1.length x.2.2.2.2.1),(10,.int .i64 x.2.2.2.2.2)]) (fun(x:Nat × ak × List dj × Option Addr × Nat × Int) w'=>aC [] w w'∧ag.heap.size≤w'.heap.size∧RC w m A cp b w' f x.2.1∧aS w.heap.size 109 4 (bq true) w' (.slice x.2.2.2.1 x.2.2.1.length x.2.2.2.2.1) x.2.2.1∧(0≤x.2.2.2.2.2)∧(x.2.1.e=0→x.2.2.2.2.2≤245)∧(x.2.2.1.length+x.2.1.l.length≤b.length)∧((x.2.1.e=0∧x.2.1.l.length≤x.1∧aR bK x.1 x.2.2.2.2.2 x.2.1 x.2.2.1=aR bK b.length 0 ⟨b,false,0⟩ [])∨(x.2.1.e≠0∧(aR bK b.length 0 ⟨b,false,0⟩ []).1=x.2.1))) (fun x=>x.2.1.l.length) (b.length,(ak.mk b false 0),[],none,0,0) ⟨N,lr,Z,(aS.nil w.heap.size _ _ (bq true) _),(by(try dsimp only);omega),(fun _=>(show(0:Int)≤245 from by decide)),(by(try dsimp only);simp),.inl ⟨rfl,Nat.le_refl _,rfl⟩⟩ ?_
 rintro⟨n,C,L,B,cq,s⟩ ai ⟨bb,r,bc,bd,be,bg,bh,bm⟩
 refine iy [(0,.int .i64 1),(1,.int .u8 20),(6,.slice none 0 0),(7,.int .i64 0),(8,.pointer (some ⟨f,0,none⟩)),(9,.slice B L.length cq),(10,.int .i64 s)] ?_
 have a:RC w m A cp b ai f C:=bc
 have hlC:=RC.clen a
 have hrC:eM C:=RC.rng a
 have d:aS w.heap.size 109 4 (bq true) ai (.slice B L.length cq) L:=bd
 have bY:0≤s:=be
 have bZ:C.e=0→s≤245:=bg
 have c0:L.length+C.l.length≤b.length:=bh
 have O:(C.e=0∧C.l.length≤n∧aR bK n s C L=aR bK b.length 0 ⟨b,false,0⟩ [])∨(C.e≠0∧(aR bK b.length 0 ⟨b,false,0⟩ []).1=C):=bm
 refine sq<|sg<|Pl 1<|L0<|Oc<|m1 (iU a) fun c2 c=>?_
 have c3:=RC.clen a
 refine Pl 2<|cu 6 [20] 26 (((decide (0<((C.l.length:Nat) : Int)))&&(C.e==0))) (fun K al=>?_) ?_
 refine bl 20 ((decide (0<((C.l.length:Nat) : Int)))) (fun z=>?_) (fun z=>?_)
 have bo:=of_decide_eq_true z
 refine Pl 3<|?_
 exact L1<|ei (p:=⟨f,3,none⟩) (v:=.int .i64 C.e) (RC.fld (RC.upd a c az (aC.step (RC.u a) c)))<|Pl 2<|ce al (C.e==0) (by rw[z];rfl)
 have bo:=of_decide_eq_false z
 exact Pl 6<|ce al false (by rw[z];rfl)
 refine nt<|?_
 have D:=aD bb c
 refine cb (((decide (0<((C.l.length:Nat) : Int)))&&(C.e==0))) (fun g=>?_) (fun g=>?_)
 have E:=(aT g).1
 have F:=(aT g).2
 have c4:=of_decide_eq_true E
 have c5:=ah F
 refine bf<|bk<|sg<|Pl 1<|L0<|bH #[.int .u16 0,.int .u16 0,.int .u16 0,.slice none 0 0] fun P c6 j a0 G=>L0<|b7 a0 #[.int .u16 0,.int .u16 0,.int .u16 0,.slice none 0 0] fun c7 an k=>nt<|sq<|sg<|Pl 6<|nl<|?_
 refine tn<|c1<|sg<|Pl 1<|?_
 have ao:=ud G k j
 have t:=aD c ao
 refine L0<|Oc<|m3 (ed (RC.upd a t az (aC.step (RC.u a) t))) fun c8 H i c9=>L0<|Oi C.byteV<|Pl 1<|ng<|Pl 2<|L0<|Oe (.int .i64 (Int.tmod C.byteV 2)) (.int .i64 (C.byteV%2)) (congrArg (Value.int .i64) (Int.tmod_eq_emod_of_nonneg (by omega)))<|Pl 2<|cu 3 [41] 44 ((((C.byteV%2)==1)&&(decide (3≤C.byteV)))) (fun K ar=>?_) ?_
 refine bl 41 (((C.byteV%2)==1)) (fun I=>?_) (fun I=>?_)
 have br:=ah I
 exact Pl 3<|ce ar (decide (3≤C.byteV)) (by rw[I];rfl)
 have br:=aj I
 exact Pl 3<|ce ar false (by rw[I];rfl)
 refine Pl 1<|?_
 have au:=ud D (uz ao i) M
 refine bl 45 ((((C.byteV%2)==1)&&(decide (3≤C.byteV)))) (fun o=>?_) (fun o=>?_)
 have a1:=(aT o).1
 have a2:=(aT o).2
 have ca:=ah a1
 have cc:=of_decide_eq_true a2
 refine Pl 2<|L1<|Oc<|m1 (iU H) fun cd y=>?_
 have cf:=RC.clen H
 refine Pl 2<|?_
 refine L0<|Oc<|m2 (aY ((decide (C.byteV≤(((C.bytesC 1).l.length:Nat) : Int)))) 5 (RC.upd H y az (aC.step (RC.u H) y))) fun cg bt Q=>?_
 refine fY bt fun x66 bu bv=>?_
 refine ng<|Pl 1<|L0<|Oc<|m3 (ed bv) fun ch bw S ci=>Pl 1<|ng<|Pl 3<|L0<|Oc<|m2 (aY ((x66.byteV==6)) 9 bw) fun cj bz T=>nl<|?_
 refine tn<|go<|Pl 2<|L0<|Oi (C.byteV-1)<|?_
 have ck:=nD (x:=(C.byteV-1)) (by omega)
 refine L0<|Oe (.int .i64 (IntKind.i64.wrap (Int.tdiv (C.byteV-1) 2))) (.int .i64 (Int.tdiv (C.byteV-1) 2)) (congrArg (Value.int .i64) (lL (by omega) (by omega)))<|L0<|Oc<|nW (gz (n:=(Int.tdiv (C.byteV-1) 2)) (by omega) bz) fun aw ax cl aE cm cn bA a3=>?_
 refine fY bA fun x82 bB aF=>?_
 refine Pl 1<|?_
 have aH:=uz y (u1 Q (u1 S (u1 T a3 im) im) im)
 have a4:=u1 i aH im
 have aI:=nb (RC.lt Z) (le r c.size) j
 refine L0<|bX (aW a4 (Ne.symm aI) an) 3 #[.int .u16 0,.int .u16 0,.int .u16 0,.slice aw ((((x66.bytesC 1).need (x66.byteV==6) 9).wordsR (Int.tdiv (C.byteV-1) 2)).length) ax] fun co bC a5=>nt<|go<|Pl 1<|L0<|bO bC<|L0<|cL (m:=1) (e:=109) #[.int .u16 0,.int .u16 0,.int .u16 0,.slice aw ((((x66.bytesC 1).need (x66.byteV==6) 9).wordsR (Int.tdiv (C.byteV-1) 2)).length) ax] fun cr cs ct bD a6=>?_
 have a7:=aD a5 a6
 have bE:=kP (R:=bq true) (x:=(dj.mk 0 0 0 (((x66.bytesC 1).need (x66.byteV==6) 9).wordsR (Int.tdiv (C.byteV-1) 2)))) bD rfl ⟨_,rfl,((ap aE a7 (fun x hx=>(aa (fun e=>(aB (am a0) (le (le (le (le (le k.size i.size) y.size) Q.size) S.size) T.size) aE) (e▸hx)) az)) (fun _ _ h=>h))).rd,ez (x:=0) (by omega),ez (x:=0) (by omega),ez (x:=0) (by omega)⟩
 have aJ:=ue t (us a4 a7) (le c.size j)
 have aK:=ap d aJ (fun x hx=>(aa (fun e=>(RC.nrow a d (by decide)) (e▸hx)) az)) (bq.upd16 aJ (aq (RC.safe a _ (by decide)) aG))
 refine L0<|ie (xs:=L) (ys:=([(dj.mk 0 0 0 (((x66.bytesC 1).need (x66.byteV==6) 9).wordsR (Int.tdiv (C.byteV-1) 2)))])) (.agg #[.int .u16 0,.int .u16 0,.int .u16 0,.slice none 0 0]) 4 32 aK bE (by simp) bq.ones (fun w' hv=>bq.upd16 hv (cP (dt _ aK (by decide)) aG)) (by(try simp only[List.length_append,List.length_cons,List.length_nil,aA]);omega) (le (le (le (le (le (le (le (le (le (le (le (le N.size r) c.size) G.size) k.size) i.size) y.size) Q.size) S.size) T.size) a3.size) a5.size) a6.size) fun bF bG cv bI aL=>Pl 1<|nl<|bn<|?_
 subst bB bu
 have hC2:(bK s C).2.1=(((((C.bytesC 1).need (decide (C.byteV≤(((C.bytesC 1).l.length:Nat) : Int))) 5).bytesC 1).need (((C.bytesC 1).need (decide (C.byteV≤(((C.bytesC 1).l.length:Nat) : Int))) 5).byteV==6) 9).wordsC (Int.tdiv (C.byteV-1) 2)):=by show eN C=_;(try simp only[eN,eO,fM,ia,g,E,F,o,a1,a2,bs,if_true,if_false,decide_true,decide_false]);all_goals rfl
 have hM2:[(bK s C).2.2]=[(dj.mk 0 0 0 (((((C.bytesC 1).need (decide (C.byteV≤(((C.bytesC 1).l.length:Nat) : Int))) 5).bytesC 1).need (((C.bytesC 1).need (decide (C.byteV≤(((C.bytesC 1).l.length:Nat) : Int))) 5).byteV==6) 9).wordsR (Int.tdiv (C.byteV-1) 2)))]:=by show[eO C]=_;(try simp only[eN,eO,fM,ia,g,E,F,o,a1,a2,bs,if_true,if_false,decide_true,decide_false]);all_goals rfl
 have hS2:(bK s C).1=s:=by(try (show s=_));(try simp only[eK,← Int.add_assoc]);all_goals rfl
 have hlt:=jm s C (by omega)
 have h9:=iG (one:=bK) O (by omega) (by omega) hlt
 rw[hC2,hM2,hS2] at h9
 rw[hC2] at hlt
 have aM:=ut (aC.mono (S':=(P :: (ob B++[]))) a7 (ac im ay)) aL (av il ay)
 have aO:=ut au (ut (aC.mono (S':=(f :: (P :: (ob B++[])))) aH (ac im ay)) aM (ac im (av il ay))) (ac (nr M) (ac (ni D.size j) (av (aN d lr) ay)))
 have aP:=uz t a4
 exact gB ((n-1),(((((C.bytesC 1).need (decide (C.byteV≤(((C.bytesC 1).l.length:Nat) : Int))) 5).bytesC 1).need (((C.bytesC 1).need (decide (C.byteV≤(((C.bytesC 1).l.length:Nat) : Int))) 5).byteV==6) 9).wordsC (Int.tdiv (C.byteV-1) 2)),(L++[(dj.mk 0 0 0 (((((C.bytesC 1).need (decide (C.byteV≤(((C.bytesC 1).l.length:Nat) : Int))) 5).bytesC 1).need (((C.bytesC 1).need (decide (C.byteV≤(((C.bytesC 1).l.length:Nat) : Int))) 5).byteV==6) 9).wordsR (Int.tdiv (C.byteV-1) 2)))]),bF,bG,s) ⟨aO,(le (le (le (le (le (le (le (le (le (le (le (le r c.size) G.size) k.size) i.size) y.size) Q.size) S.size) T.size) a3.size) a5.size) a6.size) aL.size),(RC.upd aF aM (aa aI (bj (RC.nrow aF (ap d aP (fun x hx=>(aa (fun e=>(RC.nrow a d (by decide)) (e▸hx)) az)) (bq.upd16 aP (aq (RC.safe a _ (by decide)) aG))) (by decide)) az)) aO),bI,(by(try dsimp only);omega),(by(try dsimp only);intro he;omega),(by(try dsimp only);simp only[List.length_append,List.length_cons,List.length_nil];omega),h9⟩ (by omega)
 refine Pl 5<|L0<|Oc<|m2 (aY (false) 5 H) fun cw bJ U=>ng<|Pl 1<|L0<|Oc<|m3 (ed bJ) fun cx bL V cy=>Pl 1<|ng<|Pl 3<|L0<|Oc<|m2 (aY (((((C.bytesC 1).need false 5).byteV)==6)) 9 bL) fun cz bM W=>?_
 refine fY bM fun X bN bP=>?_
 refine nt<|go<|Pl 2<|L0<|Oi (C.byteV-1)<|?_
 have cA:=nD (x:=(C.byteV-1)) (by omega)
 refine L0<|Oe (.int .i64 (IntKind.i64.wrap (Int.tdiv (C.byteV-1) 2))) (.int .i64 (Int.tdiv (C.byteV-1) 2)) (congrArg (Value.int .i64) (lL (by omega) (by omega)))<|L0<|Oc<|nW (gz (n:=(Int.tdiv (C.byteV-1) 2)) (by omega) bP) fun aQ aU cB aV cC cD aX a8=>Pl 1<|?_
 have aZ:=u1 U (u1 V (u1 W a8 im) im) im
 have a9:=u1 i aZ im
 have b0:=nb (RC.lt Z) (le r c.size) j
 refine L0<|bX (aW a9 (Ne.symm b0) an) 3 #[.int .u16 0,.int .u16 0,.int .u16 0,.slice aQ ((X.wordsR (Int.tdiv (C.byteV-1) 2)).length) aU] fun cE bQ ab=>nt<|go<|Pl 1<|L0<|bO bQ<|L0<|cL (m:=1) (e:=109) #[.int .u16 0,.int .u16 0,.int .u16 0,.slice aQ ((X.wordsR (Int.tdiv (C.byteV-1) 2)).length) aU] fun cF cG cH bR ad=>?_
 have ae:=aD ab ad
 have bS:=kP (R:=bq true) (x:=(dj.mk 0 0 0 (X.wordsR (Int.tdiv (C.byteV-1) 2)))) bR rfl ⟨_,rfl,((ap aV ae (fun x hx=>(aa (fun e=>(aB (am a0) (le (le (le (le k.size i.size) U.size) V.size) W.size) aV) (e▸hx)) az)) (fun _ _ h=>h))).rd,ez (x:=0) (by omega),ez (x:=0) (by omega),ez (x:=0) (by omega)⟩
 have b1:=ue t (us a9 ae) (le c.size j)
 have b2:=ap d b1 (fun x hx=>(aa (fun e=>(RC.nrow a d (by decide)) (e▸hx)) az)) (bq.upd16 b1 (aq (RC.safe a _ (by decide)) aG))
 refine L0<|ie (xs:=L) (ys:=([(dj.mk 0 0 0 (X.wordsR (Int.tdiv (C.byteV-1) 2)))])) (.agg #[.int .u16 0,.int .u16 0,.int .u16 0,.slice none 0 0]) 4 32 b2 bS (by simp) bq.ones (fun w' hv=>bq.upd16 hv (cP (dt _ b2 (by decide)) aG)) (by(try simp only[List.length_append,List.length_cons,List.length_nil,aA]);omega) (le (le (le (le (le (le (le (le (le (le (le N.size r) c.size) G.size) k.size) i.size) U.size) V.size) W.size) a8.size) ab.size) ad.size) fun bT bU cI bV b3=>Pl 1<|nl<|bn<|?_
 subst bN
 have hC2:(bK s C).2.1=(((((C.bytesC 1).need false 5).bytesC 1).need ((((C.bytesC 1).need false 5).byteV)==6) 9).wordsC (Int.tdiv (C.byteV-1) 2)):=by show eN C=_;(try simp only[eN,eO,fM,ia,g,E,F,o,bs,if_true,if_false,decide_true,decide_false]);all_goals rfl
 have hM2:[(bK s C).2.2]=[(dj.mk 0 0 0 (((((C.bytesC 1).need false 5).bytesC 1).need ((((C.bytesC 1).need false 5).byteV)==6) 9).wordsR (Int.tdiv (C.byteV-1) 2)))]:=by show[eO C]=_;(try simp only[eN,eO,fM,ia,g,E,F,o,bs,if_true,if_false,decide_true,decide_false]);all_goals rfl
 have hS2:(bK s C).1=s:=by(try (show s=_));(try simp only[eK,← Int.add_assoc]);all_goals rfl
 have hlt:=jm s C (by omega)
 have h9:=iG (one:=bK) O (by omega) (by omega) hlt
 rw[hC2,hM2,hS2] at h9
 rw[hC2] at hlt
 have b4:=ut (aC.mono (S':=(P :: (ob B++[]))) ae (ac im ay)) b3 (av il ay)
 have b5:=ut au (ut (aC.mono (S':=(f :: (P :: (ob B++[])))) aZ (ac im ay)) b4 (ac im (av il ay))) (ac (nr M) (ac (ni D.size j) (av (aN d lr) ay)))
 have b6:=uz t a9
 exact gB ((n-1),(((((C.bytesC 1).need false 5).bytesC 1).need ((((C.bytesC 1).need false 5).byteV)==6) 9).wordsC (Int.tdiv (C.byteV-1) 2)),(L++[(dj.mk 0 0 0 (((((C.bytesC 1).need false 5).bytesC 1).need ((((C.bytesC 1).need false 5).byteV)==6) 9).wordsR (Int.tdiv (C.byteV-1) 2)))]),bT,bU,s) ⟨b5,(le (le (le (le (le (le (le (le (le (le (le r c.size) G.size) k.size) i.size) U.size) V.size) W.size) a8.size) ab.size) ad.size) b3.size),(RC.upd aX b4 (aa b0 (bj (RC.nrow aX (ap d b6 (fun x hx=>(aa (fun e=>(RC.nrow a d (by decide)) (e▸hx)) az)) (bq.upd16 b6 (aq (RC.safe a _ (by decide)) aG))) (by decide)) az)) b5),bV,(by(try dsimp only);omega),(by(try dsimp only);intro he;omega),(by(try dsimp only);simp only[List.length_append,List.length_cons,List.length_nil];omega),h9⟩ (by omega)
 refine xt<|tx<|tx<|bx<|tn<|sq<|sg<|Pl 3<|?_
 have af:=RC.upd a c az (aC.step (RC.u a) c)
 refine L0<|ei (p:=⟨f,3,none⟩) (v:=.int .i64 C.e) (RC.fld af)<|Pl 1<|nt<|cb ((C.e==2)) (fun J=>?_) (fun J=>?_)
 have bW:=ah J
 refine sg<|Pl 2<|nt<|rt<|tr<|rr (.tuple #[.slice none 0 0,.int .i64 5])<|?_
 obtain⟨ig,iO⟩:=fG O g
 have hw:bp (aR bK b.length 0 ⟨b,false,0⟩ []).1.e=5:=by unfold bp;rw[ig,if_pos J]
 refine⟨none,0,0,by rw[hw],fun h=>absurd (hw.symm.trans h) (by decide),D⟩
 have bW:=aj J
 refine bf<|sq<|Rg 7 (fun w'=>w'.cell? ⟨f,3,none⟩=some (.int .i64 C.e)) fun cJ Y=>?_
 refine bi (RC.fld (RC.upd af Y az (aC.step (RC.u af) Y))) fun q=>Rt 0 q<|Rt 1 q<|Rt 2 q<|Rt 3 q<|Rl 4 q (fun _ hs=>hs)<|Rt 5 q<|Rt 6 q<|re<|tn<|rt<|rr (.tuple #[.slice B L.length cq,.int .i64 C.e])<|?_
 obtain⟨ig,iO⟩:=fG O g
 have hw:bp (aR bK b.length 0 ⟨b,false,0⟩ []).1.e=C.e:=by unfold bp;rw[ig,if_neg (by rw[J];decide)]
 have b8:=aD c Y
 refine⟨_,_,_,by rw[hw],fun h=>by rw[iO (hw.symm.trans h)];exact(ap d b8 (fun x hx=>az) (bq.upd16 b8 aG)),(aD D Y)⟩
theorem vt{m:Md}{A:Option Addr}{cp:Nat}{b:List Int}{w:World}{dir:Int}(hsl:b9 m w (.slice A b.length cp) b)(hb:b.length≤1048576) :
    Calls Tryz.prog 163 #[.int .i64 dir,.int .u8 21,.slice A b.length cp] w (gg (aR cM b.length 0 ⟨b,false,0⟩ []) w):=by
 have hln:(b.length:Int)≤1048576:=by omega
 refine en 108 Tryz.func163 rfl<|sg<|Pl 2<|ng<|Pl 2<|L0<|dv #[.slice A b.length cp,.int .i64 0,.bool false,.int .i64 0] fun d a3 N aF O=>Pl 1<|nt<|sq<|?_
 refine go<|Pl 1<|ng<|Pl 1<|nt<|sq<|bk<|?_
 have a4:RC w _ A cp b a3 d (ak.mk b false 0):=⟨hsl,O,N,⟨0,aF,Nat.zero_le _,rfl⟩,by omega⟩
 refine iN (fun x=>[(0,.int .i64 dir),(1,.int .u8 21),(6,.slice none 0 0),(7,.int .i64 0),(8,.pointer (some ⟨d,0,none⟩)),(9,.slice x.2.2.2.1 x.2.2.1.length x.2.2.2.2.1),(10,.int .i64 x.2.2.2.2.2)]) (fun(x:Nat × ak × List dj × Option Addr × Nat × Int) w'=>aC [] w w'∧a3.heap.size≤w'.heap.size∧RC w m A cp b w' d x.2.1∧aS w.heap.size 109 4 (bq true) w' (.slice x.2.2.2.1 x.2.2.1.length x.2.2.2.2.1) x.2.2.1∧(0≤x.2.2.2.2.2)∧(x.2.1.e=0→x.2.2.2.2.2≤245)∧(x.2.2.1.length+x.2.1.l.length≤b.length)∧((x.2.1.e=0∧x.2.1.l.length≤x.1∧aR cM x.1 x.2.2.2.2.2 x.2.1 x.2.2.1=aR cM b.length 0 ⟨b,false,0⟩ [])∨(x.2.1.e≠0∧(aR cM b.length 0 ⟨b,false,0⟩ []).1=x.2.1))) (fun x=>x.2.1.l.length) (b.length,(ak.mk b false 0),[],none,0,0) ⟨O,lr,a4,(aS.nil w.heap.size _ _ (bq true) _),(by(try dsimp only);omega),(fun _=>(show(0:Int)≤245 from by decide)),(by(try dsimp only);simp),.inl ⟨rfl,Nat.le_refl _,rfl⟩⟩ ?_
 rintro⟨n,C,L,B,cq,s⟩ a5 ⟨aH,P,aI,aJ,aK,aL,aM,aP⟩
 refine iy [(0,.int .i64 dir),(1,.int .u8 21),(6,.slice none 0 0),(7,.int .i64 0),(8,.pointer (some ⟨d,0,none⟩)),(9,.slice B L.length cq),(10,.int .i64 s)] ?_
 have a:RC w m A cp b a5 d C:=aI
 have hlC:=RC.clen a
 have hrC:eM C:=RC.rng a
 have j:aS w.heap.size 109 4 (bq true) a5 (.slice B L.length cq) L:=aJ
 have bh:0≤s:=aK
 have bm:C.e=0→s≤245:=aL
 have bo:L.length+C.l.length≤b.length:=aM
 have Q:(C.e=0∧C.l.length≤n∧aR cM n s C L=aR cM b.length 0 ⟨b,false,0⟩ [])∨(C.e≠0∧(aR cM b.length 0 ⟨b,false,0⟩ []).1=C):=aP
 refine sq<|sg<|Pl 1<|L0<|Oc<|m1 (iU a) fun br c=>?_
 have bt:=RC.clen a
 refine Pl 2<|cu 6 [20] 26 (((decide (0<((C.l.length:Nat) : Int)))&&(C.e==0))) (fun K a6=>?_) ?_
 refine bl 20 ((decide (0<((C.l.length:Nat) : Int)))) (fun r=>?_) (fun r=>?_)
 have aU:=of_decide_eq_true r
 refine Pl 3<|?_
 exact L1<|ei (p:=⟨d,3,none⟩) (v:=.int .i64 C.e) (RC.fld (RC.upd a c az (aC.step (RC.u a) c)))<|Pl 2<|ce a6 (C.e==0) (by rw[r];rfl)
 have aU:=of_decide_eq_false r
 exact Pl 6<|ce a6 false (by rw[r];rfl)
 refine nt<|?_
 have F:=aD aH c
 refine cb (((decide (0<((C.l.length:Nat) : Int)))&&(C.e==0))) (fun g=>?_) (fun g=>?_)
 have S:=(aT g).1
 have T:=(aT g).2
 have bu:=of_decide_eq_true S
 have bv:=ah T
 refine bf<|bk<|sg<|Pl 1<|L0<|bH #[.int .u16 0,.int .u16 0,.int .u16 0,.slice none 0 0] fun U bw k a7 V=>L0<|b7 a7 #[.int .u16 0,.int .u16 0,.int .u16 0,.slice none 0 0] fun bz aV G=>nt<|sq<|sg<|Pl 6<|nl<|?_
 refine tn<|c0<|sg<|Pl 1<|?_
 have a8:=ud V G k
 have H:=aD c a8
 refine L0<|Oc<|m5 (xO (RC.upd a H az (aC.step (RC.u a) H))) fun bA aX aZ b0 b1 t=>?_
 obtain⟨bB,bC⟩:=aX
 obtain⟨bD,bE⟩:=aZ
 obtain⟨bF,bG⟩:=b0
 have y:=nb (RC.lt a4) (le P c.size) k
 refine L0<|b7 (aW t (Ne.symm y) aV) #[.int .u16 ((aQ C).file),.int .u16 ((aQ C).record),.int .u16 ((aQ C).count),.slice none 0 0] fun bI b2 I=>ng<|Pl 2<|nt<|c1<|sq<|Rg 9 (fun w'=>w'.cell? ⟨U,2,none⟩=some (.int .u16 ((aQ C).count))) fun bJ z=>?_
 have a9:=ub z b2
 refine bi (ae a9 rfl) fun o=>Rt 0 o<|Rt 1 o<|Rl 2 o (fun _ hs=>hs)<|Rr 3 o (.int .i64 ((aQ C).count)) (fun _ _=>ch (.int .i64 (IntKind.i64.wrap ((aQ C).count))) (by kernel_rfl) (congrArg (Value.int .i64) (i64_in (by omega))))<|Rr 4 o (.int .i64 (2*((aQ C).count))) (fun _ _=>ch (.int .i64 (IntKind.i64.wrap (2*((aQ C).count)))) (by kernel_rfl) (congrArg (Value.int .i64) (IntWalk.i64_in _ (by omega))))<|Rt 5 o<|?_
 have ab:=aD I z
 have W:=us t ab
 have ad:=ud F (ue a8 W k) N
 have J:=RC.upd b1 ab (aa y az) ad
 refine R0 6 rfl<|Oc<|m1 (iU J) fun bK f=>?_
 have bL:=RC.clen J
 have af:=ub f a9
 refine bi (ae af rfl) fun b3=>Rt 7 b3<|?_
 refine R0 8 rfl<|Oc<|m2 (aY ((decide ((2*((aQ C).count))≤(((dw C).l.length:Nat) : Int)))) 5 (RC.upd J f az (aC.step (RC.u J) f))) fun bM b4 q=>?_
 refine fY b4 fun x93 b5 b6=>?_
 have X:=aW q (Ne.symm y) af
 refine bi (ae X rfl) fun bN=>re<|tn<|go<|Pl 2<|L0<|aO X 2<|L0<|Oi ((aQ C).count)<|L0<|Oc<|nW (gz (n:=(aQ C).count) (by omega) b6) fun ag ai bP al bQ bR an D=>Pl 1<|?_
 refine L0<|bX (aW D (Ne.symm y) X) 3 #[.int .u16 ((aQ C).file),.int .u16 ((aQ C).record),.int .u16 ((aQ C).count),.slice ag ((x93.wordsR ((aQ C).count)).length) ai] fun bS b8 Y=>nt<|go<|Pl 1<|L0<|bO b8<|L0<|cL (m:=1) (e:=109) #[.int .u16 ((aQ C).file),.int .u16 ((aQ C).record),.int .u16 ((aQ C).count),.slice ag ((x93.wordsR ((aQ C).count)).length) ai] fun bT bU bV ba Z=>?_
 have a0:=aD Y Z
 have bb:=kP (R:=bq true) (x:=(dj.mk ((aQ C).file) ((aQ C).record) ((aQ C).count) (x93.wordsR ((aQ C).count)))) ba rfl ⟨_,rfl,((ap al a0 (fun x hx=>(aa (fun e=>(aB (am a7) (le (le (le (le (le G.size t.size) I.size) z.size) f.size) q.size) al) (e▸hx)) az)) (fun _ _ h=>h))).rd,ez (x:=(aQ C).file) (by omega),ez (x:=(aQ C).record) (by omega),ez (x:=(aQ C).count) (by omega)⟩
 have ao:=uz f (ui q (us D a0))
 have ar:=ue H (ut W ao (ac im (ac im ay))) (le c.size k)
 have au:=ap j ar (fun x hx=>(aa (fun e=>(RC.nrow a j (by decide)) (e▸hx)) az)) (bq.upd16 ar (aq (RC.safe a _ (by decide)) aG))
 refine L0<|ie (xs:=L) (ys:=([(dj.mk ((aQ C).file) ((aQ C).record) ((aQ C).count) (x93.wordsR ((aQ C).count)))])) (.agg #[.int .u16 0,.int .u16 0,.int .u16 0,.slice none 0 0]) 4 32 au bb (by simp) bq.ones (fun w' hv=>bq.upd16 hv (cP (dt _ au (by decide)) aG)) (by(try simp only[List.length_append,List.length_cons,List.length_nil,aA]);omega) (le (le (le (le (le (le (le (le (le (le (le (le O.size P) c.size) V.size) G.size) t.size) I.size) z.size) f.size) q.size) D.size) Y.size) Z.size) fun bc bd bW be a1=>Pl 1<|nl<|bn<|?_
 subst b5
 have hC2:(cM s C).2.1=(((dw C).need (decide ((2*((aQ C).count))≤(((dw C).l.length:Nat) : Int))) 5).wordsC ((aQ C).count)):=by show jb C=_;(try simp only[jb,j5,mz,g,S,T,bs,if_true,if_false,decide_true,decide_false]);all_goals rfl
 have hM2:[(cM s C).2.2]=[(dj.mk ((aQ C).file) ((aQ C).record) ((aQ C).count) (((dw C).need (decide ((2*((aQ C).count))≤(((dw C).l.length:Nat) : Int))) 5).wordsR ((aQ C).count)))]:=by show[j5 C]=_;(try simp only[jb,j5,mz,g,S,T,bs,if_true,if_false,decide_true,decide_false]);all_goals rfl
 have hS2:(cM s C).1=s:=by(try (show s=_));(try simp only[eK,← Int.add_assoc]);all_goals rfl
 have hlt:=nG s C (by omega)
 have h9:=iG (one:=cM) Q (by omega) (by omega) hlt
 rw[hC2,hM2,hS2] at h9
 rw[hC2] at hlt
 have aw:=ut ad (ut (aC.mono (S':=(d :: (U :: (ob B++[])))) ao (ac im (ac im ay))) a1 (av il ay)) (ac (nr N) (ac (ni F.size k) (av (aN j lr) ay)))
 have ax:=ue H (u1 W (uz f (u1 q D im)) im) (le c.size k)
 exact gB ((n-1),(((dw C).need (decide ((2*((aQ C).count))≤(((dw C).l.length:Nat) : Int))) 5).wordsC ((aQ C).count)),(L++[(dj.mk ((aQ C).file) ((aQ C).record) ((aQ C).count) (((dw C).need (decide ((2*((aQ C).count))≤(((dw C).l.length:Nat) : Int))) 5).wordsR ((aQ C).count)))]),bc,bd,s) ⟨aw,(le (le (le (le (le (le (le (le (le (le (le (le P c.size) V.size) G.size) t.size) I.size) z.size) f.size) q.size) D.size) Y.size) Z.size) a1.size),(RC.upd an (ut (aC.mono (S':=(U :: (ob B++[]))) a0 (ac im ay)) a1 (av il ay)) (aa y (bj (RC.nrow an (ap j ax (fun x hx=>(aa (fun e=>(RC.nrow a j (by decide)) (e▸hx)) az)) (bq.upd16 ax (aq (RC.safe a _ (by decide)) aG))) (by decide)) az)) aw),be,(by(try dsimp only);omega),(by(try dsimp only);intro he;omega),(by(try dsimp only);simp only[List.length_append,List.length_cons,List.length_nil];omega),h9⟩ (by omega)
 refine xt<|tx<|tx<|bx<|tn<|sq<|sg<|Pl 3<|?_
 have a2:=RC.upd a c az (aC.step (RC.u a) c)
 refine L0<|ei (p:=⟨d,3,none⟩) (v:=.int .i64 C.e) (RC.fld a2)<|Pl 1<|nt<|cb ((C.e==2)) (fun E=>?_) (fun E=>?_)
 have bg:=ah E
 refine sg<|Pl 2<|nt<|rt<|tr<|rr (.tuple #[.slice none 0 0,.int .i64 5])<|?_
 obtain⟨ig,iO⟩:=fG Q g
 have hw:bp (aR cM b.length 0 ⟨b,false,0⟩ []).1.e=5:=by unfold bp;rw[ig,if_pos E]
 refine⟨none,0,0,by rw[hw],fun h=>absurd (hw.symm.trans h) (by decide),F⟩
 have bg:=aj E
 refine bf<|sq<|Rg 7 (fun w'=>w'.cell? ⟨d,3,none⟩=some (.int .i64 C.e)) fun bY M=>?_
 refine bi (RC.fld (RC.upd a2 M az (aC.step (RC.u a2) M))) fun i=>Rt 0 i<|Rt 1 i<|Rt 2 i<|Rt 3 i<|Rl 4 i (fun _ hs=>hs)<|Rt 5 i<|Rt 6 i<|re<|tn<|rt<|rr (.tuple #[.slice B L.length cq,.int .i64 C.e])<|?_
 obtain⟨ig,iO⟩:=fG Q g
 have hw:bp (aR cM b.length 0 ⟨b,false,0⟩ []).1.e=C.e:=by unfold bp;rw[ig,if_neg (by rw[E];decide)]
 have aE:=aD c M
 refine⟨_,_,_,by rw[hw],fun h=>by rw[iO (hw.symm.trans h)];exact(ap j aE (fun x hx=>az) (bq.upd16 aE aG)),(aD F M)⟩
theorem nu{m:Md}{v:Value}{b:List Int}{w:World}(h:b9 m w v b)(hb:b.length≤1048576) :
    Calls Tryz.prog 163 #[.int .i64 0,.int .u8 20,v] w (gg (aR cK b.length 0 ⟨b,false,0⟩ []) w):=by
  obtain⟨A,cp,rfl,_,_⟩:=h.shape
  exact vB h hb
theorem nk{m:Md}{v:Value}{b:List Int}{w:World}(h:b9 m w v b)(hb:b.length≤1048576) :
    Calls Tryz.prog 163 #[.int .i64 1,.int .u8 20,v] w (gg (aR bK b.length 0 ⟨b,false,0⟩ []) w):=by
  obtain⟨A,cp,rfl,_,_⟩:=h.shape
  exact uI h hb
theorem nh{m:Md}{v:Value}{b:List Int}{w:World}{dir:Int}(h:b9 m w v b)(hb:b.length≤1048576) :
    Calls Tryz.prog 163 #[.int .i64 dir,.int .u8 21,v] w (gg (aR cM b.length 0 ⟨b,false,0⟩ []) w):=by
  obtain⟨A,cp,rfl,_,_⟩:=h.shape
  exact vt h hb
open Go.RowKit
theorem gL{x:Int}(h:bp x=0) : x=0:=by
  unfold bp at h
  split at h
  · cases h
  · exact h
theorem jM{x:Int}(h:¬ bp x=0) : (x != 0)=true:=by
  rw[bne_iff_ne]
  rintro rfl
  exact h rfl
theorem ij:((0:Int)!=0)=false:=rfl
theorem tW{m:Md}{A:Option Addr}{cp:Nat}{b:List Int}{w:World}(hsl:b9 m w (.slice A b.length cp) b)(hb:b.length≤1048576) :
    Calls Tryz.prog 96 #[.int .i64 0,.int .u8 20,.slice A b.length cp] w (cy (.slice A b.length cp) b (bP cK fC 20 b) w):=by
 have hln:(b.length:Int)≤1048576:=by omega
 have hcp:b.length≤cp:=by obtain⟨_,_,hv,h1,_⟩:=aL.shape hsl;injection hv with _ _ h3;omega
 have hrb:=b9.range hsl
 refine en 101 Tryz.func96 rfl<|sg<|L0<|bH mZ fun a9 ab i g j=>Pl 1<|nt<|sq<|sg<|Pl 6<|nt<|c0<|?_
 refine bf<|sq<|sg<|Pl 6<|nt<|c0<|bf<|sq<|sg<|?_
 refine Pl 3<|nt<|cb ((((b.length:Nat) : Int)==0)) (fun a=>?_) (fun a=>?_)
 have J:=ah a
 refine sg<|Pl 1<|L0<|b7 g mZ fun ac L M=>Pl 1<|nt<|rt<|tr<|bJ L (.int .i64 2)<|?_
 have hs:bP cK fC 20 b=(aP.zero,2):=by
   unfold bP dQ cV fC
   (try simp only[a,bs,if_true,if_false,decide_true,decide_false,ij,reduceIte])
   all_goals rfl
 rw[hs]
 exact bv (ud j M i)
 have J:=aj a
 refine bf<|sg<|Pl 1<|?_
 have t:=b9.old hsl j
 refine gh (b9.at_ t 0 (by omega)) fun N O Q R ad=>L0<|m8 b.length 0 Q (by omega)<|L0<|ei (p:=⟨N,O+0,none⟩) (v:=.int .u8 (b.getD 0 0)) R<|L0<|Oi (b.getD 0 0)<|Pl 1<|ng<|Pl 3<|cu 3 [36] 39 (((decide (9≤(b.getD 0 0)))&&(decide ((b.getD 0 0)≤251)))) (fun K C=>?_) ?_
 refine bl 36 ((decide (9≤(b.getD 0 0)))) (fun l=>?_) (fun l=>?_)
 have S:=of_decide_eq_true l
 exact Pl 3<|ce C (decide ((b.getD 0 0)≤251)) (by rw[l];rfl)
 have S:=of_decide_eq_false l
 exact Pl 3<|ce C false (by rw[l];rfl)
 refine Pl 1<|nt<|sq<|sg<|Pl 6<|nt<|c1<|go<|Pl 3<|cu 3 [48] 51 (((decide (7≤(b.getD 0 0)))&&(decide ((b.getD 0 0)≤245)))) (fun K D=>?_) ?_
 refine bl 48 ((decide (7≤(b.getD 0 0)))) (fun o=>?_) (fun o=>?_)
 have T:=of_decide_eq_true o
 exact Pl 3<|ce D (decide ((b.getD 0 0)≤245)) (by rw[o];rfl)
 have T:=of_decide_eq_false o
 exact Pl 3<|ce D false (by rw[o];rfl)
 refine Pl 1<|cu 4 [52] 56 ((((decide (7≤(b.getD 0 0)))&&(decide ((b.getD 0 0)≤245)))&&(((b.getD 0 0)%7)==0))) (fun K E=>?_) ?_
 refine bl 52 (((decide (7≤(b.getD 0 0)))&&(decide ((b.getD 0 0)≤245)))) (fun q=>?_) (fun q=>?_)
 have U:=(aT q).1
 have V:=(aT q).2
 have ae:=of_decide_eq_true U
 have af:=of_decide_eq_true V
 exact Pl 1<|L1<|Oe (.int .i64 (Int.tmod (b.getD 0 0) 7)) (.int .i64 ((b.getD 0 0)%7)) (congrArg (Value.int .i64) (Int.tmod_eq_emod_of_nonneg (by omega)))<|Pl 2<|ce E (((b.getD 0 0)%7)==0) (by rw[q];rfl)
 exact Pl 4<|ce E false (by rw[q];rfl)
 refine Pl 1<|nt<|sq<|sg<|Pl 6<|nt<|c0<|bf<|sq<|sq<|?_
 refine go<|Pl 2<|nt<|cb ((!(((decide (7≤(b.getD 0 0)))&&(decide ((b.getD 0 0)≤245)))&&(((b.getD 0 0)%7)==0)))) (fun d=>?_) (fun d=>?_)
 have f:(((decide (7≤(b.getD 0 0)))&&(decide ((b.getD 0 0)≤245)))&&(((b.getD 0 0)%7)==0))=false:=by simpa only[Bool.not_eq_true',Bool.not_eq_false'] using d
 refine sg<|Pl 1<|L0<|b7 g mZ fun ag W X=>Pl 1<|nt<|rt<|tr<|bJ W (.int .i64 5)<|?_
 have hs:bP cK fC 20 b=(aP.zero,5):=by
   unfold bP dQ cV fC
   (try simp only[a,d,f,bs,if_true,if_false,decide_true,decide_false,ij,reduceIte])
   all_goals rfl
 rw[hs]
 exact bv (ud j X i)
 have f:(((decide (7≤(b.getD 0 0)))&&(decide ((b.getD 0 0)≤245)))&&(((b.getD 0 0)%7)==0))=true:=by simpa only[Bool.not_eq_true',Bool.not_eq_false'] using d
 have k:=(aT f).1
 have r:=(aT f).2
 have q32naa:=(aT k).1
 have q32nab:=(aT k).2
 have q32naap:=of_decide_eq_true q32naa
 have q32nabp:=of_decide_eq_true q32nab
 have q32nbp:=ah r
 refine bf<|sq<|sg<|Pl 3<|L0<|Oi ((b.getD 0 0)+1)<|Pl 1<|nt<|cb ((decide (((b.length:Nat) : Int)<((b.getD 0 0)+1)))) (fun h=>?_) (fun h=>?_)
 have Y:=of_decide_eq_true h
 refine sg<|Pl 1<|L0<|b7 g mZ fun ai Z a0=>Pl 1<|nt<|rt<|tr<|bJ Z (.int .i64 2)<|?_
 have hs:bP cK fC 20 b=(aP.zero,2):=by
   unfold bP dQ cV fC
   (try simp only[a,d,f,k,q32naa,q32nab,r,h,bs,if_true,if_false,decide_true,decide_false,ij,reduceIte])
   all_goals rfl
 rw[hs]
 exact bv (ud j a0 i)
 have Y:=of_decide_eq_false h
 refine bf<|sg<|Pl 4<|L0<|Oi ((b.getD 0 0)+1)<|oT (i4 (P:=Tryz.prog) 22 5 1 Tryz.underlying22 rfl rfl A b.length cp (lo:=1) (up:=((b.getD 0 0)+1)) 1 ((((b.getD 0 0)+1)).toNat) (by omega) (by omega) (by omega) (by omega) (by omega)) fun u hrun43 F=>L0<|iP (.slice u (((((b.getD 0 0)+1)).toNat)-1) (cp-1)) (eZ (kl:=.i64) (kh:=.i64) (lo:=1) (hi:=((b.getD 0 0)+1)) (A:=A) (n:=b.length) (c:=cp) rfl Tryz.underlying22 (by kernel_rfl) (by kernel_rfl) (by kernel_rfl) (hrun43 _ _ _))<|?_
 by_cases hE:bp (aR cK (((b.take ((((b.getD 0 0)+1)).toNat)).drop 1)).length 0 ⟨((b.take ((((b.getD 0 0)+1)).toNat)).drop 1),false,0⟩ []).1.e=0
 refine L0<|Oc (args:=#[.int .i64 0,.int .u8 20,.slice u (((((b.getD 0 0)+1)).toNat)-1) (cp-1)])<|e2 (lO (nu (F _ _ _ _ _ t) (by rw[List.length_drop,List.length_take];omega)) hE) fun ak al y z=>?_
 obtain⟨a1,a2,rfl,an,ao⟩:=aL.shape y.rd
 refine Pl 5<|nt<|sq<|sg<|Pl 2<|nt<|c0<|bf<|sq<|sq<|?_
 refine go<|Pl 3<|L0<|Oi ((b.getD 0 0)+1)<|Pl 1<|nt<|?_
 have G:=aD j z
 refine cb ((decide (((b.getD 0 0)+1)<((b.length:Nat) : Int)))) (fun s=>?_) (fun s=>?_)
 have a3:=of_decide_eq_true s
 refine sg<|Pl 1<|?_
 refine L0<|b7 (ub z g) mZ fun ar a4 a5=>Pl 1<|nt<|rt<|tr<|bJ a4 (.int .i64 3)<|?_
 have hE0:(aR cK (((b.take ((((b.getD 0 0)+1)).toNat)).drop 1)).length 0 ⟨((b.take ((((b.getD 0 0)+1)).toNat)).drop 1),false,0⟩ []).1.e=0:=gL hE
 have hs:bP cK fC 20 b=(aP.zero,3):=by
   unfold bP dQ cV fC
   (try simp only[a,d,f,k,q32naa,q32nab,r,h,s,bs,if_true,if_false,decide_true,decide_false,hE0,ij,reduceIte])
   all_goals rfl
 rw[hs]
 exact bv (ud G a5 i)
 have a3:=of_decide_eq_false s
 refine bf<|sg<|Pl 3<|?_
 have H:=ub z g
 refine L0<|b7 H (mG 20 0 0 0 0 0 0 0 0 0 0 0 nS nS nS (.slice a1 ((aR cK (((b.take ((((b.getD 0 0)+1)).toNat)).drop 1)).length 0 ⟨((b.take ((((b.getD 0 0)+1)).toNat)).drop 1),false,0⟩ []).2.length) a2) 0 0 0 0 0 nS) fun au a6 B=>Pl 1<|nt<|rt<|bJ a6 (.int .i64 0)<|?_
 have hE0:(aR cK (((b.take ((((b.getD 0 0)+1)).toNat)).drop 1)).length 0 ⟨((b.take ((((b.getD 0 0)+1)).toNat)).drop 1),false,0⟩ []).1.e=0:=gL hE
 have hs:bP cK fC 20 b=((aP.mk 20 0 0 0 0 0 0 0 0 0 0 0 [] [] [] (aR cK (((b.take ((((b.getD 0 0)+1)).toNat)).drop 1)).length 0 ⟨((b.take ((((b.getD 0 0)+1)).toNat)).drop 1),false,0⟩ []).2 0 0 0 0 0 []),0):=by
   unfold bP dQ cV fC
   (try simp only[a,d,f,k,q32naa,q32nab,r,h,s,bs,if_true,if_false,decide_true,decide_false,hE0,ij,reduceIte])
   all_goals rfl
 rw[hs]
 exact⟨_,rfl,⟨_,_,_,_,_,rfl,aL.nil ..,aL.nil ..,(fun _ _ _=>aL.nil ..),((ap y B (fun x hx=>(aa (fun e=>(aB (am g) lr y) (e▸hx)) az)) (bq.upd16 B (aq (aU H (by decide)) aG)))).rd,aL.nil ..,(cj (by omega))⟩,(ud G B i)⟩
 refine L0<|Oc (args:=#[.int .i64 0,.int .u8 20,.slice u (((((b.getD 0 0)+1)).toNat)-1) (cp-1)])<|?_
 refine(ka (nu (F _ _ _ _ _ t) (by rw[List.length_drop,List.length_take];omega))).mono ?_
 rintro _ av ⟨aw,ax,ay,rfl,I⟩
 refine⟨_,rfl,?_⟩
 have hE1:(bp (aR cK (((b.take ((((b.getD 0 0)+1)).toNat)).drop 1)).length 0 ⟨((b.take ((((b.getD 0 0)+1)).toNat)).drop 1),false,0⟩ []).1.e != 0)=true:=by simpa using hE
 refine Pl 5<|nt<|sq<|sg<|Pl 2<|nt<|ct hE1<|sg<|Pl 2<|?_
 refine L0<|b7 (ub I g) mZ fun aA a7 a8=>Pl 1<|nt<|rt<|tr<|bJ a7 (.int .i64 (bp (aR cK (((b.take ((((b.getD 0 0)+1)).toNat)).drop 1)).length 0 ⟨((b.take ((((b.getD 0 0)+1)).toNat)).drop 1),false,0⟩ []).1.e))<|?_
 have hE3:((aR cK (((b.take ((((b.getD 0 0)+1)).toNat)).drop 1)).length 0 ⟨((b.take ((((b.getD 0 0)+1)).toNat)).drop 1),false,0⟩ []).1.e != 0)=true:=jM hE
 have hs:bP cK fC 20 b=(aP.zero,bp (aR cK (((b.take ((((b.getD 0 0)+1)).toNat)).drop 1)).length 0 ⟨((b.take ((((b.getD 0 0)+1)).toNat)).drop 1),false,0⟩ []).1.e):=by
   unfold bP dQ cV fC
   (try simp only[a,d,f,k,q32naa,q32nab,r,h,hE1,bs,if_true,if_false,decide_true,decide_false,hE3,ij,reduceIte])
   all_goals rfl
 rw[hs]
 exact bv (ud j (uz I a8) i)
theorem tR{m:Md}{A:Option Addr}{cp:Nat}{b:List Int}{w:World}(hsl:b9 m w (.slice A b.length cp) b)(hb:b.length≤1048576) :
    Calls Tryz.prog 96 #[.int .i64 1,.int .u8 20,.slice A b.length cp] w (cy (.slice A b.length cp) b (bP bK fA 20 b) w):=by
 have hln:(b.length:Int)≤1048576:=by omega
 have hcp:b.length≤cp:=by obtain⟨_,_,hv,h1,_⟩:=aL.shape hsl;injection hv with _ _ h3;omega
 have hrb:=b9.range hsl
 refine en 101 Tryz.func96 rfl<|sg<|L0<|bH mZ fun a5 a6 i g j=>Pl 1<|nt<|sq<|sg<|Pl 6<|nt<|c0<|?_
 refine bf<|sq<|sg<|Pl 6<|nt<|c0<|bf<|sq<|sg<|?_
 refine Pl 3<|nt<|cb ((((b.length:Nat) : Int)==0)) (fun a=>?_) (fun a=>?_)
 have H:=ah a
 refine sg<|Pl 1<|L0<|b7 g mZ fun a7 I J=>Pl 1<|nt<|rt<|tr<|bJ I (.int .i64 2)<|?_
 have hs:bP bK fA 20 b=(aP.zero,2):=by
   unfold bP dQ cV fA
   (try simp only[a,bs,if_true,if_false,decide_true,decide_false,ij,reduceIte])
   all_goals rfl
 rw[hs]
 exact bv (ud j J i)
 have H:=aj a
 refine bf<|sg<|Pl 1<|?_
 have s:=b9.old hsl j
 refine gh (b9.at_ s 0 (by omega)) fun L M N O a8=>L0<|m8 b.length 0 N (by omega)<|L0<|ei (p:=⟨L,M+0,none⟩) (v:=.int .u8 (b.getD 0 0)) O<|L0<|Oi (b.getD 0 0)<|Pl 1<|ng<|Pl 3<|cu 3 [36] 39 (((decide (9≤(b.getD 0 0)))&&(decide ((b.getD 0 0)≤251)))) (fun K B=>?_) ?_
 refine bl 36 ((decide (9≤(b.getD 0 0)))) (fun k=>?_) (fun k=>?_)
 have Q:=of_decide_eq_true k
 exact Pl 3<|ce B (decide ((b.getD 0 0)≤251)) (by rw[k];rfl)
 have Q:=of_decide_eq_false k
 exact Pl 3<|ce B false (by rw[k];rfl)
 refine Pl 1<|nt<|sq<|sg<|Pl 6<|nt<|c0<|bf<|sq<|sq<|?_
 refine go<|Pl 6<|nt<|c1<|go<|Pl 3<|cu 3 [65] 68 (((decide (4≤(b.getD 0 0)))&&(decide ((b.getD 0 0)≤245)))) (fun K C=>?_) ?_
 refine bl 65 ((decide (4≤(b.getD 0 0)))) (fun l=>?_) (fun l=>?_)
 have R:=of_decide_eq_true l
 exact Pl 3<|ce C (decide ((b.getD 0 0)≤245)) (by rw[l];rfl)
 have R:=of_decide_eq_false l
 exact Pl 3<|ce C false (by rw[l];rfl)
 refine Pl 1<|nt<|sq<|sg<|Pl 2<|nt<|cb ((!((decide (4≤(b.getD 0 0)))&&(decide ((b.getD 0 0)≤245))))) (fun d=>?_) (fun d=>?_)
 have f:((decide (4≤(b.getD 0 0)))&&(decide ((b.getD 0 0)≤245)))=false:=by simpa only[Bool.not_eq_true',Bool.not_eq_false'] using d
 refine sg<|Pl 1<|L0<|b7 g mZ fun a9 S T=>Pl 1<|nt<|rt<|tr<|bJ S (.int .i64 5)<|?_
 have hs:bP bK fA 20 b=(aP.zero,5):=by
   unfold bP dQ cV fA
   (try simp only[a,d,f,bs,if_true,if_false,decide_true,decide_false,ij,reduceIte])
   all_goals rfl
 rw[hs]
 exact bv (ud j T i)
 have f:((decide (4≤(b.getD 0 0)))&&(decide ((b.getD 0 0)≤245)))=true:=by simpa only[Bool.not_eq_true',Bool.not_eq_false'] using d
 have o:=(aT f).1
 have q:=(aT f).2
 have q30nap:=of_decide_eq_true o
 have q30nbp:=of_decide_eq_true q
 refine bf<|sq<|sg<|Pl 3<|L0<|Oi ((b.getD 0 0)+1)<|Pl 1<|nt<|cb ((decide (((b.length:Nat) : Int)<((b.getD 0 0)+1)))) (fun h=>?_) (fun h=>?_)
 have U:=of_decide_eq_true h
 refine sg<|Pl 1<|L0<|b7 g mZ fun ab V W=>Pl 1<|nt<|rt<|tr<|bJ V (.int .i64 2)<|?_
 have hs:bP bK fA 20 b=(aP.zero,2):=by
   unfold bP dQ cV fA
   (try simp only[a,d,f,o,q,h,bs,if_true,if_false,decide_true,decide_false,ij,reduceIte])
   all_goals rfl
 rw[hs]
 exact bv (ud j W i)
 have U:=of_decide_eq_false h
 refine bf<|sg<|Pl 4<|L0<|Oi ((b.getD 0 0)+1)<|oT (i4 (P:=Tryz.prog) 22 5 1 Tryz.underlying22 rfl rfl A b.length cp (lo:=1) (up:=((b.getD 0 0)+1)) 1 ((((b.getD 0 0)+1)).toNat) (by omega) (by omega) (by omega) (by omega) (by omega)) fun t hrun41 D=>L0<|iP (.slice t (((((b.getD 0 0)+1)).toNat)-1) (cp-1)) (eZ (kl:=.i64) (kh:=.i64) (lo:=1) (hi:=((b.getD 0 0)+1)) (A:=A) (n:=b.length) (c:=cp) rfl Tryz.underlying22 (by kernel_rfl) (by kernel_rfl) (by kernel_rfl) (hrun41 _ _ _))<|?_
 by_cases hE:bp (aR bK (((b.take ((((b.getD 0 0)+1)).toNat)).drop 1)).length 0 ⟨((b.take ((((b.getD 0 0)+1)).toNat)).drop 1),false,0⟩ []).1.e=0
 refine L0<|Oc (args:=#[.int .i64 1,.int .u8 20,.slice t (((((b.getD 0 0)+1)).toNat)-1) (cp-1)])<|e2 (lO (nk (D _ _ _ _ _ s) (by rw[List.length_drop,List.length_take];omega)) hE) fun ac ad u y=>?_
 obtain⟨X,Y,rfl,ae,af⟩:=aL.shape u.rd
 refine Pl 5<|nt<|sq<|sg<|Pl 2<|nt<|c0<|bf<|sq<|sq<|?_
 refine go<|Pl 3<|L0<|Oi ((b.getD 0 0)+1)<|Pl 1<|nt<|?_
 have E:=aD j y
 refine cb ((decide (((b.getD 0 0)+1)<((b.length:Nat) : Int)))) (fun r=>?_) (fun r=>?_)
 have Z:=of_decide_eq_true r
 refine sg<|Pl 1<|?_
 refine L0<|b7 (ub y g) mZ fun ag a0 a1=>Pl 1<|nt<|rt<|tr<|bJ a0 (.int .i64 3)<|?_
 have hE0:(aR bK (((b.take ((((b.getD 0 0)+1)).toNat)).drop 1)).length 0 ⟨((b.take ((((b.getD 0 0)+1)).toNat)).drop 1),false,0⟩ []).1.e=0:=gL hE
 have hs:bP bK fA 20 b=(aP.zero,3):=by
   unfold bP dQ cV fA
   (try simp only[a,d,f,o,q,h,r,bs,if_true,if_false,decide_true,decide_false,hE0,ij,reduceIte])
   all_goals rfl
 rw[hs]
 exact bv (ud E a1 i)
 have Z:=of_decide_eq_false r
 refine bf<|sg<|Pl 3<|?_
 have F:=ub y g
 refine L0<|b7 F (mG 20 0 0 0 0 0 0 0 0 0 0 0 nS nS nS (.slice X ((aR bK (((b.take ((((b.getD 0 0)+1)).toNat)).drop 1)).length 0 ⟨((b.take ((((b.getD 0 0)+1)).toNat)).drop 1),false,0⟩ []).2.length) Y) 0 0 0 0 0 nS) fun ai a2 z=>Pl 1<|nt<|rt<|bJ a2 (.int .i64 0)<|?_
 have hE0:(aR bK (((b.take ((((b.getD 0 0)+1)).toNat)).drop 1)).length 0 ⟨((b.take ((((b.getD 0 0)+1)).toNat)).drop 1),false,0⟩ []).1.e=0:=gL hE
 have hs:bP bK fA 20 b=((aP.mk 20 0 0 0 0 0 0 0 0 0 0 0 [] [] [] (aR bK (((b.take ((((b.getD 0 0)+1)).toNat)).drop 1)).length 0 ⟨((b.take ((((b.getD 0 0)+1)).toNat)).drop 1),false,0⟩ []).2 0 0 0 0 0 []),0):=by
   unfold bP dQ cV fA
   (try simp only[a,d,f,o,q,h,r,bs,if_true,if_false,decide_true,decide_false,hE0,ij,reduceIte])
   all_goals rfl
 rw[hs]
 exact⟨_,rfl,⟨_,_,_,_,_,rfl,aL.nil ..,aL.nil ..,(fun _ _ _=>aL.nil ..),((ap u z (fun x hx=>(aa (fun e=>(aB (am g) lr u) (e▸hx)) az)) (bq.upd16 z (aq (aU F (by decide)) aG)))).rd,aL.nil ..,(cj (by omega))⟩,(ud E z i)⟩
 refine L0<|Oc (args:=#[.int .i64 1,.int .u8 20,.slice t (((((b.getD 0 0)+1)).toNat)-1) (cp-1)])<|?_
 refine(ka (nk (D _ _ _ _ _ s) (by rw[List.length_drop,List.length_take];omega))).mono ?_
 rintro _ ak ⟨al,an,ao,rfl,G⟩
 refine⟨_,rfl,?_⟩
 have hE1:(bp (aR bK (((b.take ((((b.getD 0 0)+1)).toNat)).drop 1)).length 0 ⟨((b.take ((((b.getD 0 0)+1)).toNat)).drop 1),false,0⟩ []).1.e != 0)=true:=by simpa using hE
 refine Pl 5<|nt<|sq<|sg<|Pl 2<|nt<|ct hE1<|sg<|Pl 2<|?_
 refine L0<|b7 (ub G g) mZ fun ar a3 a4=>Pl 1<|nt<|rt<|tr<|bJ a3 (.int .i64 (bp (aR bK (((b.take ((((b.getD 0 0)+1)).toNat)).drop 1)).length 0 ⟨((b.take ((((b.getD 0 0)+1)).toNat)).drop 1),false,0⟩ []).1.e))<|?_
 have hE3:((aR bK (((b.take ((((b.getD 0 0)+1)).toNat)).drop 1)).length 0 ⟨((b.take ((((b.getD 0 0)+1)).toNat)).drop 1),false,0⟩ []).1.e != 0)=true:=jM hE
 have hs:bP bK fA 20 b=(aP.zero,bp (aR bK (((b.take ((((b.getD 0 0)+1)).toNat)).drop 1)).length 0 ⟨((b.take ((((b.getD 0 0)+1)).toNat)).drop 1),false,0⟩ []).1.e):=by
   unfold bP dQ cV fA
   (try simp only[a,d,f,o,q,h,hE1,bs,if_true,if_false,decide_true,decide_false,hE3,ij,reduceIte])
   all_goals rfl
 rw[hs]
 exact bv (ud j (uz G a4) i)
theorem vh{m:Md}{A:Option Addr}{cp:Nat}{b:List Int}{w:World}{dir:Int}(hd:dir=0∨dir=1)(hsl:b9 m w (.slice A b.length cp) b)(hb:b.length≤1048576) :
    Calls Tryz.prog 96 #[.int .i64 dir,.int .u8 21,.slice A b.length cp] w (cy (.slice A b.length cp) b (bP cM fL 21 b) w):=by
 have hln:(b.length:Int)≤1048576:=by omega
 have hcp:b.length≤cp:=by obtain⟨_,_,hv,h1,_⟩:=aL.shape hsl;injection hv with _ _ h3;omega
 have hrb:=b9.range hsl
 have g:((dir != 0)&&(dir != 1))=false:=by rcases hd with rfl | rfl<;>rfl
 refine en 101 Tryz.func96 rfl<|sg<|L0<|bH mZ fun a6 a7 j h k=>Pl 1<|nt<|sq<|sg<|Pl 3<|cu 3 [14] 17 (((dir != 0)&&(dir != 1))) (fun K C=>?_) ?_
 refine bl 14 ((dir != 0)) (fun l=>?_) (fun l=>?_)
 have I:=ax l
 exact Pl 3<|ce C (dir != 1) (by rw[l];rfl)
 have I:=ag l
 exact Pl 3<|ce C false (by rw[l];rfl)
 refine nt<|cf g<|bf<|sq<|sg<|Pl 6<|nt<|c0<|bf<|?_
 refine sq<|sg<|Pl 3<|nt<|cb ((((b.length:Nat) : Int)==0)) (fun a=>?_) (fun a=>?_)
 have J:=ah a
 refine sg<|Pl 1<|L0<|b7 h mZ fun a8 L M=>Pl 1<|nt<|rt<|tr<|bJ L (.int .i64 2)<|?_
 have hs:bP cM fL 21 b=(aP.zero,2):=by
   unfold bP dQ cV fL
   (try simp only[g,a,bs,if_true,if_false,decide_true,decide_false,ij,reduceIte])
   all_goals rfl
 rw[hs]
 exact bv (ud k M j)
 have J:=aj a
 refine bf<|sg<|Pl 1<|?_
 have t:=b9.old hsl k
 refine gh (b9.at_ t 0 (by omega)) fun N O Q R a9=>L0<|m8 b.length 0 Q (by omega)<|L0<|ei (p:=⟨N,O+0,none⟩) (v:=.int .u8 (b.getD 0 0)) R<|L0<|Oi (b.getD 0 0)<|Pl 1<|ng<|Pl 3<|cu 3 [36] 39 (((decide (9≤(b.getD 0 0)))&&(decide ((b.getD 0 0)≤251)))) (fun K D=>?_) ?_
 refine bl 36 ((decide (9≤(b.getD 0 0)))) (fun o=>?_) (fun o=>?_)
 have S:=of_decide_eq_true o
 exact Pl 3<|ce D (decide ((b.getD 0 0)≤251)) (by rw[o];rfl)
 have S:=of_decide_eq_false o
 exact Pl 3<|ce D false (by rw[o];rfl)
 refine Pl 1<|nt<|sq<|sg<|Pl 6<|nt<|c0<|bf<|sq<|sq<|?_
 refine go<|Pl 6<|nt<|c0<|bf<|sq<|sg<|Pl 2<|nt<|cb ((!((decide (9≤(b.getD 0 0)))&&(decide ((b.getD 0 0)≤251))))) (fun d=>?_) (fun d=>?_)
 have f:((decide (9≤(b.getD 0 0)))&&(decide ((b.getD 0 0)≤251)))=false:=by simpa only[Bool.not_eq_true',Bool.not_eq_false'] using d
 refine sg<|Pl 1<|L0<|b7 h mZ fun ab T U=>Pl 1<|nt<|rt<|tr<|bJ T (.int .i64 5)<|?_
 have hs:bP cM fL 21 b=(aP.zero,5):=by
   unfold bP dQ cV fL
   (try simp only[g,a,d,f,bs,if_true,if_false,decide_true,decide_false,ij,reduceIte])
   all_goals rfl
 rw[hs]
 exact bv (ud k U j)
 have f:((decide (9≤(b.getD 0 0)))&&(decide ((b.getD 0 0)≤251)))=true:=by simpa only[Bool.not_eq_true',Bool.not_eq_false'] using d
 have q:=(aT f).1
 have r:=(aT f).2
 have q30nap:=of_decide_eq_true q
 have q30nbp:=of_decide_eq_true r
 refine bf<|sq<|sg<|Pl 3<|L0<|Oi ((b.getD 0 0)+1)<|Pl 1<|nt<|cb ((decide (((b.length:Nat) : Int)<((b.getD 0 0)+1)))) (fun i=>?_) (fun i=>?_)
 have V:=of_decide_eq_true i
 refine sg<|Pl 1<|L0<|b7 h mZ fun ac W X=>Pl 1<|nt<|rt<|tr<|bJ W (.int .i64 2)<|?_
 have hs:bP cM fL 21 b=(aP.zero,2):=by
   unfold bP dQ cV fL
   (try simp only[g,a,d,f,q,r,i,bs,if_true,if_false,decide_true,decide_false,ij,reduceIte])
   all_goals rfl
 rw[hs]
 exact bv (ud k X j)
 have V:=of_decide_eq_false i
 refine bf<|sg<|Pl 4<|L0<|Oi ((b.getD 0 0)+1)<|oT (i4 (P:=Tryz.prog) 22 5 1 Tryz.underlying22 rfl rfl A b.length cp (lo:=1) (up:=((b.getD 0 0)+1)) 1 ((((b.getD 0 0)+1)).toNat) (by omega) (by omega) (by omega) (by omega) (by omega)) fun u hrun41 E=>L0<|iP (.slice u (((((b.getD 0 0)+1)).toNat)-1) (cp-1)) (eZ (kl:=.i64) (kh:=.i64) (lo:=1) (hi:=((b.getD 0 0)+1)) (A:=A) (n:=b.length) (c:=cp) rfl Tryz.underlying22 (by kernel_rfl) (by kernel_rfl) (by kernel_rfl) (hrun41 _ _ _))<|?_
 by_cases hE:bp (aR cM (((b.take ((((b.getD 0 0)+1)).toNat)).drop 1)).length 0 ⟨((b.take ((((b.getD 0 0)+1)).toNat)).drop 1),false,0⟩ []).1.e=0
 refine L0<|Oc (args:=#[.int .i64 dir,.int .u8 21,.slice u (((((b.getD 0 0)+1)).toNat)-1) (cp-1)])<|e2 (lO (nh (E _ _ _ _ _ t) (by rw[List.length_drop,List.length_take];omega)) hE) fun ad ae y z=>?_
 obtain⟨Y,Z,rfl,af,ai⟩:=aL.shape y.rd
 refine Pl 5<|nt<|sq<|sg<|Pl 2<|nt<|c0<|bf<|sq<|sq<|?_
 refine go<|Pl 3<|L0<|Oi ((b.getD 0 0)+1)<|Pl 1<|nt<|?_
 have F:=aD k z
 refine cb ((decide (((b.getD 0 0)+1)<((b.length:Nat) : Int)))) (fun s=>?_) (fun s=>?_)
 have a0:=of_decide_eq_true s
 refine sg<|Pl 1<|?_
 refine L0<|b7 (ub z h) mZ fun ak a1 a2=>Pl 1<|nt<|rt<|tr<|bJ a1 (.int .i64 3)<|?_
 have hE0:(aR cM (((b.take ((((b.getD 0 0)+1)).toNat)).drop 1)).length 0 ⟨((b.take ((((b.getD 0 0)+1)).toNat)).drop 1),false,0⟩ []).1.e=0:=gL hE
 have hs:bP cM fL 21 b=(aP.zero,3):=by
   unfold bP dQ cV fL
   (try simp only[g,a,d,f,q,r,i,s,bs,if_true,if_false,decide_true,decide_false,hE0,ij,reduceIte])
   all_goals rfl
 rw[hs]
 exact bv (ud F a2 j)
 have a0:=of_decide_eq_false s
 refine bf<|sg<|Pl 3<|?_
 have G:=ub z h
 refine L0<|b7 G (mG 21 0 0 0 0 0 0 0 0 0 0 0 nS nS nS (.slice Y ((aR cM (((b.take ((((b.getD 0 0)+1)).toNat)).drop 1)).length 0 ⟨((b.take ((((b.getD 0 0)+1)).toNat)).drop 1),false,0⟩ []).2.length) Z) 0 0 0 0 0 nS) fun al a3 B=>Pl 1<|nt<|rt<|bJ a3 (.int .i64 0)<|?_
 have hE0:(aR cM (((b.take ((((b.getD 0 0)+1)).toNat)).drop 1)).length 0 ⟨((b.take ((((b.getD 0 0)+1)).toNat)).drop 1),false,0⟩ []).1.e=0:=gL hE
 have hs:bP cM fL 21 b=((aP.mk 21 0 0 0 0 0 0 0 0 0 0 0 [] [] [] (aR cM (((b.take ((((b.getD 0 0)+1)).toNat)).drop 1)).length 0 ⟨((b.take ((((b.getD 0 0)+1)).toNat)).drop 1),false,0⟩ []).2 0 0 0 0 0 []),0):=by
   unfold bP dQ cV fL
   (try simp only[g,a,d,f,q,r,i,s,bs,if_true,if_false,decide_true,decide_false,hE0,ij,reduceIte])
   all_goals rfl
 rw[hs]
 exact⟨_,rfl,⟨_,_,_,_,_,rfl,aL.nil ..,aL.nil ..,(fun _ _ _=>aL.nil ..),((ap y B (fun x hx=>(aa (fun e=>(aB (am h) lr y) (e▸hx)) az)) (bq.upd16 B (aq (aU G (by decide)) aG)))).rd,aL.nil ..,(cj (by omega))⟩,(ud F B j)⟩
 refine L0<|Oc (args:=#[.int .i64 dir,.int .u8 21,.slice u (((((b.getD 0 0)+1)).toNat)-1) (cp-1)])<|?_
 refine(ka (nh (E _ _ _ _ _ t) (by rw[List.length_drop,List.length_take];omega))).mono ?_
 rintro _ an ⟨ao,ar,au,rfl,H⟩
 refine⟨_,rfl,?_⟩
 have hE1:(bp (aR cM (((b.take ((((b.getD 0 0)+1)).toNat)).drop 1)).length 0 ⟨((b.take ((((b.getD 0 0)+1)).toNat)).drop 1),false,0⟩ []).1.e != 0)=true:=by simpa using hE
 refine Pl 5<|nt<|sq<|sg<|Pl 2<|nt<|ct hE1<|sg<|Pl 2<|?_
 refine L0<|b7 (ub H h) mZ fun av a4 a5=>Pl 1<|nt<|rt<|tr<|bJ a4 (.int .i64 (bp (aR cM (((b.take ((((b.getD 0 0)+1)).toNat)).drop 1)).length 0 ⟨((b.take ((((b.getD 0 0)+1)).toNat)).drop 1),false,0⟩ []).1.e))<|?_
 have hE3:((aR cM (((b.take ((((b.getD 0 0)+1)).toNat)).drop 1)).length 0 ⟨((b.take ((((b.getD 0 0)+1)).toNat)).drop 1),false,0⟩ []).1.e != 0)=true:=jM hE
 have hs:bP cM fL 21 b=(aP.zero,bp (aR cM (((b.take ((((b.getD 0 0)+1)).toNat)).drop 1)).length 0 ⟨((b.take ((((b.getD 0 0)+1)).toNat)).drop 1),false,0⟩ []).1.e):=by
   unfold bP dQ cV fL
   (try simp only[g,a,d,f,q,r,i,hE1,bs,if_true,if_false,decide_true,decide_false,hE3,ij,reduceIte])
   all_goals rfl
 rw[hs]
 exact bv (ud k (uz H a5) j)
theorem tf{A:Option Addr}{cp:Nat}{b:List Int}{w:World}{dir c:Int}(hd:dir=0∨dir=1)(hc:¬ c=20∧¬ c=21) :
    Calls Tryz.prog 96 #[.int .i64 dir,.int .u8 c,.slice A b.length cp] w (cy (.slice A b.length cp) b (aP.zero,4) w):=by
 have g:((dir != 0)&&(dir != 1))=false:=by rcases hd with rfl | rfl<;>rfl
 have e2:((c != 20)&&(c != 21))=true:=by simp[hc.1,hc.2]
 refine en 101 Tryz.func96 rfl<|sg<|L0<|bH mZ fun o p h i j=>Pl 1<|nt<|sq<|sg<|Pl 3<|cu 3 [14] 17 (((dir != 0)&&(dir != 1))) (fun K e=>?_) ?_
 refine bl 14 ((dir != 0)) (fun a=>?_) (fun a=>?_)
 have k:=ax a
 exact Pl 3<|ce e (dir != 1) (by rw[a];rfl)
 have k:=ag a
 exact Pl 3<|ce e false (by rw[a];rfl)
 refine nt<|cf g<|bf<|sq<|sg<|Pl 3<|cu 3 [21] 24 (((c != 20)&&(c != 21))) (fun K f=>?_) ?_
 refine bl 21 ((c != 20)) (fun d=>?_) (fun d=>?_)
 have l:=ax d
 exact Pl 3<|ce f (c != 21) (by rw[d];rfl)
 have l:=ag d
 exact Pl 3<|ce f false (by rw[d];rfl)
 refine nt<|ct e2<|sg<|Pl 1<|L0<|b7 i mZ fun q m n=>Pl 1<|nt<|rt<|tr<|bJ m (.int .i64 4)<|?_
 exact bv (ud j n h)
theorem uN{A:Option Addr}{cp:Nat}{b:List Int}{w:World}{dir c:Int}(hd:¬ (dir=0∨dir=1)) :
    Calls Tryz.prog 96 #[.int .i64 dir,.int .u8 c,.slice A b.length cp] w (cy (.slice A b.length cp) b (aP.zero,1) w):=by
 have e:((dir != 0)&&(dir != 1))=true:=by simp;omega
 refine en 101 Tryz.func96 rfl<|sg<|L0<|bH mZ fun l m f g h=>Pl 1<|nt<|sq<|sg<|Pl 3<|cu 3 [14] 17 (((dir != 0)&&(dir != 1))) (fun K d=>?_) ?_
 refine bl 14 ((dir != 0)) (fun a=>?_) (fun a=>?_)
 have i:=ax a
 exact Pl 3<|ce d (dir != 1) (by rw[a];rfl)
 have i:=ag a
 exact Pl 3<|ce d false (by rw[a];rfl)
 refine nt<|ct e<|sg<|Pl 1<|L0<|b7 g mZ fun n j k=>Pl 1<|nt<|rt<|tr<|bJ j (.int .i64 1)<|?_
 exact bv (ud h k f)
theorem rc{dir c:Int}{b:List Int}(hd:dir=0∨dir=1)(hc:¬ c=20∧¬ c=21) : ai aX dir c b=(aP.zero,4):=by
  unfold ai aX
  rw[if_pos hd,if_neg (by simpa using hc.1),if_neg (by simpa using hc.2)]
theorem sV{form:Int→Int→ak→Option (ak × aP)}{dir c:Int}{b:List Int}(hd:¬ (dir=0∨dir=1)) : ai form dir c b=(aP.zero,1):=by
  unfold ai
  rw[if_neg hd]
theorem jh{m:Md}{v:Value}{b:List Int}{w:World}{dir c:Int}(hc:B8 c)(h:b9 m w v b)(hb:b.length≤1048576) :
    Calls Tryz.prog 96 #[.int .i64 dir,.int .u8 c,v] w (cy v b (ai aX dir c b) w):=by
  have hr:=b9.range h
  obtain⟨A,cp,rfl,_,_⟩:=h.shape
  by_cases hd:dir=0∨dir=1
  · by_cases a:c=20
    · subst a
      rcases hd with rfl|rfl
      · rw[qG hr];exact tW h hb
      · rw[rk hr];exact tR h hb
    · by_cases d:c=21
      · subst d
        rw[uU hd hr];exact vh hd h hb
      · rw[rc hd ⟨a,d⟩];exact tf hd ⟨a,d⟩
  · rw[sV hd];exact uN hd
open Go.RowKit
theorem u6{k i:Nat}{C:ak}{L:List Obj}{R:ak × List Obj}(h:eg (k-i) C L=R)(hk:k-i=0) : R=(C,L):=by
  rw[hk] at h
  exact h.symm
theorem mH{m:Md}{A:Option Addr}{cp:Nat}{b:List Int}{w:World}{c:Int}(hcode:B8 c)(hsl:b9 m w (.slice A b.length cp) b)(hb:b.length≤1048576) :
    Calls Tryz.prog 97 #[.int .i64 0,.int .u8 c,.slice A b.length cp] w (cy (.slice A b.length cp) b (ai cJ 0 c b) w):=by
 obtain⟨hcode1,hcode2⟩:=hcode
 have hln:(b.length:Int)≤1048576:=by omega
 refine en 176 Tryz.func97 rfl<|sg<|L0<|bH mZ fun bx bz q j a=>Pl 1<|nt<|sq<|sg<|Pl 6<|nt<|c0<|?_
 refine bf<|sq<|sg<|Pl 2<|nt<|cb ((c != 43)) (fun k=>?_) (fun k=>?_)
 have aF:=ax k
 refine sg<|Pl 1<|L0<|b7 j mZ fun bA aG aH=>Pl 1<|nt<|rt<|tr<|bJ aG (.int .i64 4)<|?_
 have hs:ai cJ 0 c b=(aP.zero,4):=by
   unfold ai cJ ef jx ic ib ge fl fF dB
   (try simp only[k,bs,if_true,if_false,decide_true,decide_false,eq_self,true_or,or_true,or_false,false_or,if_true,if_false,dE,dC,dD,dF,reduceIte])
   all_goals rfl
 rw[hs]
 exact bv (ud a aH q)
 have aF:=ag k
 refine bf<|sg<|Pl 2<|L0<|dv #[.slice A b.length cp,.int .i64 0,.bool false,.int .i64 0] fun r bB d W h=>Pl 1<|ng<|Pl 1<|L0<|bH mZ fun bC bD g aI aJ=>L0<|b7 aI (mC 43) fun aK aM aN=>?_
 refine ng<|Pl 1<|?_
 have X:=ud aJ aN g
 have s:=aD h X
 have Y:=aD a s
 have aQ:RC w _ A cp b aK r (ak.mk b false 0):=⟨hsl,Y,(Nat.le_trans a.size d),⟨0,(ub X W),Nat.zero_le _,rfl⟩,by omega⟩
 refine L0<|Oc<|m3 (ed aQ) fun bE aR Z bF=>Pl 1<|?_
 have f:=nb (am W) lr g
 refine L0<|bX (aW Z (Ne.symm f) aM) 16 (mG 43 0 0 0 0 0 0 0 0 0 0 0 nS nS nS nS ((ak.mk b false 0).byteV) 0 0 0 0 nS) fun bG I a0=>ng<|Pl 2<|L0<|aO I 16<|Pl 2<|cu 4 [38] 42 (((((ak.mk b false 0).byteV)==13)||(((ak.mk b false 0).byteV)==14))) (fun K a1=>?_) ?_
 refine bl 38 ((((ak.mk b false 0).byteV)==13)) (fun t=>?_) (fun t=>?_)
 have aS:=ah t
 exact Pl 4<|ce a1 true (by rw[t];rfl)
 have aS:=aj t
 exact Pl 1<|L1<|aO I 16<|Pl 2<|ce a1 (((ak.mk b false 0).byteV)==14) (by rw[t];rfl)
 have x:=us Z a0
 have a2:=ut Y x (ac (ni a.size d) (ac (ni (le a.size h.size) g) ay))
 refine L0<|Oc<|m2 (aY (((((ak.mk b false 0).byteV)==13)||(((ak.mk b false 0).byteV)==14))) 8 (RC.upd aR a0 (aa f az) a2)) fun bI aT o=>?_
 refine fY aT fun x55 a3 y=>?_
 refine nt<|sq<|bk<|sg<|Pl 1<|?_
 have J:=aW o (Ne.symm f) I
 refine L0<|aO J 16<|Pl 2<|nt<|?_
 have a4:=ud a2 o (le a.size d)
 refine cb ((((ak.mk b false 0).byteV)==13)) (fun z=>?_) (fun z=>?_)
 have aU:=ah z
 refine sg<|Pl 1<|L0<|Oc<|m1 (iU y) fun bK L=>?_
 have bL:=RC.clen y
 refine Pl 1<|ng<|Pl 3<|?_
 refine L0<|Oc<|m2 (aY ((decide (((x55.l.length:Nat) : Int)≤251))) 5 (RC.upd y L az (aC.step (RC.u y) L))) fun bM a5 aV=>nt<|go<|Pl 2<|L0<|Oc<|pW (fJ (n:=((x55.l.length:Nat) : Int)) (by omega) a5) fun a6 a7 bN aX aZ b0=>?_
 have bP:=Nat.le_trans (ak.bytesR_le (x55.need (decide (((x55.l.length:Nat) : Int)≤251)) 5) ((x55.l.length:Nat) : Int)) (RC.clen a5)
 refine fY aZ fun kR b1 b2=>?_
 refine Pl 1<|?_
 have a8:=uz L (u1 aV b0 im)
 refine L0<|bX (aW a8 (Ne.symm f) J) 14 (mG 43 0 0 0 0 0 0 0 0 0 0 0 nS nS (.slice a6 (((x55.need (decide (((x55.l.length:Nat) : Int)≤251)) 5).bytesR ((x55.l.length:Nat) : Int)).length) a7) nS ((ak.mk b false 0).byteV) 0 0 0 0 nS) fun bQ b3 a9=>nl<|bn<|tn<|sg<|Pl 1<|?_
 have M:=us a8 a9
 have ab:=ut a4 M (ac (ni a.size d) (ac (ni (le a.size h.size) g) ay))
 refine L0<|Oc<|m2 (eE (RC.upd b2 a9 (aa f az) ab)) fun bR N E=>nt<|sq<|sg<|Pl 3<|L0<|ei (p:=⟨r,3,none⟩) (v:=.int .i64 kR.endC.e) (RC.fld N)<|Pl 1<|nt<|?_
 have ad:=ud ab E (le a.size d)
 have hs:ai cJ 0 c b=b6 (aP.mk 43 0 0 0 0 0 0 0 0 0 0 0 [] [] ((x55.need (decide (((x55.l.length:Nat) : Int)≤251)) 5).bytesR ((x55.l.length:Nat) : Int)) [] ((ak.mk b false 0).byteV) 0 0 0 0 []) kR:=by
   subst b1 a3
   unfold ai cJ ef jx ic ib ge fl fF dB
   (try simp only[k,z,bs,if_true,if_false,decide_true,decide_false,eq_self,true_or,or_true,or_false,false_or,if_true,if_false,dE,dC,dD,dF,reduceIte])
   all_goals rfl
 refine cb ((kR.endC.e != 0)) (fun O=>?_) (fun O=>?_)
 have P:=ax O
 refine sq<|Rg 7 (fun w'=>w'.cell? ⟨r,3,none⟩=some (.int .i64 kR.endC.e)) fun bS F=>?_
 have ae:=RC.upd N F az (aC.step (RC.u N) F)
 refine bi (RC.fld ae) fun B=>Rt 0 B<|Rt 1 B<|Rt 2 B<|Rt 3 B<|Rl 4 B (fun _ hs=>hs)<|?_
 refine R0 5 rfl<|b7 (ub (ut s (ut x (ui o (u1 M (aD E F) im)) (ac im (ac im ay))) (ac (nr d) (ac (ni h.size g) ay))) j) mZ fun bT b4 af=>?_
 have al:=ud ad (uz F af) q
 refine bi (RC.fld (RC.upd ae af (aa (Ne.symm (nb (am j) lr d)) az) al)) fun b5=>Rt 6 b5<|re<|tn<|rt<|tr<|bJ b4 (.int .i64 kR.endC.e)<|?_
 rw[hs]
 exact bg P al
 have P:=ag O
 refine bf<|sg<|?_
 refine L0<|bO (aW E (Ne.symm f) b3)<|?_
 refine L0<|b7 (ub (ut s (ut x (ui o (u1 M E im)) (ac im (ac im ay))) (ac (nr d) (ac (ni h.size g) ay))) j) (mG 43 0 0 0 0 0 0 0 0 0 0 0 nS nS (.slice a6 (((x55.need (decide (((x55.l.length:Nat) : Int)≤251)) 5).bytesR ((x55.l.length:Nat) : Int)).length) a7) nS ((ak.mk b false 0).byteV) 0 0 0 0 nS) fun bU b8 ba=>Pl 1<|nt<|rt<|bJ b8 (.int .i64 0)<|?_
 rw[hs]
 exact bo P ⟨_,_,_,_,_,rfl,aL.nil ..,aL.nil ..,aX,aL.nil ..,aL.nil ..,(cj (by omega))⟩ (ud ad ba q)
 have aU:=aj z
 refine sg<|Pl 3<|nt<|c1<|sg<|Pl 1<|L0<|Oc<|m3 (ed y) fun bV bb an bW=>Pl 1<|?_
 refine L0<|bX (aW an (Ne.symm f) J) 17 (mG 43 0 0 0 0 0 0 0 0 0 0 0 nS nS nS nS ((ak.mk b false 0).byteV) x55.byteV 0 0 0 nS) fun bY Q ao=>ng<|Pl 2<|L0<|aO Q 17<|Pl 2<|cu 4 [154] 158 (((decide (0<x55.byteV))&&(decide (x55.byteV<5)))) (fun K ap=>?_) ?_
 refine bl 154 ((decide (0<x55.byteV))) (fun C=>?_) (fun C=>?_)
 have bc:=of_decide_eq_true C
 exact Pl 1<|L1<|aO Q 17<|Pl 2<|ce ap (decide (x55.byteV<5)) (by rw[C];rfl)
 have bc:=of_decide_eq_false C
 exact Pl 4<|ce ap false (by rw[C];rfl)
 have R:=us an ao
 have aq:=ut a4 R (ac (ni a.size d) (ac (ni (le a.size h.size) g) ay))
 refine L0<|Oc<|m2 (aY (((decide (0<x55.byteV))&&(decide (x55.byteV<5)))) 6 (RC.upd bb ao (aa f az) aq)) fun bZ bd be=>?_
 refine fY bd fun i bh bj=>?_
 refine nt<|go<|Pl 1<|L0<|Oc<|m3 (ed bj) fun c2 bm bp c3=>Pl 1<|?_
 have ar:=u1 be bp im
 refine L0<|bX (aW ar (Ne.symm f) Q) 20 (mG 43 0 0 0 0 0 0 0 0 0 0 0 nS nS nS nS ((ak.mk b false 0).byteV) x55.byteV 0 0 i.byteV nS) fun c4 bq au=>nl<|bn<|tn<|sg<|Pl 1<|?_
 have S:=us ar au
 have av:=ut aq S (ac (ni a.size d) (ac (ni (le a.size h.size) g) ay))
 refine L0<|Oc<|m2 (eE (RC.upd bm au (aa f az) av)) fun c5 T G=>nt<|sq<|sg<|Pl 3<|L0<|ei (p:=⟨r,3,none⟩) (v:=.int .i64 (((i.bytesC 1).endC).e)) (RC.fld T)<|Pl 1<|nt<|?_
 have aw:=ud av G (le a.size d)
 have hs:ai cJ 0 c b=b6 (aP.mk 43 0 0 0 0 0 0 0 0 0 0 0 [] [] [] [] ((ak.mk b false 0).byteV) x55.byteV 0 0 i.byteV []) (i.bytesC 1):=by
   subst bh a3
   unfold ai cJ ef jx ic ib ge fl fF dB
   (try simp only[k,z,bs,if_true,if_false,decide_true,decide_false,eq_self,true_or,or_true,or_false,false_or,if_true,if_false,dE,dC,dD,dF,reduceIte])
   all_goals rfl
 refine cb (((((i.bytesC 1).endC).e)!=0)) (fun U=>?_) (fun U=>?_)
 have V:=ax U
 refine sq<|Rg 7 (fun w'=>w'.cell? ⟨r,3,none⟩=some (.int .i64 (((i.bytesC 1).endC).e))) fun c6 H=>?_
 have aA:=RC.upd T H az (aC.step (RC.u T) H)
 refine bi (RC.fld aA) fun D=>Rt 0 D<|Rt 1 D<|Rt 2 D<|Rt 3 D<|Rl 4 D (fun _ hs=>hs)<|?_
 refine R0 5 rfl<|b7 (ub (ut s (ut x (ui o (ut R (u1 S (aD G H) im) (ac im (ac im ay)))) (ac im (ac im ay))) (ac (nr d) (ac (ni h.size g) ay))) j) mZ fun c7 br aB=>?_
 have aE:=ud aw (uz H aB) q
 refine bi (RC.fld (RC.upd aA aB (aa (Ne.symm (nb (am j) lr d)) az) aE)) fun bt=>Rt 6 bt<|re<|tn<|rt<|tr<|bJ br (.int .i64 (((i.bytesC 1).endC).e))<|?_
 rw[hs]
 exact bg V aE
 have V:=ag U
 refine bf<|sg<|?_
 refine L0<|bO (aW G (Ne.symm f) bq)<|?_
 refine L0<|b7 (ub (ut s (ut x (ui o (ut R (u1 S G im) (ac im (ac im ay)))) (ac im (ac im ay))) (ac (nr d) (ac (ni h.size g) ay))) j) (mG 43 0 0 0 0 0 0 0 0 0 0 0 nS nS nS nS ((ak.mk b false 0).byteV) x55.byteV 0 0 i.byteV nS) fun c8 bu bw=>Pl 1<|nt<|rt<|bJ bu (.int .i64 0)<|?_
 rw[hs]
 exact bo V ⟨_,_,_,_,_,rfl,aL.nil ..,aL.nil ..,(fun _ _ _=>aL.nil ..),aL.nil ..,aL.nil ..,(cj (by omega))⟩ (ud aw bw q)
theorem ml{m:Md}{A:Option Addr}{cp:Nat}{b:List Int}{w:World}{c:Int}(hcode:B8 c)(hsl:b9 m w (.slice A b.length cp) b)(hb:b.length≤1048576) :
    Calls Tryz.prog 97 #[.int .i64 1,.int .u8 c,.slice A b.length cp] w (cy (.slice A b.length cp) b (ai cJ 1 c b) w):=by
 obtain⟨hcode1,hcode2⟩:=hcode
 have hln:(b.length:Int)≤1048576:=by omega
 refine en 176 Tryz.func97 rfl<|sg<|L0<|bH mZ fun Y dK I t a=>Pl 1<|nt<|sq<|sg<|Pl 6<|nt<|c0<|?_
 refine bf<|sq<|sg<|Pl 2<|nt<|cb ((c != 43)) (fun D=>?_) (fun D=>?_)
 have ct:=ax D
 refine sg<|Pl 1<|L0<|b7 t mZ fun dL cv cw=>Pl 1<|nt<|rt<|tr<|bJ cv (.int .i64 4)<|?_
 have hs:ai cJ 1 c b=(aP.zero,4):=by
   unfold ai cJ ef jx ic ib ge fl fF dB
   (try simp only[D,bs,if_true,if_false,decide_true,decide_false,eq_self,true_or,or_true,or_false,false_or,if_true,if_false,dE,dC,dD,dF,reduceIte])
   all_goals rfl
 rw[hs]
 exact bv (ud a cw I)
 have ct:=ag D
 refine bf<|sg<|Pl 2<|L0<|dv #[.slice A b.length cp,.int .i64 0,.bool false,.int .i64 0] fun s dM f b0 o=>Pl 1<|ng<|Pl 1<|L0<|bH mZ fun E dN q cx b1=>L0<|b7 cx (mC 43) fun cz cA b2=>?_
 refine ng<|Pl 1<|?_
 have b3:=ud b1 b2 q
 have Z:=aD o b3
 have b4:=aD a Z
 have cB:RC w _ A cp b cz s (ak.mk b false 0):=⟨hsl,b4,(Nat.le_trans a.size f),⟨0,(ub b3 b0),Nat.zero_le _,rfl⟩,by omega⟩
 refine L0<|Oc<|m3 (ed cB) fun dO cC a7 dP=>Pl 1<|?_
 have g:=nb (am b0) lr q
 refine L0<|bX (aW a7 (Ne.symm g) cA) 16 (mG 43 0 0 0 0 0 0 0 0 0 0 0 nS nS nS nS ((ak.mk b false 0).byteV) 0 0 0 0 nS) fun dQ a8 a9=>ng<|Pl 2<|L0<|aO a8 16<|Pl 2<|cu 4 [38] 42 (((((ak.mk b false 0).byteV)==13)||(((ak.mk b false 0).byteV)==14))) (fun K b5=>?_) ?_
 refine bl 38 ((((ak.mk b false 0).byteV)==13)) (fun J=>?_) (fun J=>?_)
 have cD:=ah J
 exact Pl 4<|ce b5 true (by rw[J];rfl)
 have cD:=aj J
 exact Pl 1<|L1<|aO a8 16<|Pl 2<|ce b5 (((ak.mk b false 0).byteV)==14) (by rw[J];rfl)
 have a0:=us a7 a9
 have ba:=ut b4 a0 (ac (ni a.size f) (ac (ni (le a.size o.size) q) ay))
 refine L0<|Oc<|m2 (aY (((((ak.mk b false 0).byteV)==13)||(((ak.mk b false 0).byteV)==14))) 8 (RC.upd cC a9 (aa g az) ba)) fun dR cE F=>?_
 refine fY cE fun x55 bb M=>?_
 refine nt<|sq<|bk<|sg<|Pl 1<|?_
 have ab:=aW F (Ne.symm g) a8
 refine L0<|aO ab 16<|Pl 2<|nt<|?_
 have bc:=ud ba F (le a.size f)
 refine cb ((((ak.mk b false 0).byteV)==13)) (fun N=>?_) (fun N=>?_)
 have cF:=ah N
 refine sg<|Pl 1<|L0<|Oc<|m1 (iU M) fun dS ad=>?_
 have dT:=RC.clen M
 refine Pl 1<|ng<|Pl 3<|?_
 refine L0<|Oc<|m2 (aY ((decide (((x55.l.length:Nat) : Int)≤251))) 5 (RC.upd M ad az (aC.step (RC.u M) ad))) fun dU bd cG=>nt<|go<|Pl 2<|L0<|Oc<|pW (fJ (n:=((x55.l.length:Nat) : Int)) (by omega) bd) fun be bh dV cH cI cK=>?_
 have dW:=Nat.le_trans (ak.bytesR_le (x55.need (decide (((x55.l.length:Nat) : Int)≤251)) 5) ((x55.l.length:Nat) : Int)) (RC.clen bd)
 refine fY cI fun kR cM cN=>?_
 refine Pl 1<|?_
 have bm:=uz ad (u1 cG cK im)
 refine L0<|bX (aW bm (Ne.symm g) ab) 14 (mG 43 0 0 0 0 0 0 0 0 0 0 0 nS nS (.slice be (((x55.need (decide (((x55.l.length:Nat) : Int)≤251)) 5).bytesR ((x55.l.length:Nat) : Int)).length) bh) nS ((ak.mk b false 0).byteV) 0 0 0 0 nS) fun dX cO bp=>nl<|bn<|tn<|sg<|Pl 1<|?_
 have ae:=us bm bp
 have bq:=ut bc ae (ac (ni a.size f) (ac (ni (le a.size o.size) q) ay))
 refine L0<|Oc<|m2 (eE (RC.upd cN bp (aa g az) bq)) fun dY af a1=>nt<|sq<|sg<|Pl 3<|L0<|ei (p:=⟨s,3,none⟩) (v:=.int .i64 kR.endC.e) (RC.fld af)<|Pl 1<|nt<|?_
 have br:=ud bq a1 (le a.size f)
 have hs:ai cJ 1 c b=b6 (aP.mk 43 0 0 0 0 0 0 0 0 0 0 0 [] [] ((x55.need (decide (((x55.l.length:Nat) : Int)≤251)) 5).bytesR ((x55.l.length:Nat) : Int)) [] ((ak.mk b false 0).byteV) 0 0 0 0 []) kR:=by
   subst cM bb
   unfold ai cJ ef jx ic ib ge fl fF dB
   (try simp only[D,N,bs,if_true,if_false,decide_true,decide_false,eq_self,true_or,or_true,or_false,false_or,if_true,if_false,dE,dC,dD,dF,reduceIte])
   all_goals rfl
 refine cb ((kR.endC.e != 0)) (fun al=>?_) (fun al=>?_)
 have an:=ax al
 refine sq<|Rg 7 (fun w'=>w'.cell? ⟨s,3,none⟩=some (.int .i64 kR.endC.e)) fun dZ a2=>?_
 have bt:=RC.upd af a2 az (aC.step (RC.u af) a2)
 refine bi (RC.fld bt) fun O=>Rt 0 O<|Rt 1 O<|Rt 2 O<|Rt 3 O<|Rl 4 O (fun _ hs=>hs)<|?_
 refine R0 5 rfl<|b7 (ub (ut Z (ut a0 (ui F (u1 ae (aD a1 a2) im)) (ac im (ac im ay))) (ac (nr f) (ac (ni o.size q) ay))) t) mZ fun e0 cP bu=>?_
 have bw:=ud br (uz a2 bu) I
 refine bi (RC.fld (RC.upd bt bu (aa (Ne.symm (nb (am t) lr f)) az) bw)) fun cQ=>Rt 6 cQ<|re<|tn<|rt<|tr<|bJ cP (.int .i64 kR.endC.e)<|?_
 rw[hs]
 exact bg an bw
 have an:=ag al
 refine bf<|sg<|?_
 refine L0<|bO (aW a1 (Ne.symm g) cO)<|?_
 refine L0<|b7 (ub (ut Z (ut a0 (ui F (u1 ae a1 im)) (ac im (ac im ay))) (ac (nr f) (ac (ni o.size q) ay))) t) (mG 43 0 0 0 0 0 0 0 0 0 0 0 nS nS (.slice be (((x55.need (decide (((x55.l.length:Nat) : Int)≤251)) 5).bytesR ((x55.l.length:Nat) : Int)).length) bh) nS ((ak.mk b false 0).byteV) 0 0 0 0 nS) fun e1 cS cT=>Pl 1<|nt<|rt<|bJ cS (.int .i64 0)<|?_
 rw[hs]
 exact bo an ⟨_,_,_,_,_,rfl,aL.nil ..,aL.nil ..,cH,aL.nil ..,aL.nil ..,(cj (by omega))⟩ (ud br cT I)
 have cF:=aj N
 refine sg<|Pl 3<|nt<|c0<|sg<|Pl 1<|L0<|Oc<|m3 (ed M) fun e2 cU ao e3=>Pl 1<|?_
 refine L0<|bX (aW ao (Ne.symm g) ab) 17 (mG 43 0 0 0 0 0 0 0 0 0 0 0 nS nS nS nS ((ak.mk b false 0).byteV) x55.byteV 0 0 0 nS) fun e4 aq ar=>ng<|Pl 2<|L0<|aO aq 17<|Pl 2<|cu 4 [51] 55 (((decide (0<x55.byteV))&&(decide (x55.byteV<5)))) (fun K bz=>?_) ?_
 refine bl 51 ((decide (0<x55.byteV))) (fun P=>?_) (fun P=>?_)
 have cV:=of_decide_eq_true P
 exact Pl 1<|L1<|aO aq 17<|Pl 2<|ce bz (decide (x55.byteV<5)) (by rw[P];rfl)
 have cV:=of_decide_eq_false P
 exact Pl 4<|ce bz false (by rw[P];rfl)
 have bA:=us ao ar
 have bB:=ut bc bA (ac (ni a.size f) (ac (ni (le a.size o.size) q) ay))
 refine L0<|Oc<|m2 (aY (((decide (0<x55.byteV))&&(decide (x55.byteV<5)))) 6 (RC.upd cU ar (aa g az) bB)) fun e5 cW bC=>?_
 refine fY cW fun j cX cY=>?_
 refine ng<|Pl 1<|L0<|Oc<|m3 (ed cY) fun e6 cZ bD e7=>Pl 1<|?_
 have bE:=u1 bC bD im
 refine L0<|bX (aW bE (Ne.symm g) aq) 18 (mG 43 0 0 0 0 0 0 0 0 0 0 0 nS nS nS nS ((ak.mk b false 0).byteV) x55.byteV j.byteV 0 0 nS) fun e8 bF au=>ng<|Pl 1<|L0<|aO bF 18<|L0<|Oe (.int .u8 (Int.tmod j.byteV 128)) (.int .u8 (j.byteV%128)) (congrArg (Value.int .u8) (Int.tmod_eq_emod_of_nonneg (by omega)))<|Pl 1<|ng<|Pl 4<|cu 3 [66] 69 (((decide (1≤(j.byteV%128)))&&(decide ((j.byteV%128)≤3)))) (fun K bG=>?_) ?_
 refine bl 66 ((decide (1≤(j.byteV%128)))) (fun Q=>?_) (fun Q=>?_)
 have d0:=of_decide_eq_true Q
 exact Pl 3<|ce bG (decide ((j.byteV%128)≤3)) (by rw[Q];rfl)
 have d0:=of_decide_eq_false Q
 exact Pl 3<|ce bG false (by rw[Q];rfl)
 have bI:=us bE au
 have bK:=ut bB bI (ac (ni a.size f) (ac (ni (le a.size o.size) q) ay))
 refine L0<|Oc<|m2 (aY (((decide (1≤(j.byteV%128)))&&(decide ((j.byteV%128)≤3)))) 6 (RC.upd cZ au (aa g az) bK)) fun e9 d1 bL=>?_
 refine fY d1 fun k d2 d3=>?_
 refine ng<|Pl 1<|L0<|Oc<|m3 (ed d3) fun ea d4 bM eb=>Pl 1<|?_
 have bN:=u1 bL bM im
 refine L0<|bX (aW bN (Ne.symm g) bF) 19 (mG 43 0 0 0 0 0 0 0 0 0 0 0 nS nS nS nS ((ak.mk b false 0).byteV) x55.byteV j.byteV k.byteV 0 nS) fun ec aw aB=>ng<|Pl 2<|L0<|aO aw 19<|Pl 2<|cu 4 [78] 82 (((k.byteV==0)||(k.byteV==255))) (fun K bP=>?_) ?_
 refine bl 78 ((k.byteV==0)) (fun S=>?_) (fun S=>?_)
 have d5:=ah S
 exact Pl 4<|ce bP true (by rw[S];rfl)
 have d5:=aj S
 exact Pl 1<|L1<|aO aw 19<|Pl 2<|ce bP (k.byteV==255) (by rw[S];rfl)
 have bQ:=us bN aB
 have bR:=ut bK bQ (ac (ni a.size f) (ac (ni (le a.size o.size) q) ay))
 refine L0<|Oc<|m2 (aY (((k.byteV==0)||(k.byteV==255))) 6 (RC.upd d4 aB (aa g az) bR)) fun ee d6 bS=>?_
 refine fY d6 fun y d7 d8=>?_
 refine ng<|Pl 1<|L0<|Oc<|m3 (ed d8) fun eh d9 bT ej=>Pl 1<|?_
 have bU:=u1 bS bT im
 refine L0<|bX (aW bU (Ne.symm g) aw) 20 (mG 43 0 0 0 0 0 0 0 0 0 0 0 nS nS nS nS ((ak.mk b false 0).byteV) x55.byteV j.byteV k.byteV y.byteV nS) fun ek a3 aE=>ng<|Pl 2<|L0<|aO a3 20<|Pl 2<|cu 4 [91] 95 (((y.byteV==0)||(k.byteV==255))) (fun K bV=>?_) ?_
 refine bl 91 ((y.byteV==0)) (fun T=>?_) (fun T=>?_)
 have da:=ah T
 exact Pl 4<|ce bV true (by rw[T];rfl)
 have da:=aj T
 exact Pl 1<|L1<|aO a3 19<|Pl 2<|ce bV (k.byteV==255) (by rw[T];rfl)
 have bW:=us bU aE
 have bY:=ut bR bW (ac (ni a.size f) (ac (ni (le a.size o.size) q) ay))
 refine L0<|Oc<|m2 (aY (((y.byteV==0)||(k.byteV==255))) 6 (RC.upd d9 aE (aa g az) bY)) fun el dc aF=>?_
 refine fY dc fun d dd de=>?_
 refine ng<|Pl 1<|L0<|Oc<|m3 (ed de) fun em df aG eo=>L0<|Oi d.byteV<|Pl 1<|ng<|Pl 4<|cu 4 [103] 107 (((d.byteV==1)||(x55.byteV != 4))) (fun K bZ=>?_) ?_
 refine bl 103 ((d.byteV==1)) (fun U=>?_) (fun U=>?_)
 have dg:=ah U
 exact Pl 4<|ce bZ true (by rw[U];rfl)
 have dg:=aj U
 refine Pl 1<|?_
 exact L1<|aO (aW (u1 aF aG im) (Ne.symm g) a3) 17<|Pl 2<|ce bZ (x55.byteV != 4) (by rw[U];rfl)
 refine L0<|Oc<|m2 (aY (((d.byteV==1)||(x55.byteV != 4))) 5 df) fun dh di c1=>?_
 refine fY di fun V dj dk=>?_
 refine ng<|Pl 1<|nt<|bk<|?_
 have hKr:0≤d.byteV∧d.byteV<256:=by omega
 have aH:=u1 aF (u1 aG c1 im) im
 refine iN (fun x=>[(6,.pointer (some ⟨Y,0,none⟩)),(7,.int .i64 0),(8,.pointer (some ⟨s,0,none⟩)),(9,.pointer (some ⟨E,0,none⟩)),(12,.int .i64 d.byteV),(13,.int .i64 ((x.1:Nat) : Int))]) (fun(x:Nat × ak × List Obj × Option Addr × Nat) w'=>aC [] w w'∧dh.heap.size≤w'.heap.size∧w'.heap[Y]? = some (.cells mZ 30 (0,0))∧RC w m A cp b w' s x.2.1∧w'.heap[E]? = some (.cells (mG 43 0 0 0 0 0 0 0 0 0 0 0 nS nS nS nS ((ak.mk b false 0).byteV) x55.byteV j.byteV k.byteV y.byteV (.slice x.2.2.2.1 x.2.2.1.length x.2.2.2.2)) 30 (0,0))∧aS w.heap.size 111 2 (pi (.slice A b.length cp) b) w' (.slice x.2.2.2.1 x.2.2.1.length x.2.2.2.2) x.2.2.1∧(x.1≤d.byteV.toNat)∧(x.2.2.1.length=x.1)∧(eg (d.byteV.toNat-x.1) x.2.1 x.2.2.1=eg d.byteV.toNat V [])) (fun x=>d.byteV.toNat-x.1) (0,V,[],none,0) ⟨(ud bY aH (le a.size f)),lr,(ub (ut Z (ut a0 (ui F (ut bA (ut bI (ut bQ (u1 bW aH im) (ac im (ac im ay))) (ac im (ac im ay))) (ac im (ac im ay)))) (ac im (ac im ay))) (ac (nr f) (ac (ni o.size q) ay))) t),dk,(aW aH (Ne.symm g) a3),(aS.nil w.heap.size _ _ (pi (.slice A b.length cp) b) _),(by(try dsimp only);omega),rfl,rfl⟩ ?_
 rintro⟨i,C,L,B,cq⟩ a4 ⟨c2,c3,dl,dm,dn,dp,dq,dr,ds⟩
 refine iy [(6,.pointer (some ⟨Y,0,none⟩)),(7,.int .i64 0),(8,.pointer (some ⟨s,0,none⟩)),(9,.pointer (some ⟨E,0,none⟩)),(12,.int .i64 d.byteV),(13,.int .i64 ((i:Nat) : Int))] ?_
 have G:a4.heap[Y]? = some (.cells mZ 30 (0,0)):=dl
 have z:RC w m A cp b a4 s C:=dm
 have hlC:=RC.clen z
 have hrC:eM C:=RC.rng z
 have hbv:=cR hrC
 have hbv2:=cR (iI hrC (n:=1))
 have c4:a4.heap[E]? = some (.cells (mG 43 0 0 0 0 0 0 0 0 0 0 0 nS nS nS nS ((ak.mk b false 0).byteV) x55.byteV j.byteV k.byteV y.byteV (.slice B L.length cq)) 30 (0,0)):=dn
 have r:aS w.heap.size 111 2 (pi (.slice A b.length cp) b) a4 (.slice B L.length cq) L:=dp
 have ep:i≤d.byteV.toNat:=dq
 have eq:L.length=i:=dr
 have c5:eg (d.byteV.toNat-i) C L=eg d.byteV.toNat V []:=ds
 refine sq<|sg<|Pl 3<|nt<|cb ((decide (((i:Nat) : Int)<d.byteV))) (fun a5=>?_) (fun a5=>?_)
 have dt:=of_decide_eq_true a5
 refine bf<|sq<|bk<|sg<|Pl 1<|L0<|Oc<|m3 (ed z) fun er du aI es=>Pl 1<|ng<|Pl 1<|L0<|Oc<|m3 (ed du) fun et c6 aJ eu=>?_
 refine L0<|Oi ((C.bytesC 1).byteV)<|Pl 1<|ng<|Pl 2<|L0<|Oc<|pW (fJ (n:=(C.bytesC 1).byteV) (by omega) c6) fun dw dx ev dy c7 aK=>?_
 have ew:=Nat.le_trans (ak.bytesR_le ((C.bytesC 1).bytesC 1) ((C.bytesC 1).byteV)) (RC.clen c6)
 refine Pl 1<|nt<|go<|Pl 1<|?_
 have aM:=u1 aI (u1 aJ aK im) im
 have aQ:=aW aM (Ne.symm g) c4
 refine L0<|aO aQ 21<|Pl 3<|L0<|cL (m:=1) (e:=111) #[.int .u8 C.byteV,.slice dw ((((C.bytesC 1).bytesC 1).bytesR ((C.bytesC 1).byteV)).length) dx] fun ex ey ez dz H=>?_
 have c8:=RC.upd c7 H az (aC.step (RC.u c7) H)
 have dA:=kP (R:=pi (.slice A b.length cp) b) (x:=(Obj.mk C.byteV (((C.bytesC 1).bytesC 1).bytesR ((C.bytesC 1).byteV)))) dz rfl ⟨_,_,_,rfl,dy,b8 (x:=C.byteV) (by omega)⟩
 have c9:=aD aM H
 have ca:=ap r c9 (fun x hx=>(aa (fun e=>(RC.nrow z r (by decide)) (e▸hx)) az)) (fun _ _ h=>h)
 refine L0<|ie (xs:=L) (ys:=([(Obj.mk C.byteV (((C.bytesC 1).bytesC 1).bytesR ((C.bytesC 1).byteV)))])) (.agg #[.int .u8 0,.slice none 0 0]) 2 32 ca dA (by simp) pi.ones (fun _ _ _ _ h=>h) (by(try simp only[List.length_append,List.length_cons,List.length_nil,aA]);omega) (le (le (le (le (le (le (le (le (le (le (le (le (le (le (le (le (le (le (le (le (le (le (le (le (le a.size o.size) b1.size) b2.size) a7.size) a9.size) F.size) ao.size) ar.size) bC.size) bD.size) au.size) bL.size) bM.size) aB.size) bS.size) bT.size) aE.size) aF.size) aG.size) c1.size) c3) aI.size) aJ.size) aK.size) H.size) fun cc cd eA cf aR=>Pl 1<|?_
 have cg:=aC.blk (ut (aC.mono (S':=(ob B++[])) H ay) aR (av il ay)) (bj (db aQ (ap r aM (fun x hx=>(aa (fun e=>(RC.nrow z r (by decide)) (e▸hx)) az)) (fun _ _ h=>h)) (by decide)) az) aQ
 refine L0<|bX cg 21 (mG 43 0 0 0 0 0 0 0 0 0 0 0 nS nS nS nS ((ak.mk b false 0).byteV) x55.byteV j.byteV k.byteV y.byteV (.slice cc ((L++[(Obj.mk C.byteV (((C.bytesC 1).bytesC 1).bytesR ((C.bytesC 1).byteV)))]).length) cd)) fun eB dG aT=>nl<|bn<|tn<|go<|Pl 1<|L0<|Oi (((i:Nat) : Int)+1)<|Pl 1<|nl<|?_
 have ch:=u1 (aC.mono (S':=(ob B++(E :: []))) aR (av il ay)) aT im
 have ci:=ut (aC.mono (S':=(s :: (ob B++(E :: [])))) c9 (ac im ay)) ch (av il (ac im ay))
 have ck:=ut c2 ci (ac (ni a.size f) (av (aN r lr) (ac (ni (le a.size o.size) q) ay)))
 exact gB ((i+1),(((C.bytesC 1).bytesC 1).bytesC ((C.bytesC 1).byteV)),(L++[(Obj.mk C.byteV (((C.bytesC 1).bytesC 1).bytesR ((C.bytesC 1).byteV)))]),cc,cd) ⟨ck,(le (le (le (le (le (le c3 aI.size) aJ.size) aK.size) H.size) aR.size) aT.size),(aC.blk ci (aa (nb (am t) lr f) (bj (db G r (by decide)) (aa (nb (am t) o.size q) az))) G),(RC.upd c8 ch (bj (RC.nrow c8 ca (by decide)) (aa g az)) ck),dG,(ap cf aT (fun x hx=>(aa (fun e=>(db cg cf (by decide)) (e▸hx)) az)) (fun _ _ h=>h)),(by(try dsimp only);omega),(by(try dsimp only);simp only[List.length_append,List.length_cons,List.length_nil];omega),(by(try dsimp only);rw[← c5,show d.byteV.toNat-i=(d.byteV.toNat-(i+1))+1 from by omega];rfl)⟩ (by omega)
 have dt:=of_decide_eq_false a5
 refine xt<|tx<|tx<|bx<|bn<|tn<|sg<|Pl 1<|?_
 have hR:=u6 c5 (by omega)
 refine L0<|Oc<|m2 (eE z) fun eC aU W=>nt<|sq<|sg<|Pl 3<|L0<|ei (p:=⟨s,3,none⟩) (v:=.int .i64 C.endC.e) (RC.fld aU)<|Pl 1<|nt<|?_
 have cl:=ud c2 W (le a.size f)
 have hs:ai cJ 1 c b=b6 (aP.mk 43 0 0 0 0 0 0 0 0 0 0 0 [] [] [] [] ((ak.mk b false 0).byteV) x55.byteV j.byteV k.byteV y.byteV (eg d.byteV.toNat V []).2) (eg d.byteV.toNat V []).1:=by
   subst dj dd d7 d2 cX bb
   unfold ai cJ ef jx ic ib ge fl fF dB
   (try simp only[D,N,a5,bs,if_true,if_false,decide_true,decide_false,eq_self,true_or,or_true,or_false,false_or,if_true,if_false,dE,dC,dD,dF,reduceIte])
   all_goals rfl
 refine cb ((C.endC.e != 0)) (fun aV=>?_) (fun aV=>?_)
 have aX:=ax aV
 refine sq<|Rg 7 (fun w'=>w'.cell? ⟨s,3,none⟩=some (.int .i64 C.endC.e)) fun eD a6=>?_
 have cm:=RC.upd aU a6 az (aC.step (RC.u aU) a6)
 refine bi (RC.fld cm) fun X=>Rt 0 X<|Rt 1 X<|Rt 2 X<|Rt 3 X<|Rl 4 X (fun _ hs=>hs)<|?_
 have cn:=aD W a6
 have co:=nb (am t) lr f
 refine R0 5 rfl<|b7 (aW cn co G) mZ fun eF dH aZ=>?_
 have cr:=ud cl (uz a6 aZ) I
 refine bi (RC.fld (RC.upd cm aZ (aa (Ne.symm co) az) cr)) fun dI=>Rt 6 dI<|re<|tn<|rt<|tr<|bJ dH (.int .i64 C.endC.e)<|?_
 have eG:=ap r (us cn aZ) (fun x hx=>(aa (fun e=>(RC.nrow z r (by decide)) (e▸hx)) (aa (fun e=>(db G r (by decide)) (e▸hx)) az))) (fun _ _ h=>h)
 rw[hR] at hs
 rw[hs]
 exact bg aX cr
 have aX:=ag aV
 refine bf<|sg<|?_
 refine L0<|bO (aW W (Ne.symm g) c4)<|?_
 refine L0<|b7 (aW W (nb (am t) lr f) G) (mG 43 0 0 0 0 0 0 0 0 0 0 0 nS nS nS nS ((ak.mk b false 0).byteV) x55.byteV j.byteV k.byteV y.byteV (.slice B L.length cq)) fun eH dJ cs=>Pl 1<|nt<|rt<|bJ dJ (.int .i64 0)<|?_
 rw[hR] at hs
 rw[hs]
 exact bo aX ⟨_,_,_,_,_,rfl,aL.nil ..,aL.nil ..,(fun _ _ _=>aL.nil ..),aL.nil ..,((ap r (us W cs) (fun x hx=>(aa (fun e=>(RC.nrow z r (by decide)) (e▸hx)) (aa (fun e=>(db G r (by decide)) (e▸hx)) az))) (fun _ _ h=>h))).rd,(cj (by omega))⟩ (ud cl cs I)
theorem mg{m:Md}{A:Option Addr}{cp:Nat}{b:List Int}{w:World}{dir c:Int}(hcode:B8 c)(hsl:b9 m w (.slice A b.length cp) b)(hb:b.length≤1048576)(hd:¬ (dir=0∨dir=1)) :
    Calls Tryz.prog 97 #[.int .i64 dir,.int .u8 c,.slice A b.length cp] w (cy (.slice A b.length cp) b (ai cJ dir c b) w):=by
 obtain⟨hcode1,hcode2⟩:=hcode
 have hln:(b.length:Int)≤1048576:=by omega
 have e0:(dir != 0)=true:=by simp;omega
 have e1:(dir != 1)=true:=by simp;omega
 refine en 176 Tryz.func97 rfl<|sg<|L0<|bH mZ fun g h a d e=>Pl 1<|nt<|sq<|sg<|Pl 3<|sy 19 e0<|Pl 3<|nl<|?_
 refine tn<|ct e1<|sg<|Pl 1<|L0<|b7 d mZ fun i dp f=>Pl 1<|nt<|rt<|tr<|bJ dp (.int .i64 1)<|?_
 have hs:ai cJ dir c b=(aP.zero,1):=by
   unfold ai cJ ef jx ic ib ge fl fF dB
   (try simp only[e0,e1,bs,if_true,if_false,decide_true,decide_false,eq_self,true_or,or_true,or_false,false_or,if_true,if_false,dE,dC,dD,dF,reduceIte,hd])
   all_goals rfl
 rw[hs]
 exact bv (ud e f a)
theorem lf{m:Md}{v:Value}{b:List Int}{w:World}{dir c:Int}(hc:B8 c)(h:b9 m w v b)(hb:b.length≤1048576) :
    Calls Tryz.prog 97 #[.int .i64 dir,.int .u8 c,v] w (cy v b (ai bD dir c b) w):=by
  rw[← pz (b9.range h)]
  obtain⟨A,cp,rfl,_,_⟩:=h.shape
  by_cases h0:dir=0
  · subst h0;exact mH hc h hb
  by_cases h1:dir=1
  · subst h1;exact ml hc h hb
  exact mg hc h hb (by omega)
open Go.RowKit
theorem vn{x:Int}{w:World}:Calls Tryz.prog 148 #[.int .u8 x] w (cG (.bool (ja x)) w):=by
 refine en 37 Tryz.func148 rfl<|sg<|Pl 1<|ng<|Pl 3<|cu 3 [5] 8 (((decide (1≤x))&&(decide (x≤8)))) (fun K i=>?_) ?_
 refine bl 5 ((decide (1≤x))) (fun a=>?_) (fun a=>?_)
 have v:=of_decide_eq_true a
 exact Pl 3<|ce i (decide (x≤8)) (by rw[a];rfl)
 have v:=of_decide_eq_false a
 exact Pl 3<|ce i false (by rw[a];rfl)
 refine Pl 1<|cu 3 [9] 12 ((((decide (1≤x))&&(decide (x≤8)))||(x==11))) (fun K j=>?_) ?_
 refine bl 9 (((decide (1≤x))&&(decide (x≤8)))) (fun b=>?_) (fun b=>?_)
 have y:=(aT b).1
 have z:=(aT b).2
 have G:=of_decide_eq_true y
 have H:=of_decide_eq_true z
 exact Pl 3<|ce j true (by rw[b];rfl)
 exact Pl 3<|ce j (x==11) (by rw[b];rfl)
 refine Pl 1<|cu 3 [13] 16 (((((decide (1≤x))&&(decide (x≤8)))||(x==11))||(x==12))) (fun K k=>?_) ?_
 refine bl 13 ((((decide (1≤x))&&(decide (x≤8)))||(x==11))) (fun c=>?_) (fun c=>?_)
 exact Pl 3<|ce k true (by rw[c];rfl)
 have I:=(aE c).1
 have A:=(aE c).2
 have J:=aj A
 exact Pl 3<|ce k (x==12) (by rw[c];rfl)
 refine Pl 1<|cu 7 [17] 24 ((((((decide (1≤x))&&(decide (x≤8)))||(x==11))||(x==12))||((decide (15≤x))&&(decide (x≤17))))) (fun K l=>?_) ?_
 refine bl 17 (((((decide (1≤x))&&(decide (x≤8)))||(x==11))||(x==12))) (fun d=>?_) (fun d=>?_)
 exact Pl 7<|ce l true (by rw[d];rfl)
 have m:=(aE d).1
 have B:=(aE d).2
 have L:=(aE m).1
 have C:=(aE m).2
 have q16abp:=aj C
 have M:=aj B
 refine Pl 3<|cu 3 [20] 23 (((decide (15≤x))&&(decide (x≤17)))) (fun K n=>?_) ?_
 refine bl 20 ((decide (15≤x))) (fun e=>?_) (fun e=>?_)
 have D:=of_decide_eq_true e
 exact Pl 3<|ce n (decide (x≤17)) (by rw[e];rfl)
 have D:=of_decide_eq_false e
 exact Pl 3<|ce n false (by rw[e];rfl)
 exact Pl 1<|ce l ((decide (15≤x))&&(decide (x≤17))) (by rw[d];rfl)
 refine Pl 1<|cu 7 [25] 32 (((((((decide (1≤x))&&(decide (x≤8)))||(x==11))||(x==12))||((decide (15≤x))&&(decide (x≤17))))||((decide (20≤x))&&(decide (x≤24))))) (fun K o=>?_) ?_
 refine bl 25 ((((((decide (1≤x))&&(decide (x≤8)))||(x==11))||(x==12))||((decide (15≤x))&&(decide (x≤17))))) (fun f=>?_) (fun f=>?_)
 exact Pl 7<|ce o true (by rw[f];rfl)
 have p:=(aE f).1
 have N:=(aE f).2
 have q:=(aE p).1
 have E:=(aE p).2
 have q20aaa:=(aE q).1
 have q20aab:=(aE q).2
 have q20aabp:=aj q20aab
 have q20abp:=aj E
 refine Pl 3<|cu 3 [28] 31 (((decide (20≤x))&&(decide (x≤24)))) (fun K r=>?_) ?_
 refine bl 28 ((decide (20≤x))) (fun g=>?_) (fun g=>?_)
 have F:=of_decide_eq_true g
 exact Pl 3<|ce r (decide (x≤24)) (by rw[g];rfl)
 have F:=of_decide_eq_false g
 exact Pl 3<|ce r false (by rw[g];rfl)
 exact Pl 1<|ce o ((decide (20≤x))&&(decide (x≤24))) (by rw[f];rfl)
 refine Pl 1<|cu 3 [33] 36 ((((((((decide (1≤x))&&(decide (x≤8)))||(x==11))||(x==12))||((decide (15≤x))&&(decide (x≤17))))||((decide (20≤x))&&(decide (x≤24))))||(x==43))) (fun K s=>?_) ?_
 refine bl 33 (((((((decide (1≤x))&&(decide (x≤8)))||(x==11))||(x==12))||((decide (15≤x))&&(decide (x≤17))))||((decide (20≤x))&&(decide (x≤24))))) (fun h=>?_) (fun h=>?_)
 exact Pl 3<|ce s true (by rw[h];rfl)
 have t:=(aE h).1
 have O:=(aE h).2
 have u:=(aE t).1
 have P:=(aE t).2
 have q24aaa:=(aE u).1
 have q24aab:=(aE u).2
 have q24aaaa:=(aE q24aaa).1
 have q24aaab:=(aE q24aaa).2
 have q24aaabp:=aj q24aaab
 have q24aabp:=aj q24aab
 exact Pl 3<|ce s (x==43) (by rw[h];rfl)
 refine Pl 1<|nt<|rt<|rr (.bool (((((((decide (1≤x))&&(decide (x≤8)))||(x==11))||(x==12))||((decide (15≤x))&&(decide (x≤17))))||((decide (20≤x))&&(decide (x≤24))))||(x==43)))<|?_
 have hs:ja x=(((((((decide (1≤x))&&(decide (x≤8)))||(x==11))||(x==12))||((decide (15≤x))&&(decide (x≤17))))||((decide (20≤x))&&(decide (x≤24))))||(x==43)):=by
   unfold ja
   (try simp only[bs,if_true,if_false,decide_true,decide_false])
 rw[hs]
 exact⟨rfl,(aC.refl [] _)⟩
open Go.RowKit
def fh (b:List Int) : aP × Int :=
  if decide ((b.length:Int)<1) then (aP.zero,2)
  else if decide (b.getD 0 0-128<0) then (aP.zero,4)
  else if !(ja ((b.getD 0 0-128)%256)) then (aP.zero,4)
  else if decide ((b.length:Int)<2) then (aP.zero,2)
  else if !(cF (b.getD 1 0)) then (aP.zero,6)
  else if decide (2<(b.length:Int)) then (aP.zero,3)
  else (gv ((b.getD 0 0-128)%256) (b.getD 1 0),0)
theorem yN{x:Int}:ja x=dJ x:=by
  unfold ja dJ
  rw[Bool.eq_iff_iff]
  simp only[decide_eq_true_eq,List.mem_cons,List.not_mem_nil,or_false,Bool.or_eq_true,Bool.and_eq_true,beq_iff_eq]
  omega
theorem vx(b:List Int) : fh b=ee b:=by
  unfold fh ee
  rw[yN,show decide ((b.length:Int)<1)=((b.length:Int)==0) from by rw[Bool.eq_iff_iff];simp only[decide_eq_true_eq,beq_iff_eq];omega,show decide (b.getD 0 0-128<0)=decide (b.getD 0 0<128) from by rw[Bool.eq_iff_iff];simp only[decide_eq_true_eq];omega]
  by_cases h:b.length=0
  · rw[show((b.length:Int)==0)=true from by rw[beq_iff_eq];omega];rfl
  · rw[show decide ((b.length:Int)<2)=((b.length:Int)==1) from by rw[Bool.eq_iff_iff];simp only[decide_eq_true_eq,beq_iff_eq];omega]
theorem pn{m:Md}{A:Option Addr}{cp:Nat}{b:List Int}{w:World}(hsl:b9 m w (.slice A b.length cp) b)(hb:b.length≤1048576) :
    Calls Tryz.prog 92 #[.slice A b.length cp] w (cy (.slice A b.length cp) b (fh b) w):=by
 have hln:(b.length:Int)≤1048576:=by omega
 refine en 46 Tryz.func92 rfl<|sg<|L0<|bH mZ fun a2 a3 e f n=>Pl 1<|nt<|sq<|sg<|Pl 3<|nt<|cb ((decide (((b.length:Nat) : Int)<1))) (fun a=>?_) (fun a=>?_)
 have u:=of_decide_eq_true a
 refine sg<|Pl 1<|L0<|b7 f mZ fun a4 y z=>Pl 1<|nt<|rt<|tr<|bJ y (.int .i64 2)<|?_
 have hs:fh b=(aP.zero,2):=by
   unfold fh
   (try simp only[a,bs,if_true,if_false,decide_true,decide_false,Bool.not_eq_true,reduceIte])
   all_goals rfl
 rw[hs]
 exact bv (ud n z e)
 have u:=of_decide_eq_false a
 refine bf<|sg<|Pl 1<|?_
 have s:=b9.old hsl n
 refine gh (b9.at_ s 0 (by omega)) fun B C D E a5=>L0<|m8 b.length 0 D (by omega)<|L0<|ei (p:=⟨B,C+0,none⟩) (v:=.int .u8 (b.getD 0 0)) E<|L0<|Oi (b.getD 0 0)<|L0<|Oi ((b.getD 0 0)-128)<|Pl 1<|nt<|sq<|sg<|Pl 2<|nt<|?_
 refine cb ((decide (((b.getD 0 0)-128)<0))) (fun c=>?_) (fun c=>?_)
 have F:=of_decide_eq_true c
 refine sg<|Pl 1<|L0<|b7 f mZ fun a6 G H=>Pl 1<|nt<|rt<|tr<|bJ G (.int .i64 4)<|?_
 have hs:fh b=(aP.zero,4):=by
   unfold fh
   (try simp only[a,c,bs,if_true,if_false,decide_true,decide_false,Bool.not_eq_true,reduceIte])
   all_goals rfl
 rw[hs]
 exact bv (ud n H e)
 have F:=of_decide_eq_false c
 refine bf<|sg<|Pl 2<|L0<|Oc<|m1 (vn (x:=(((b.getD 0 0)-128)%256))) fun a7 g=>Pl 1<|nt<|sq<|sg<|Pl 2<|nl<|?_
 refine tn<|?_
 have q:=aD n g
 refine cb ((!(ja (((b.getD 0 0)-128)%256)))) (fun d=>?_) (fun d=>?_)
 have i:(ja (((b.getD 0 0)-128)%256))=false:=by simpa using d
 refine sg<|Pl 1<|?_
 refine L0<|b7 (ub g f) mZ fun a8 I J=>Pl 1<|nt<|rt<|tr<|bJ I (.int .i64 4)<|?_
 have hs:fh b=(aP.zero,4):=by
   unfold fh
   (try simp only[a,c,d,i,bs,if_true,if_false,decide_true,decide_false,Bool.not_eq_true,reduceIte])
   all_goals rfl
 rw[hs]
 exact bv (ud q J e)
 have i:(ja (((b.getD 0 0)-128)%256))=true:=by simpa using d
 refine bf<|sq<|sg<|Pl 3<|nt<|cb ((decide (((b.length:Nat) : Int)<2))) (fun h=>?_) (fun h=>?_)
 have K:=of_decide_eq_true h
 refine sg<|Pl 1<|?_
 refine L0<|b7 (ub g f) mZ fun a9 L M=>Pl 1<|nt<|rt<|tr<|bJ L (.int .i64 2)<|?_
 have hs:fh b=(aP.zero,2):=by
   unfold fh
   (try simp only[a,c,d,i,h,bs,if_true,if_false,decide_true,decide_false,Bool.not_eq_true,reduceIte])
   all_goals rfl
 rw[hs]
 exact bv (ud q M e)
 have K:=of_decide_eq_false h
 refine bf<|sg<|Pl 1<|?_
 have t:=b9.old s g
 refine gh (b9.at_ t 1 (by omega)) fun N O P Q aa=>L0<|m8 b.length 1 P (by omega)<|L0<|ei (p:=⟨N,O+1,none⟩) (v:=.int .u8 (b.getD 1 0)) Q<|L0<|Oc<|m1 (uZ (x:=(b.getD 1 0)) (by omega)) fun ab k=>Pl 1<|nt<|sq<|sg<|Pl 2<|nt<|?_
 have r:=aD q k
 refine cb ((!(cF (b.getD 1 0)))) (fun j=>?_) (fun j=>?_)
 have o:(cF (b.getD 1 0))=false:=by simpa using j
 refine sg<|Pl 1<|?_
 refine L0<|b7 (ub (aD g k) f) mZ fun ac R S=>Pl 1<|nt<|rt<|tr<|bJ R (.int .i64 6)<|?_
 have hs:fh b=(aP.zero,6):=by
   unfold fh
   (try simp only[a,c,d,i,h,j,o,bs,if_true,if_false,decide_true,decide_false,Bool.not_eq_true,reduceIte])
   all_goals rfl
 rw[hs]
 exact bv (ud r S e)
 have o:(cF (b.getD 1 0))=true:=by simpa using j
 refine bf<|sq<|sg<|Pl 3<|nt<|cb ((decide (2<((b.length:Nat) : Int)))) (fun l=>?_) (fun l=>?_)
 have T:=of_decide_eq_true l
 refine sg<|Pl 1<|?_
 refine L0<|b7 (ub (aD g k) f) mZ fun ad U V=>Pl 1<|nt<|rt<|tr<|bJ U (.int .i64 3)<|?_
 have hs:fh b=(aP.zero,3):=by
   unfold fh
   (try simp only[a,c,d,i,h,j,o,l,bs,if_true,if_false,decide_true,decide_false,Bool.not_eq_true,reduceIte])
   all_goals rfl
 rw[hs]
 exact bv (ud r V e)
 have T:=of_decide_eq_false l
 refine bf<|sg<|Pl 3<|?_
 refine gh (b9.at_ (b9.old t k) 1 (by omega)) fun W X Y Z ae=>L0<|m8 b.length 1 Y (by omega)<|L0<|ei (p:=⟨W,X+1,none⟩) (v:=.int .u8 (b.getD 1 0)) Z<|Pl 1<|?_
 refine L0<|b7 (ub (aD g k) f) (mG (((b.getD 0 0)-128)%256) (b.getD 1 0) 0 0 0 0 0 0 0 0 0 0 nS nS nS nS 0 0 0 0 0 nS) fun af a0 a1=>Pl 1<|nt<|rt<|bJ a0 (.int .i64 0)<|?_
 have hs:fh b=((aP.mk (((b.getD 0 0)-128)%256) (b.getD 1 0) 0 0 0 0 0 0 0 0 0 0 [] [] [] [] 0 0 0 0 0 []),0):=by
   unfold fh
   (try simp only[a,c,d,i,h,j,o,l,bs,if_true,if_false,decide_true,decide_false,Bool.not_eq_true,reduceIte])
   all_goals rfl
 rw[hs]
 exact⟨_,rfl,⟨_,_,_,_,_,rfl,aL.nil ..,aL.nil ..,(fun _ _ _=>aL.nil ..),aL.nil ..,aL.nil ..,(cj (by omega))⟩,(ud r a1 e)⟩
theorem m0{m:Md}{v:Value}{b:List Int}{w:World}(h:b9 m w v b)(hb:b.length≤1048576) : Calls Tryz.prog 92 #[v] w (cy v b (ee b) w):=by
  obtain⟨A,cp,rfl,_,_⟩:=h.shape
  rw[← vx]
  exact pn h hb
open Go.RowKit
theorem i1{x y:aP × Int}(h:x=y){w:World}{e:Ending}{w':World}{v0:Value}{b:List Int}(k:cy v0 b y w e w') : cy v0 b x w e w':=by rw[h];exact k
theorem jv{m:Md}{v:Value}{b:List Int}{w:World}{dir c:Int}(hc:B8 c)(h:b9 m w v b)(hb:b.length≤1048576) :
    Calls Tryz.prog 93 #[.int .i64 dir,.int .u8 c,v] w (cy v b (ai aF dir c b) w):=by
  obtain⟨A,cp,rfl,_,_⟩:=h.shape
  by_cases h0:dir=0
  · subst h0;exact lh hc h hb
  by_cases h1:dir=1
  · subst h1;exact lq hc h hb
  exact l6 hc h hb (by omega)
theorem kF{m:Md}{v:Value}{b:List Int}{w:World}{dir c:Int}(hc:B8 c)(h:b9 m w v b)(hb:b.length≤1048576) :
    Calls Tryz.prog 94 #[.int .i64 dir,.int .u8 c,v] w (cy v b (ai aM dir c b) w):=by
  obtain⟨A,cp,rfl,_,_⟩:=h.shape
  by_cases h0:dir=0
  · subst h0;exact mv hc h hb
  by_cases h1:dir=1
  · subst h1;exact mu hc h hb
  exact mr hc h hb (by omega)
theorem kB{m:Md}{v:Value}{b:List Int}{w:World}{dir c:Int}(hc:B8 c)(h:b9 m w v b)(hb:b.length≤1048576) :
    Calls Tryz.prog 95 #[.int .i64 dir,.int .u8 c,v] w (cy v b (ai aV dir c b) w):=by
  obtain⟨A,cp,rfl,_,_⟩:=h.shape
  rw[← nH]
  by_cases h0:dir=0
  · subst h0;exact mh hc h hb
  by_cases h1:dir=1
  · subst h1;exact mB hc h hb
  exact mf hc h hb (by omega)
theorem pj{m:Md}{A:Option Addr}{cp:Nat}{b:List Int}{w:World}{dir:Int}(hsl:b9 m w (.slice A b.length cp) b)(hb:b.length≤1048576) :
    Calls Tryz.prog 25 #[.int .i64 dir,.slice A b.length cp] w (cy (.slice A b.length cp) b (cH dir b) w):=by
 have hln:(b.length:Int)≤1048576:=by omega
 refine en 87 Tryz.func25 rfl<|sg<|L0<|bH mZ fun bN bP u d i=>Pl 1<|nt<|sq<|sg<|Pl 3<|cu 3 [11] 14 (((dir != 0)&&(dir != 1))) (fun K W=>?_) ?_
 refine bl 11 ((dir != 0)) (fun F=>?_) (fun F=>?_)
 have aZ:=ax F
 exact Pl 3<|ce W (dir != 1) (by rw[F];rfl)
 have aZ:=ag F
 exact Pl 3<|ce W false (by rw[F];rfl)
 refine nt<|cb (((dir != 0)&&(dir != 1))) (fun f=>?_) (fun f=>?_)
 have X:=(aT f).1
 have Y:=(aT f).2
 have bQ:=ax X
 have bR:=ax Y
 refine sg<|Pl 1<|L0<|b7 d mZ fun bS b0 b1=>Pl 1<|nt<|rt<|tr<|bJ b0 (.int .i64 1)<|?_
 have hs:gG dir b=(aP.zero,1):=by
   unfold gG
   (try simp only[f,X,Y,bs,if_true,if_false,decide_true,decide_false,ft,reduceIte])
   all_goals rfl
 rw[← fE]
 refine i1 hs ?_
 exact bv (ud i b1 u)
 refine bf<|sq<|sg<|Pl 3<|nt<|cb ((((b.length:Nat) : Int)==0)) (fun g=>?_) (fun g=>?_)
 have b2:=ah g
 refine sg<|Pl 1<|L0<|b7 d mZ fun bT b3 b4=>Pl 1<|nt<|rt<|tr<|bJ b3 (.int .i64 2)<|?_
 have hs:gG dir b=(aP.zero,2):=by
   unfold gG
   (try simp only[f,g,bs,if_true,if_false,decide_true,decide_false,ft,reduceIte])
   all_goals rfl
 rw[← fE]
 refine i1 hs ?_
 exact bv (ud i b4 u)
 have b2:=aj g
 refine bf<|sq<|sg<|Pl 3<|nt<|cb ((decide (253<((b.length:Nat) : Int)))) (fun j=>?_) (fun j=>?_)
 have b5:=of_decide_eq_true j
 refine sg<|Pl 1<|L0<|b7 d mZ fun bU b6 ba=>Pl 1<|nt<|rt<|tr<|bJ b6 (.int .i64 3)<|?_
 have hs:gG dir b=(aP.zero,3):=by
   unfold gG
   (try simp only[f,g,j,bs,if_true,if_false,decide_true,decide_false,ft,reduceIte])
   all_goals rfl
 rw[← fE]
 refine i1 hs ?_
 exact bv (ud i ba u)
 have b5:=of_decide_eq_false j
 refine bf<|sg<|Pl 1<|?_
 have G:=b9.old hsl i
 refine gh (b9.at_ G 0 (by omega)) fun bb bc bd be bV=>L0<|m8 b.length 0 bd (by omega)<|L0<|ei (p:=⟨bb,bc+0,none⟩) (v:=.int .u8 (b.getD 0 0)) be<|Pl 1<|nt<|sq<|sg<|Pl 3<|cu 3 [29] 32 (((decide (128≤(b.getD 0 0)))&&(dir==1))) (fun K Z=>?_) ?_
 refine bl 29 ((decide (128≤(b.getD 0 0)))) (fun H=>?_) (fun H=>?_)
 have bg:=of_decide_eq_true H
 exact Pl 3<|ce Z (dir==1) (by rw[H];rfl)
 have bg:=of_decide_eq_false H
 exact Pl 3<|ce Z false (by rw[H];rfl)
 refine nt<|cb (((decide (128≤(b.getD 0 0)))&&(dir==1))) (fun x=>?_) (fun x=>?_)
 have a0:=(aT x).1
 have a1:=(aT x).2
 have bW:=of_decide_eq_true a0
 have bX:=ah a1
 refine sg<|Pl 1<|L0<|Oc<|e2 (m0 G (by omega)) fun bh bY I S=>?_
 refine Pl 2<|?_
 have a2:=ub S d
 refine L0<|b7 (hz:=(by rw[I.size];exact aI)) (hv:=I.size) (h1:=(cN.one I (b9.old G S))) a2 (bh) fun bZ bi a3=>Pl 1<|nt<|rt<|tr<|eJ 22 I.size bi (.int .i64 (((ee b)).2))<|?_
 have hs:gG dir b=(ee b):=by
   unfold gG
   (try simp only[f,g,j,x,a0,a1,bs,if_true,if_false,decide_true,decide_false,ft,reduceIte])
   all_goals rfl
 rw[← fE]
 refine i1 hs ?_
 exact⟨_,rfl,(cN.upd I a3 (aq (aU a2 (by decide)) aG)),(ud i (uz S a3) u)⟩
 refine bf<|sg<|Pl 3<|oT (eh (P:=Tryz.prog) 22 5 1 Tryz.underlying22 rfl rfl A b.length cp 1 (by omega)) fun bj hrun54 a4=>L0<|iP (.slice bj (b.length-1) (cp-1)) (eD (kl:=.i64) (k:=((1:Nat) : Int)) (A:=A) (n:=b.length) (c:=cp) rfl Tryz.underlying22 (by kernel_rfl) (by kernel_rfl) (hrun54 _ _))<|L0<|Oc<|e2 (jv (dir:=dir) (c:=(b.getD 0 0)) (b8 (by omega)) (a4 _ _ _ _ _ G) (by(try simp only[List.length_drop]);omega)) fun a5 c0 bk e=>?_
 have L:=b9.old G e
 have l:=cN.sub bk (fun m' w' q=>(a4 _ _ _ _ _ q))
 refine Pl 3<|L0<|bH mZ fun c1 c2 a bm bn=>L0<|b7 (hz:=(by rw[l.size];exact aI)) (hv:=l.size) (h1:=(cN.one l hsl)) bm (a5) fun c3 a6 bo=>Pl 1<|nt<|sq<|sg<|Pl 2<|nt<|?_
 have M:=ud bn bo a
 have o:=aD e M
 have a7:=aD i o
 refine cb (((((ai aF dir (b.getD 0 0) (b.drop 1))).2)==4)) (fun h=>?_) (fun h=>?_)
 have bp:=ah h
 refine go<|Pl 3<|oT (eh (P:=Tryz.prog) 22 5 1 Tryz.underlying22 rfl rfl A b.length cp 1 (by omega)) fun bq hrun75 a8=>L0<|iP (.slice bq (b.length-1) (cp-1)) (eD (kl:=.i64) (k:=((1:Nat) : Int)) (A:=A) (n:=b.length) (c:=cp) rfl Tryz.underlying22 (by kernel_rfl) (by kernel_rfl) (hrun75 _ _))<|?_
 have a9:=b9.old L M
 refine L0<|Oc<|e2 (kF (dir:=dir) (c:=(b.getD 0 0)) (b8 (by omega)) (a8 _ _ _ _ _ a9) (by(try simp only[List.length_drop]);omega)) fun aa c4 br N=>?_
 have c5:=b9.old a9 N
 have r:=cN.sub br (fun m' w' q=>(a8 _ _ _ _ _ q))
 refine Pl 3<|?_
 have ab:=ub N a6
 refine L0<|b7 (hz:=(by rw[r.size];exact aI)) (hv:=(Eq.trans r.size (Eq.symm l.size))) (h1:=(cN.one r hsl)) ab (aa) fun c6 ad T=>Pl 1<|nt<|sq<|sg<|Pl 2<|nt<|?_
 have D:=uz N T
 have ae:=ud a7 D (le (le i.size e.size) a)
 refine cb (((((ai aM dir (b.getD 0 0) (b.drop 1))).2)==4)) (fun y=>?_) (fun y=>?_)
 have bt:=ah y
 refine go<|Pl 3<|oT (eh (P:=Tryz.prog) 22 5 1 Tryz.underlying22 rfl rfl A b.length cp 1 (by omega)) fun bu hrun92 af=>L0<|iP (.slice bu (b.length-1) (cp-1)) (eD (kl:=.i64) (k:=((1:Nat) : Int)) (A:=A) (n:=b.length) (c:=cp) rfl Tryz.underlying22 (by kernel_rfl) (by kernel_rfl) (hrun92 _ _))<|?_
 have ak:=ud M D a
 have al:=b9.old L ak
 refine L0<|Oc<|e2 (kB (dir:=dir) (c:=(b.getD 0 0)) (b8 (by omega)) (af _ _ _ _ _ al) (by(try simp only[List.length_drop]);omega)) fun am c7 bw O=>?_
 have c8:=b9.old al O
 have s:=cN.sub bw (fun m' w' q=>(af _ _ _ _ _ q))
 refine Pl 3<|?_
 have an:=ub O ad
 refine L0<|b7 (hz:=(by rw[s.size];exact aI)) (hv:=(Eq.trans s.size (Eq.symm r.size))) (h1:=(cN.one s hsl)) an (am) fun c9 ao U=>Pl 1<|nt<|sq<|sg<|Pl 2<|nt<|?_
 have E:=uz O U
 have ap:=ud ae E (le (le i.size e.size) a)
 refine cb (((((ai aV dir (b.getD 0 0) (b.drop 1))).2)==4)) (fun B=>?_) (fun B=>?_)
 have bx:=ah B
 refine go<|Pl 3<|oT (eh (P:=Tryz.prog) 22 5 1 Tryz.underlying22 rfl rfl A b.length cp 1 (by omega)) fun bz hrun110 ar=>L0<|iP (.slice bz (b.length-1) (cp-1)) (eD (kl:=.i64) (k:=((1:Nat) : Int)) (A:=A) (n:=b.length) (c:=cp) rfl Tryz.underlying22 (by kernel_rfl) (by kernel_rfl) (hrun110 _ _))<|?_
 have V:=u1 D E im
 have au:=ud ak E a
 have av:=b9.old L au
 refine L0<|Oc<|e2 (jh (dir:=dir) (c:=(b.getD 0 0)) (b8 (by omega)) (ar _ _ _ _ _ av) (by(try simp only[List.length_drop]);omega)) fun aw ca bA Q=>?_
 have cc:=b9.old av Q
 have t:=cN.sub bA (fun m' w' q=>(ar _ _ _ _ _ q))
 refine Pl 3<|?_
 have az:=ub Q ao
 refine L0<|b7 (hz:=(by rw[t.size];exact aI)) (hv:=(Eq.trans t.size (Eq.symm s.size))) (h1:=(cN.one t hsl)) az (aw) fun cd aA aB=>Pl 1<|nt<|sq<|sg<|Pl 2<|nt<|?_
 have C:=uz Q aB
 have aC:=ud ap C (le (le i.size e.size) a)
 refine cb (((((ai aX dir (b.getD 0 0) (b.drop 1))).2)==4)) (fun J=>?_) (fun J=>?_)
 have bB:=ah J
 refine go<|Pl 3<|oT (eh (P:=Tryz.prog) 22 5 1 Tryz.underlying22 rfl rfl A b.length cp 1 (by omega)) fun bC hrun130 aE=>L0<|iP (.slice bC (b.length-1) (cp-1)) (eD (kl:=.i64) (k:=((1:Nat) : Int)) (A:=A) (n:=b.length) (c:=cp) rfl Tryz.underlying22 (by kernel_rfl) (by kernel_rfl) (hrun130 _ _))<|?_
 have cg:=u1 U C im
 have ch:=u1 E C im
 have ci:=u1 (u1 T E im) C im
 have aH:=u1 V C im
 have aJ:=b9.old L (ud au C a)
 refine L0<|Oc<|e2 (lf (dir:=dir) (c:=(b.getD 0 0)) (b8 (by omega)) (aE _ _ _ _ _ aJ) (by(try simp only[List.length_drop]);omega)) fun aK cj bE R=>?_
 have ck:=b9.old aJ R
 have z:=cN.sub bE (fun m' w' q=>(aE _ _ _ _ _ q))
 refine Pl 3<|?_
 have aL:=ub R aA
 refine L0<|b7 (hz:=(by rw[z.size];exact aI)) (hv:=(Eq.trans z.size (Eq.symm t.size))) (h1:=(cN.one z hsl)) aL (aK) fun cl bF aN=>Pl 1<|ng<|L0<|bO (hz:=(by rw[z.size];exact aI)) bF<|Pl 1<|?_
 have aO:=uz R aN
 refine L0<|b7 (hz:=(by rw[z.size];exact aI)) (hv:=z.size) (h1:=(cN.one z hsl)) (ub (ud o (u1 aH aO im) (le e.size a)) d) (aK) fun cm bG aQ=>Pl 1<|nt<|rt<|eJ 22 z.size bG (.int .i64 (((ai bD dir (b.getD 0 0) (b.drop 1))).2))<|?_
 have hs:gG dir b=(ai bD dir (b.getD 0 0) (b.drop 1)):=by
   unfold gG
   (try simp only[f,g,j,x,h,y,B,J,bs,if_true,if_false,decide_true,decide_false,ft,reduceIte])
   all_goals rfl
 rw[← fE]
 refine i1 hs ?_
 exact⟨_,rfl,(cN.upd z (us aN aQ) (aq (aU aL (by decide)) (aq (aU (ub (ud o (aD aH R) (le e.size a)) d) (by decide)) aG))),(ut aC (us aO aQ) (ac (ni (le i.size e.size) a) (ac (nr u) ay)))⟩
 have bB:=aj J
 refine bf<|sg<|L0<|bO (hz:=(by rw[t.size];exact aI)) aA<|Pl 1<|?_
 refine L0<|b7 (hz:=(by rw[t.size];exact aI)) (hv:=t.size) (h1:=(cN.one t hsl)) (ub (ud o (u1 V C im) (le e.size a)) d) (aw) fun cn bI aR=>Pl 1<|nt<|rt<|eJ 22 t.size bI (.int .i64 (((ai aX dir (b.getD 0 0) (b.drop 1))).2))<|?_
 have hs:gG dir b=(ai aX dir (b.getD 0 0) (b.drop 1)):=by
   unfold gG
   (try simp only[f,g,j,x,h,y,B,J,bs,if_true,if_false,decide_true,decide_false,ft,reduceIte])
   all_goals rfl
 rw[← fE]
 refine i1 hs ?_
 exact⟨_,rfl,(cN.upd t (us aB aR) (aq (aU az (by decide)) (aq (aU (ub (ud o (aD V Q) (le e.size a)) d) (by decide)) aG))),(ud aC aR u)⟩
 have bx:=aj B
 refine bf<|sq<|sg<|Pl 2<|nt<|cf B<|bf<|sg<|L0<|bO (hz:=(by rw[s.size];exact aI)) ao<|?_
 refine Pl 1<|?_
 refine L0<|b7 (hz:=(by rw[s.size];exact aI)) (hv:=s.size) (h1:=(cN.one s hsl)) (ub (ud o (u1 D E im) (le e.size a)) d) (am) fun co bK aS=>Pl 1<|nt<|rt<|eJ 22 s.size bK (.int .i64 (((ai aV dir (b.getD 0 0) (b.drop 1))).2))<|?_
 have hs:gG dir b=(ai aV dir (b.getD 0 0) (b.drop 1)):=by
   unfold gG
   (try simp only[f,g,j,x,h,y,B,bs,if_true,if_false,decide_true,decide_false,ft,reduceIte])
   all_goals rfl
 rw[← fE]
 refine i1 hs ?_
 exact⟨_,rfl,(cN.upd s (us U aS) (aq (aU an (by decide)) (aq (aU (ub (ud o (aD D O) (le e.size a)) d) (by decide)) aG))),(ud ap aS u)⟩
 have bt:=aj y
 refine bf<|sq<|sg<|Pl 2<|nt<|cf y<|bf<|sq<|sg<|?_
 refine Pl 2<|nt<|cf y<|bf<|sg<|L0<|bO (hz:=(by rw[r.size];exact aI)) ad<|Pl 1<|?_
 refine L0<|b7 (hz:=(by rw[r.size];exact aI)) (hv:=r.size) (h1:=(cN.one r hsl)) (ub (ud o D (le e.size a)) d) (aa) fun cq bL aW=>Pl 1<|nt<|rt<|eJ 22 r.size bL (.int .i64 (((ai aM dir (b.getD 0 0) (b.drop 1))).2))<|?_
 have hs:gG dir b=(ai aM dir (b.getD 0 0) (b.drop 1)):=by
   unfold gG
   (try simp only[f,g,j,x,h,y,bs,if_true,if_false,decide_true,decide_false,ft,reduceIte])
   all_goals rfl
 rw[← fE]
 refine i1 hs ?_
 exact⟨_,rfl,(cN.upd r (us T aW) (aq (aU ab (by decide)) (aq (aU (ub (aD o N) d) (by decide)) aG))),(ud ae aW u)⟩
 have bp:=aj h
 refine bf<|sq<|sg<|Pl 2<|nt<|cf h<|bf<|sq<|sg<|?_
 refine Pl 2<|nt<|cf h<|bf<|sq<|sg<|Pl 2<|nt<|cf h<|sk<|?_
 refine tn<|sg<|L0<|bO (hz:=(by rw[l.size];exact aI)) a6<|Pl 1<|?_
 refine L0<|b7 (hz:=(by rw[l.size];exact aI)) (hv:=l.size) (h1:=(cN.one l hsl)) (ub o d) (a5) fun cr bM aY=>Pl 1<|nt<|rt<|eJ 22 l.size bM (.int .i64 (((ai aF dir (b.getD 0 0) (b.drop 1))).2))<|?_
 have hs:gG dir b=(ai aF dir (b.getD 0 0) (b.drop 1)):=by
   unfold gG
   (try simp only[f,g,j,x,h,bs,if_true,if_false,decide_true,decide_false,ft,reduceIte])
   all_goals rfl
 rw[← fE]
 refine i1 hs ?_
 exact⟨_,rfl,(cN.upd l (uz M aY) (aq (aU (ub e d) (by decide)) aG)),(ud a7 aY u)⟩
theorem eG{m:Md}{v:Value}{b:List Int}{w:World}{dir:Int}(h:b9 m w v b)(hb:b.length≤1048576) : Calls Tryz.prog 25 #[.int .i64 dir,v] w (cy v b (cH dir b) w):=by
  obtain⟨A,cp,rfl,_,_⟩:=h.shape
  exact pj h hb
open Go.RowKit
theorem oo{m:Md}{v:Value}{b:List Int}{w:World}{dir:Int}{M:aP}{E:Int}(hX:cH dir b=(M,E))(h:b9 m w v b)(hb:b.length≤1048576) : Calls Tryz.prog 25 #[.int .i64 dir,v] w (fun e w'=>∃ x,e = .returned (.tuple #[.agg (pA M x),.int .i64 E])∧cN v b w' (pA M x).toList M∧aC [] w w'):=by
  refine(eG h hb).mono ?_
  rintro e w' ⟨cs,rfl,h1,h2⟩
  rw[hX] at h1 ⊢
  obtain⟨x,rfl⟩:=ot (h1.rd (b9.old h h2))
  exact⟨x,rfl,h1,h2⟩
open Go.RowKit
open Go.RowKit
def fX (dir:Int)(b:List Int) : fy × Int :=
  if dir != 0&&dir != 1 then (fy.zero,1)
  else if decide ((b.length:Int)<9) then (fy.zero,2)
  else if decide (513<(b.length:Int)) then (fy.zero,3)
  else if ((b.getD 0 0 != 58)||(b.getD ((b.length:Int)-2).toNat 0 != 13))||(b.getD ((b.length:Int)-1).toNat 0 != 10) then (fy.zero,12)
  else match bT ((b.take ((b.length:Int)-2).toNat).drop 1) with
    | none=>(fy.zero,11)
    | some x=>if !(dS x) then (fy.zero,10) else eu (x.getD 0 0) 0 (cH dir ((x.take ((x.length:Int)-1).toNat).drop 1))
theorem wF{b:List Int}(h:3≤b.length) : fD (b.drop 1)=((b.getD ((b.length:Int)-2).toNat 0==13)&&(b.getD ((b.length:Int)-1).toNat 0==10)):=by
  unfold fD
  rw[show((((b.drop 1).length:Nat) : Int)-2).toNat=b.length-3 from by simp only[List.length_drop];omega,List.drop_drop,show 1+(b.length-3)=b.length-2 from by omega,show((b.length:Int)-2).toNat=b.length-2 from by omega,show((b.length:Int)-1).toNat=b.length-2+1 from by omega,decide_eq_true (show 2≤(((b.drop 1).length:Nat) : Int) from by simp only[List.length_drop];omega),Bool.true_and]
  have e:b.drop (b.length-2)=[b.getD (b.length-2) 0,b.getD (b.length-2+1) 0]:=by
    apply List.ext_getElem
    · simp;omega
    · intro i h1 h2
      simp only[List.length_cons,List.length_nil] at h2
      rw[List.getElem_drop]
      rcases i with _|_|i
      · simp[List.getD_eq_getElem?_getD,List.getElem?_eq_getElem (show b.length-2<b.length by omega)]
      · simp[List.getD_eq_getElem?_getD,List.getElem?_eq_getElem (show b.length-2+1<b.length by omega)]
      · omega
  rw[e,Bool.eq_iff_iff]
  simp only[decide_eq_true_eq,List.cons.injEq,and_true,Bool.and_eq_true,beq_iff_eq]
theorem fe{dir:Int}{b:List Int}:fX dir b=ex dir b:=by
  unfold fX ex
  split
  · rfl
  split
  · rfl
  rename_i hl
  have hl:9≤b.length:=by
    have:=of_decide_eq_false (by simpa using hl:decide ((b.length:Int)<9)=false)
    omega
  split
  · rfl
  have h2:=wF (b:=b) (by omega)
  by_cases hc:(((b.getD 0 0 != 58)||(b.getD ((b.length:Int)-2).toNat 0 != 13))||(b.getD ((b.length:Int)-1).toNat 0 != 10))=true
  · rw[if_pos hc]
    have hd:gy b=none:=by
      unfold gy
      rw[if_neg]
      rintro⟨k1,k2⟩
      rw[h2] at k2
      simp only[Bool.or_eq_true,bne_iff_ne,ne_eq,Bool.and_eq_true,beq_iff_eq] at hc k2
      rcases hc with(hc|hc) | hc
      · exact hc k1
      · exact hc k2.1
      · exact hc k2.2
    rw[hd]
  · rw[if_neg hc]
    simp only[Bool.or_eq_true,bne_iff_ne,ne_eq,not_or,Decidable.not_not] at hc
    have hd:gy b=some ((b.take ((b.length:Int)-2).toNat).drop 1):=by
      unfold gy
      rw[if_pos ⟨hc.1.1,by rw[h2,hc.1.2,hc.2];rfl⟩,List.drop_take,show((b.length:Int)-2).toNat-1=b.length-3 from by omega]
    rw[hd]
    dsimp only
    cases bT ((b.take ((b.length:Int)-2).toNat).drop 1) with
    | none=>rfl
    | some x=>dsimp only;rw[j6]
open Go.RowKit
theorem fW.old{base:Nat}{w w':World}{v:Value}{xs:List Int}(h:fW base w v xs)(hu:aC [] w w') : fW base w' v xs:=by
  obtain⟨g,cap,cur,n,h1,h2,h3,h4⟩:=h
  exact⟨g,cap,cur,n,h1,h2,hu.blk (by simp) h3,h4⟩
section
variable {P:Program}{n:Nat}{D:List Deferred}{F:Fr}{w:World}{K:Fr→World→Prop}{Q:Exit→Act→World→Prop}{d:Option Tmp}{t:TypeId}{s:String}{af:Array Edge}{gu:Option (Nat × Bool)}
end
open Go.RowKit
theorem um{w:World}{c:Int}(hc:0≤c∧c<256) : Calls Tryz.prog 185 #[.int .u8 c] w (cG (.int .i64 (bV c)) w):=by
 refine en 23 Tryz.func185 rfl<|sg<|Pl 1<|nt<|sq<|bk<|sg<|Pl 3<|cu 3 [6] 9 (((decide (48≤c))&&(decide (c≤57)))) (fun K f=>?_) ?_
 refine bl 6 ((decide (48≤c))) (fun a=>?_) (fun a=>?_)
 have h:=of_decide_eq_true a
 exact Pl 3<|ce f (decide (c≤57)) (by rw[a];rfl)
 have h:=of_decide_eq_false a
 exact Pl 3<|ce f false (by rw[a];rfl)
 refine Pl 1<|nt<|cb (((decide (48≤c))&&(decide (c≤57)))) (fun d=>?_) (fun d=>?_)
 have i:=(aT d).1
 have j:=(aT d).2
 have n:=of_decide_eq_true i
 have o:=of_decide_eq_true j
 refine sg<|Pl 1<|L0<|Oi c<|L0<|Oi (c-48)<|Pl 1<|nt<|rt<|br<|tr<|rr (.int .i64 (c-48))<|?_
 have hs:bV c=(c-48):=by unfold bV;(try simp only[Bool.and_eq_true,decide_eq_true_eq,Bool.and_eq_false_iff,decide_eq_false_iff_not] at *);(repeat' split)<;>omega
 rw[hs]
 exact⟨rfl,(aC.refl [] _)⟩
 refine sg<|Pl 3<|cu 3 [16] 19 (((decide (65≤c))&&(decide (c≤70)))) (fun K g=>?_) ?_
 refine bl 16 ((decide (65≤c))) (fun b=>?_) (fun b=>?_)
 have k:=of_decide_eq_true b
 exact Pl 3<|ce g (decide (c≤70)) (by rw[b];rfl)
 have k:=of_decide_eq_false b
 exact Pl 3<|ce g false (by rw[b];rfl)
 refine Pl 1<|nt<|cb (((decide (65≤c))&&(decide (c≤70)))) (fun e=>?_) (fun e=>?_)
 have l:=(aT e).1
 have m:=(aT e).2
 have p:=of_decide_eq_true l
 have q:=of_decide_eq_true m
 refine sg<|Pl 1<|L0<|Oi c<|L0<|Oi (c-55)<|Pl 1<|nt<|rt<|br<|tr<|rr (.int .i64 (c-55))<|?_
 have hs:bV c=(c-55):=by unfold bV;(try simp only[Bool.and_eq_true,decide_eq_true_eq,Bool.and_eq_false_iff,decide_eq_false_iff_not] at *);(repeat' split)<;>omega
 rw[hs]
 exact⟨rfl,(aC.refl [] _)⟩
 refine sk<|bn<|tn<|sg<|Pl 1<|nt<|rt<|rr (.int .i64 (-1))<|?_
 have hs:bV c = -1:=by unfold bV;(try simp only[Bool.and_eq_true,decide_eq_true_eq,Bool.and_eq_false_iff,decide_eq_false_iff_not] at *);(repeat' split)<;>omega
 rw[hs]
 exact⟨rfl,(aC.refl [] _)⟩
theorem rD(c:Int) : -1≤bV c:=by
  unfold bV
  (repeat' split)<;>omega
theorem uq{xs:List Int}{w:World}(hr:dc xs)(hl:xs.length≤1048576) :
    Calls Tryz.prog 125 #[.string (strOfNums xs)] w (gw xs w):=by
 refine en 43 Tryz.func125 rfl<|sg<|Pl 2<|nt<|sq<|sg<|Pl 1<|L0<|Oe (.int .i64 (((strOfNums xs).size:Nat) : Int)) (.int .i64 ((xs.length:Nat) : Int)) (by rw[strOfNums_size])<|L0<|Oe (.int .i64 (Int.tmod ((xs.length:Nat) : Int) 2)) (.int .i64 (((xs.length:Nat) : Int)%2)) (congrArg (Value.int .i64) (Int.tmod_eq_emod_of_nonneg (by omega)))<|Pl 1<|nl<|?_
 refine tn<|cb (((((xs.length:Nat) : Int)%2)==1)) (fun d=>?_) (fun d=>?_)
 have v:=ah d
 refine sg<|Pl 2<|nt<|rt<|tr<|rr (.tuple #[.slice none 0 0,.int .i64 11])<|?_
 have hs:bT xs=none:=jY (by omega)
 exact kW hs ⟨rfl,(aC.refl [] _)⟩
 have v:=aj d
 refine bf<|sg<|Pl 1<|nt<|sq<|sg<|Pl 1<|nt<|bk<|?_
 refine iN (fun x=>[(0,.string (strOfNums xs)),(4,.slice x.2.2.1 x.2.1.length x.2.2.2),(5,.int .i64 ((2*x.1:Nat) : Int))]) (fun(x:Nat × List Int × Option Addr × Nat) w'=>aC [] w w'∧eB w.heap.size w' (.slice x.2.2.1 x.2.1.length x.2.2.2) x.2.1∧(2*x.1≤xs.length)∧(bT xs=(bT (xs.drop (2*x.1))).map fun l=>x.2.1++l)∧(x.2.1.length=x.1)) (fun x=>xs.length-2*x.1) (0,[],none,0) ⟨aC.refl _ _,(aS.nil w.heap.size _ _ s9 _),(by(try dsimp only);omega),(by(try dsimp only);simp),(by(try dsimp only);rfl)⟩ ?_
 rintro⟨k,L,B,cq⟩ y ⟨f,z,A,C,D⟩
 refine iy [(0,.string (strOfNums xs)),(4,.slice B L.length cq),(5,.int .i64 ((2*k:Nat) : Int))] ?_
 have g:eB w.heap.size y (.slice B L.length cq) L:=z
 have R:2*k≤xs.length:=A
 have S:bT xs=(bT (xs.drop (2*k))).map fun l=>L++l:=C
 have T:L.length=k:=D
 have hL:bT xs=(bT (xs.drop (2*k))).map fun l=>L++l:=by assumption
 refine sq<|sg<|Pl 1<|L0<|Oi (((2*k:Nat) : Int)+1)<|Pl 1<|L0<|Oe (.int .i64 (((strOfNums xs).size:Nat) : Int)) (.int .i64 ((xs.length:Nat) : Int)) (by rw[strOfNums_size])<|Pl 1<|nt<|cb ((decide ((((2*k:Nat) : Int)+1)<((xs.length:Nat) : Int)))) (fun j=>?_) (fun j=>?_)
 have E:=of_decide_eq_true j
 refine bf<|sq<|bk<|sg<|Pl 2<|L0<|iP (.int .u8 (xs.getD (2*k) 0)) (jf (xs:=xs) (k:=.i64) (i:=((2*k:Nat) : Int)) (2*k) rfl Tryz.underlying9 (by kernel_rfl) (by kernel_rfl) hr rfl (by omega))<|?_
 have U:=jr (xs.getD (2*k) 0)
 have V:=rD (xs.getD (2*k) 0)
 refine L0<|Oc<|m1 (um (c:=(xs.getD (2*k) 0)) (w:=_) (fi (by omega) hr _)) fun W o=>Pl 1<|ng<|Pl 2<|L0<|Oi (((2*k:Nat) : Int)+1)<|L0<|iP (.int .u8 (xs.getD ((((2*k:Nat) : Int)+1)).toNat 0)) (jf (xs:=xs) (k:=.i64) (i:=(((2*k:Nat) : Int)+1)) ((((2*k:Nat) : Int)+1)).toNat rfl Tryz.underlying9 (by kernel_rfl) (by kernel_rfl) hr (by omega) (by omega))<|?_
 have X:=jr (xs.getD ((((2*k:Nat) : Int)+1)).toNat 0)
 have Y:=rD (xs.getD ((((2*k:Nat) : Int)+1)).toNat 0)
 refine L0<|Oc<|m1 (um (c:=(xs.getD ((((2*k:Nat) : Int)+1)).toNat 0)) (w:=_) (fi (by omega) hr _)) fun Z p=>Pl 1<|nt<|sq<|sg<|Pl 3<|cu 3 [30] 33 ((((bV (xs.getD (2*k) 0))==(-1))||((bV (xs.getD ((((2*k:Nat) : Int)+1)).toNat 0))==(-1)))) (fun K r=>?_) ?_
 refine bl 30 (((bV (xs.getD (2*k) 0))==(-1))) (fun a=>?_) (fun a=>?_)
 have F:=ah a
 exact Pl 3<|ce r true (by rw[a];rfl)
 have F:=aj a
 exact Pl 3<|ce r ((bV (xs.getD ((((2*k:Nat) : Int)+1)).toNat 0))==(-1)) (by rw[a];rfl)
 refine nt<|?_
 have s:=aD o p
 have t:=aD f s
 refine cb ((((bV (xs.getD (2*k) 0))==(-1))||((bV (xs.getD ((((2*k:Nat) : Int)+1)).toNat 0))==(-1)))) (fun b=>?_) (fun b=>?_)
 refine sg<|Pl 2<|nt<|rt<|tr<|br<|tr<|tr<|br<|tr<|rr (.tuple #[.slice none 0 0,.int .i64 11])<|?_
 have hs:bT xs=none:=pf (k:=k) hL (by omega) (by have q:=b;simp only[Bool.or_eq_true,beq_iff_eq] at q;rw[show 2*k+1=(((2*k:Nat) : Int)+1).toNat from by omega];omega)
 exact kW hs ⟨rfl,t⟩
 have G:=(aE b).1
 have H:=(aE b).2
 have a0:=aj G
 have a1:=aj H
 refine bf<|go<|Pl 2<|L0<|Oi (16*(bV (xs.getD (2*k) 0)))<|Pl 1<|L0<|Oi ((16*(bV (xs.getD (2*k) 0)))+(bV (xs.getD ((((2*k:Nat) : Int)+1)).toNat 0)))<|Pl 1<|L0<|cL (m:=1) (e:=5) #[.int .u8 (((16*(bV (xs.getD (2*k) 0)))+(bV (xs.getD ((((2*k:Nat) : Int)+1)).toNat 0)))%256)] fun a2 a3 I J n=>?_
 have M:=cC I (xs:=[(((16*(bV (xs.getD (2*k) 0)))+(bV (xs.getD ((((2*k:Nat) : Int)+1)).toNat 0)))%256)]) (by as_aux_lemma=>kernel_rfl) (au (by omega) aK) (by(try simp only[List.length_cons,List.length_nil]);omega) J
 refine L0<|bR aZ (xs:=L) (ys:=([(((16*(bV (xs.getD (2*k) 0)))+(bV (xs.getD ((((2*k:Nat) : Int)+1)).toNat 0)))%256)])) (.int .u8 0) 1 (ap g (aD s n) (fun x hx=>az) (fun _ _ h=>h)) (M).rd (by(try simp only[List.length_append,List.length_cons,List.length_nil,aA]);omega) (le (le (le f.size o.size) p.size) n.size) fun N O a4 P Q=>Pl 1<|nl<|bn<|tn<|go<|Pl 1<|L0<|Oi (((2*k:Nat) : Int)+2)<|Pl 1<|nl<|?_
 have u:=lC (k:=k) hL (by omega) (by omega) (by rw[show 2*k+1=(((2*k:Nat) : Int)+1).toNat from by omega];omega)
 rw[show 2*k+1=(((2*k:Nat) : Int)+1).toNat from by omega] at u
 exact gB ((k+1),(L++[(((16*(bV (xs.getD (2*k) 0)))+(bV (xs.getD ((((2*k:Nat) : Int)+1)).toNat 0)))%256)]),N,O) ⟨(ut t (ut (aC.mono (S':=(ob B++[])) n ay) Q (av il ay)) (av (aN g lr) ay)),P,(by(try dsimp only);omega),u,(by(try dsimp only);simp only[List.length_append,List.length_cons,List.length_nil];omega)⟩ (by omega)
 have E:=of_decide_eq_false j
 refine xt<|tx<|tx<|bx<|tn<|sg<|Pl 3<|nt<|rt<|rr (.tuple #[.slice B L.length cq,.int .i64 0])<|?_
 have hs:bT xs=some L:=mY hL (by omega)
 exact rI hs ⟨_,rfl,g,f⟩
theorem rR{m:Md}{A:Option Addr}{cp:Nat}{b:List Int}{w:World}(hsl:b9 m w (.slice A b.length cp) b) :
    Calls Tryz.prog 186 #[.slice A b.length cp] w (cG (.int .u8 (cg b)) w):=by
 have hln:=aL.len hsl
 have hb:=b9.range hsl
 refine en 23 Tryz.func186 rfl<|sg<|Pl 1<|ng<|Pl 1<|nt<|sq<|sg<|?_
 refine Pl 1<|nt<|bk<|?_
 refine iN (fun x=>[(0,.slice A b.length cp),(2,.int .u8 0),(3,.int .i64 (fz b x)),(4,.int .i64 ((x:Nat) : Int))]) (fun(x:Nat) w'=>aC [] w w'∧(x≤b.length)) (fun x=>b.length-x) 0 ⟨aC.refl _ _,(by(try dsimp only);omega)⟩ ?_
 rintro k j ⟨a,d⟩
 refine iy [(0,.slice A b.length cp),(2,.int .u8 0),(3,.int .i64 (fz b k)),(4,.int .i64 ((k:Nat) : Int))] ?_
 have l:k≤b.length:=d
 have hlr:=oQ b k
 refine sq<|sg<|Pl 4<|nt<|cb ((decide (((k:Nat) : Int)<((b.length:Nat) : Int)))) (fun c=>?_) (fun c=>?_)
 have e:=of_decide_eq_true c
 refine bf<|sq<|bk<|go<|Pl 3<|?_
 refine gh (b9.at_ (b9.old hsl a) k (by omega)) fun f g h i n=>L0<|m8 b.length k h (by omega)<|L0<|ei (p:=⟨f,g+k,none⟩) (v:=.int .u8 (b.getD k 0)) i<|L0<|Oi (b.getD k 0)<|L0<|Oi ((fz b k)+(b.getD k 0))<|L0<|Oe (.int .i64 (Int.tmod ((fz b k)+(b.getD k 0)) 256)) (.int .i64 (((fz b k)+(b.getD k 0))%256)) (congrArg (Value.int .i64) (Int.tmod_eq_emod_of_nonneg (by omega)))<|Pl 1<|nl<|bn<|tn<|go<|Pl 1<|L0<|Oi (((k:Nat) : Int)+1)<|Pl 1<|nl<|?_
 exact gB (k+1) ⟨a,(by(try dsimp only);omega)⟩ (by omega)
 have e:=of_decide_eq_false c
 refine xt<|tx<|tx<|bx<|tn<|sg<|Pl 1<|L0<|Oi (256-(fz b k))<|L0<|Oe (.int .i64 (Int.tmod (256-(fz b k)) 256)) (.int .i64 ((256-(fz b k))%256)) (congrArg (Value.int .i64) (Int.tmod_eq_emod_of_nonneg (by omega)))<|Pl 2<|nt<|rt<|?_
 refine rr (.int .u8 (((256-(fz b k))%256)%256))<|?_
 have hk:k=b.length:=by omega
 subst hk
 have hs:cg b=(((256-(fz b b.length))%256)%256):=by unfold cg p6;omega
 rw[hs]
 exact⟨rfl,a⟩
theorem we{m:Md}{A:Option Addr}{cp:Nat}{b:List Int}{w:World}(hsl:b9 m w (.slice A b.length cp) b) :
    Calls Tryz.prog 126 #[.slice A b.length cp] w (cG (.bool (dS b)) w):=by
 have hln:=aL.len hsl
 refine en 9 Tryz.func126 rfl<|sg<|Pl 1<|nt<|sq<|sg<|Pl 3<|nt<|cb ((((b.length:Nat) : Int)==0)) (fun a=>?_) (fun a=>?_)
 have c:=ah a
 refine sg<|Pl 1<|nt<|rt<|tr<|rr (.bool false)<|?_
 have hs:dS b=false:=by unfold dS;rw[decide_eq_false (by omega)];rfl
 rw[hs]
 exact⟨rfl,(aC.refl [] _)⟩
 have c:=aj a
 refine bf<|sg<|Pl 1<|L0<|Oc (args:=#[.slice A b.length cp])<|m1 (rR hsl) fun e d=>Pl 2<|nt<|rt<|rr (.bool ((cg b)==0))<|?_
 have hs:dS b=((cg b)==0):=by unfold dS;rw[decide_eq_true (by omega)];rfl
 rw[hs]
 exact⟨rfl,d⟩
open Go.RowKit
theorem pK{m:Md}{A:Option Addr}{cp:Nat}{b:List Int}{w:World}{dir:Int}(hsl:b9 m w (.slice A b.length cp) b)(hb:b.length≤1048576)(hcp:b.length≤cp) :
    Calls Tryz.prog 61 #[.int .i64 dir,.slice A b.length cp] w (qW (ex dir b) w):=by
 have hln:(b.length:Int)≤1048576:=by omega
 have hr:dc b:=b9.range hsl
 refine en 86 Tryz.func61 rfl<|sg<|L0<|bH #[.int .u8 0,.int .u16 0,.int .u8 0,.int .u8 0,.int .u16 0,.int .u16 0,.int .u16 0,.int .u16 0,.int .u16 0,.int .u16 0,.int .u16 0,.int .u16 0,.int .u16 0,.int .u16 0,.slice none 0 0,.slice none 0 0,.slice none 0 0,.slice none 0 0,.int .u8 0,.int .u8 0,.int .u8 0,.int .u8 0,.int .u8 0,.slice none 0 0] fun bp S l f q=>Pl 1<|ng<|Pl 3<|nt<|sq<|sq<|?_
 refine go<|Pl 3<|cu 3 [16] 19 (((dir != 0)&&(dir != 1))) (fun K T=>?_) ?_
 refine bl 16 ((dir != 0)) (fun z=>?_) (fun z=>?_)
 have ac:=ax z
 exact Pl 3<|ce T (dir != 1) (by rw[z];rfl)
 have ac:=ag z
 exact Pl 3<|ce T false (by rw[z];rfl)
 refine nt<|cb (((dir != 0)&&(dir != 1))) (fun i=>?_) (fun i=>?_)
 have U:=(aT i).1
 have V:=(aT i).2
 have bq:=ax U
 have br:=ax V
 refine sg<|Pl 1<|L0<|b7 f #[.int .u8 0,.int .u16 0,.int .u8 0,.int .u8 0,.int .u16 0,.int .u16 0,.int .u16 0,.int .u16 0,.int .u16 0,.int .u16 0,.int .u16 0,.int .u16 0,.int .u16 0,.int .u16 0,.slice none 0 0,.slice none 0 0,.slice none 0 0,.slice none 0 0,.int .u8 0,.int .u8 0,.int .u8 0,.int .u8 0,.int .u8 0,.slice none 0 0] fun bt ae af=>Pl 1<|nt<|rt<|tr<|bJ ae (.int .i64 1)<|?_
 have hs:fX dir b=(fy.zero,1):=by
   unfold fX
   (try simp only[i,U,V,bs,if_true,if_false,decide_true,decide_false,eu,reduceIte])
   all_goals rfl
 rw[← fe]
 refine eQ hs ?_
 exact dI (ud q af l)
 refine bf<|sq<|sg<|Pl 2<|nt<|cb ((decide (((b.length:Nat) : Int)<9))) (fun j=>?_) (fun j=>?_)
 have ah:=of_decide_eq_true j
 refine sg<|Pl 1<|L0<|b7 f #[.int .u8 0,.int .u16 0,.int .u8 0,.int .u8 0,.int .u16 0,.int .u16 0,.int .u16 0,.int .u16 0,.int .u16 0,.int .u16 0,.int .u16 0,.int .u16 0,.int .u16 0,.int .u16 0,.slice none 0 0,.slice none 0 0,.slice none 0 0,.slice none 0 0,.int .u8 0,.int .u8 0,.int .u8 0,.int .u8 0,.int .u8 0,.slice none 0 0] fun bu ai aj=>Pl 1<|nt<|rt<|tr<|bJ ai (.int .i64 2)<|?_
 have hs:fX dir b=(fy.zero,2):=by
   unfold fX
   (try simp only[i,j,bs,if_true,if_false,decide_true,decide_false,eu,reduceIte])
   all_goals rfl
 rw[← fe]
 refine eQ hs ?_
 exact dI (ud q aj l)
 have ah:=of_decide_eq_false j
 refine bf<|sq<|sg<|Pl 2<|nt<|cb ((decide (513<((b.length:Nat) : Int)))) (fun k=>?_) (fun k=>?_)
 have ak:=of_decide_eq_true k
 refine sg<|Pl 1<|L0<|b7 f #[.int .u8 0,.int .u16 0,.int .u8 0,.int .u8 0,.int .u16 0,.int .u16 0,.int .u16 0,.int .u16 0,.int .u16 0,.int .u16 0,.int .u16 0,.int .u16 0,.int .u16 0,.int .u16 0,.slice none 0 0,.slice none 0 0,.slice none 0 0,.slice none 0 0,.int .u8 0,.int .u8 0,.int .u8 0,.int .u8 0,.int .u8 0,.slice none 0 0] fun bv al an=>Pl 1<|nt<|rt<|tr<|bJ al (.int .i64 3)<|?_
 have hs:fX dir b=(fy.zero,3):=by
   unfold fX
   (try simp only[i,j,k,bs,if_true,if_false,decide_true,decide_false,eu,reduceIte])
   all_goals rfl
 rw[← fe]
 refine eQ hs ?_
 exact dI (ud q an l)
 have ak:=of_decide_eq_false k
 refine bf<|sq<|sg<|Pl 1<|?_
 have t:=b9.old hsl q
 refine gh (b9.at_ t 0 (by omega)) fun au av ay aA bw=>L0<|m8 b.length 0 ay (by omega)<|L0<|ei (p:=⟨au,av+0,none⟩) (v:=.int .u8 (b.getD 0 0)) aA<|Pl 2<|bl 31 (((b.getD 0 0)!=58)) (fun o=>?_) (fun o=>?_)
 have aC:=ax o
 refine Pl 15<|nt<|c1<|sg<|Pl 1<|L0<|b7 f #[.int .u8 0,.int .u16 0,.int .u8 0,.int .u8 0,.int .u16 0,.int .u16 0,.int .u16 0,.int .u16 0,.int .u16 0,.int .u16 0,.int .u16 0,.int .u16 0,.int .u16 0,.int .u16 0,.slice none 0 0,.slice none 0 0,.slice none 0 0,.slice none 0 0,.int .u8 0,.int .u8 0,.int .u8 0,.int .u8 0,.int .u8 0,.slice none 0 0] fun bx aE aF=>Pl 1<|nt<|rt<|tr<|bJ aE (.int .i64 12)<|?_
 have hs:fX dir b=(fy.zero,12):=by
   unfold fX
   (try simp only[i,j,k,o,bs,if_true,if_false,decide_true,decide_false,eu,reduceIte])
   all_goals rfl
 rw[← fe]
 refine eQ hs ?_
 exact dI (ud q aF l)
 have aC:=ag o
 refine Pl 2<|L1<|Oi (((b.length:Nat) : Int)-2)<|gh (b9.at_ t (((((b.length:Nat) : Int)-2)).toNat) (by omega)) fun aI aJ aK aL bz=>L1<|wi b.length (((((b.length:Nat) : Int)-2)).toNat) (((b.length:Nat) : Int)-2) (by omega) aK (by omega)<|L1<|ei (p:=⟨aI,aJ+(((((b.length:Nat) : Int)-2)).toNat),none⟩) (v:=.int .u8 (b.getD (((((b.length:Nat) : Int)-2)).toNat) 0)) aL<|Pl 3<|bl 39 (((b.getD (((((b.length:Nat) : Int)-2)).toNat) 0)!=13)) (fun r=>?_) (fun r=>?_)
 have aM:=ax r
 refine Pl 7<|nt<|c1<|sg<|Pl 1<|L0<|b7 f #[.int .u8 0,.int .u16 0,.int .u8 0,.int .u8 0,.int .u16 0,.int .u16 0,.int .u16 0,.int .u16 0,.int .u16 0,.int .u16 0,.int .u16 0,.int .u16 0,.int .u16 0,.int .u16 0,.slice none 0 0,.slice none 0 0,.slice none 0 0,.slice none 0 0,.int .u8 0,.int .u8 0,.int .u8 0,.int .u8 0,.int .u8 0,.slice none 0 0] fun bA aN aO=>Pl 1<|nt<|rt<|tr<|bJ aN (.int .i64 12)<|?_
 have hs:fX dir b=(fy.zero,12):=by
   unfold fX
   (try simp only[i,j,k,o,r,bs,if_true,if_false,decide_true,decide_false,eu,reduceIte])
   all_goals rfl
 rw[← fe]
 refine eQ hs ?_
 exact dI (ud q aO l)
 have aM:=ag r
 refine Pl 2<|L1<|Oi (((b.length:Nat) : Int)-1)<|gh (b9.at_ t (((((b.length:Nat) : Int)-1)).toNat) (by omega)) fun aP aQ aR aS bB=>L1<|wi b.length (((((b.length:Nat) : Int)-1)).toNat) (((b.length:Nat) : Int)-1) (by omega) aR (by omega)<|L1<|ei (p:=⟨aP,aQ+(((((b.length:Nat) : Int)-1)).toNat),none⟩) (v:=.int .u8 (b.getD (((((b.length:Nat) : Int)-1)).toNat) 0)) aS<|Pl 2<|nt<|cb (((b.getD (((((b.length:Nat) : Int)-1)).toNat) 0)!=10)) (fun s=>?_) (fun s=>?_)
 have aV:=ax s
 refine sg<|Pl 1<|L0<|b7 f #[.int .u8 0,.int .u16 0,.int .u8 0,.int .u8 0,.int .u16 0,.int .u16 0,.int .u16 0,.int .u16 0,.int .u16 0,.int .u16 0,.int .u16 0,.int .u16 0,.int .u16 0,.int .u16 0,.slice none 0 0,.slice none 0 0,.slice none 0 0,.slice none 0 0,.int .u8 0,.int .u8 0,.int .u8 0,.int .u8 0,.int .u8 0,.slice none 0 0] fun bC aX aY=>Pl 1<|nt<|rt<|tr<|bJ aX (.int .i64 12)<|?_
 have hs:fX dir b=(fy.zero,12):=by
   unfold fX
   (try simp only[i,j,k,o,r,s,bs,if_true,if_false,decide_true,decide_false,eu,reduceIte])
   all_goals rfl
 rw[← fe]
 refine eQ hs ?_
 exact dI (ud q aY l)
 have aV:=ag s
 refine bf<|sg<|Pl 2<|L0<|Oi (((b.length:Nat) : Int)-2)<|oT (i4 (P:=Tryz.prog) 22 5 1 Tryz.underlying22 rfl rfl A b.length cp (lo:=1) (up:=(((b.length:Nat) : Int)-2)) 1 (((((b.length:Nat) : Int)-2)).toNat) (by omega) (by omega) (by omega) (by omega) (by omega)) fun W hrun64 H=>L0<|iP (.slice W ((((((b.length:Nat) : Int)-2)).toNat)-1) (cp-1)) (eZ (kl:=.i64) (kh:=.i64) (lo:=1) (hi:=(((b.length:Nat) : Int)-2)) (A:=A) (n:=b.length) (c:=cp) rfl Tryz.underlying22 (by kernel_rfl) (by kernel_rfl) (by kernel_rfl) (hrun64 _ _ _))<|L0<|iP (.string (strOfNums ((b.take (((((b.length:Nat) : Int)-2)).toNat)).drop 1))) (dW (A:=W) (n:=((((((b.length:Nat) : Int)-2)).toNat)-1)) (c:=(cp-1)) rfl (by kernel_rfl) Tryz.underlying22 Tryz.underlying5 Tryz.underlying9 (H _ _ _ _ _ t))<|?_
 rcases hth:bT ((b.take (((((b.length:Nat) : Int)-2)).toNat)).drop 1) with _|x
 have aZ:=(uq (w:=S) (b9.range (H _ _ _ _ _ t)) (by rw[List.length_drop,List.length_take];omega)).mono (pO hth)
 refine L0<|Oc<|m1 aZ fun bD X=>Pl 5<|nt<|sq<|sg<|Pl 2<|nt<|c1<|sg<|Pl 2<|?_
 refine L0<|b7 (ub X f) #[.int .u8 0,.int .u16 0,.int .u8 0,.int .u8 0,.int .u16 0,.int .u16 0,.int .u16 0,.int .u16 0,.int .u16 0,.int .u16 0,.int .u16 0,.int .u16 0,.int .u16 0,.int .u16 0,.slice none 0 0,.slice none 0 0,.slice none 0 0,.slice none 0 0,.int .u8 0,.int .u8 0,.int .u8 0,.int .u8 0,.int .u8 0,.slice none 0 0] fun bE b0 b1=>Pl 1<|nt<|rt<|tr<|bJ b0 (.int .i64 11)<|?_
 have hs:fX dir b=(fy.zero,11):=by
   unfold fX
   (try simp only[i,j,k,o,r,s,bs,if_true,if_false,decide_true,decide_false,eu,hth,reduceIte])
   all_goals rfl
 rw[← fe]
 refine eQ hs ?_
 exact dI (ud q (uz X b1) l)
 have hxl:2*x.length=(((b.take (((((b.length:Nat) : Int)-2)).toNat)).drop 1)).length:=by have:=jT hth;omega
 have hxl2:(((b.take (((((b.length:Nat) : Int)-2)).toNat)).drop 1)).length=b.length-3:=by rw[List.length_drop,List.length_take];omega
 have b2:=(uq (w:=S) (b9.range (H _ _ _ _ _ t)) (by rw[List.length_drop,List.length_take];omega)).mono (oZ hth)
 refine L0<|Oc<|dG b2 fun I D bF J bG bI Y=>Pl 5<|nt<|sq<|sg<|Pl 2<|nt<|c0<|bf<|sq<|?_
 refine go<|Pl 1<|L0<|Oc (args:=#[.slice I x.length D])<|m1 (we (J).rd) fun bK L=>Pl 1<|nt<|sq<|sg<|Pl 2<|nt<|?_
 have B:=aD Y L
 have Z:=aD q B
 refine cb ((!(dS x))) (fun u=>?_) (fun u=>?_)
 have E:(dS x)=false:=by simpa using u
 refine sg<|Pl 1<|?_
 refine L0<|b7 (ub B f) #[.int .u8 0,.int .u16 0,.int .u8 0,.int .u8 0,.int .u16 0,.int .u16 0,.int .u16 0,.int .u16 0,.int .u16 0,.int .u16 0,.int .u16 0,.int .u16 0,.int .u16 0,.int .u16 0,.slice none 0 0,.slice none 0 0,.slice none 0 0,.slice none 0 0,.int .u8 0,.int .u8 0,.int .u8 0,.int .u8 0,.int .u8 0,.slice none 0 0] fun bL b3 b4=>Pl 1<|nt<|rt<|tr<|bJ b3 (.int .i64 10)<|?_
 have hs:fX dir b=(fy.zero,10):=by
   unfold fX
   (try simp only[i,j,k,o,r,s,u,E,bs,if_true,if_false,decide_true,decide_false,eu,hth,reduceIte])
   all_goals rfl
 rw[← fe]
 refine eQ hs ?_
 exact dI (ud Z b4 l)
 have E:(dS x)=true:=by simpa using u
 refine bf<|sg<|Pl 4<|L0<|Oi (((x.length:Nat) : Int)-1)<|oT (i4 (P:=Tryz.prog) 22 5 1 Tryz.underlying22 rfl rfl I x.length D (lo:=1) (up:=(((x.length:Nat) : Int)-1)) 1 (((((x.length:Nat) : Int)-1)).toNat) (by omega) (by omega) (by omega) (by omega) (by omega)) fun b5 hrun96 a0=>L0<|iP (.slice b5 ((((((x.length:Nat) : Int)-1)).toNat)-1) (D-1)) (eZ (kl:=.i64) (kh:=.i64) (lo:=1) (hi:=(((x.length:Nat) : Int)-1)) (A:=I) (n:=x.length) (c:=D) rfl Tryz.underlying22 (by kernel_rfl) (by kernel_rfl) (by kernel_rfl) (hrun96 _ _ _))<|?_
 have a1:=ap J L (fun x hx=>az) (fun _ _ h=>h)
 refine pr (cH dir ((x.take (((((x.length:Nat) : Int)-1)).toNat)).drop 1)) fun a M N=>?_
 refine L0<|Oc<|e2 (oo N (a0 _ _ _ _ _ (a1).rd) (by rw[List.length_drop,List.length_take];omega)) fun d bM b6 F=>?_
 have a2:=ap a1 F (fun x hx=>az) (fun _ _ h=>h)
 refine Pl 3<|L0<|bH mZ fun a3 bN a4 ba bb=>L0<|b7 ba (pA a d) fun bO bc bd=>Pl 1<|nt<|sq<|sg<|Pl 2<|nt<|?_
 have O:=ud bb bd a4
 have Q:=aD F O
 have a5:=aD Z Q
 refine cb ((M != 0)) (fun C=>?_) (fun C=>?_)
 have be:=ax C
 refine sg<|Pl 2<|?_
 refine L0<|b7 (ub (aD B Q) f) #[.int .u8 0,.int .u16 0,.int .u8 0,.int .u8 0,.int .u16 0,.int .u16 0,.int .u16 0,.int .u16 0,.int .u16 0,.int .u16 0,.int .u16 0,.int .u16 0,.int .u16 0,.int .u16 0,.slice none 0 0,.slice none 0 0,.slice none 0 0,.slice none 0 0,.int .u8 0,.int .u8 0,.int .u8 0,.int .u8 0,.int .u8 0,.slice none 0 0] fun bP bg bh=>Pl 1<|nt<|rt<|tr<|bJ bg (.int .i64 M)<|?_
 have hs:fX dir b=(fy.zero,M):=by
   unfold fX
   (try simp only[i,j,k,o,r,s,u,E,C,bs,if_true,if_false,decide_true,decide_false,eu,hth,N,reduceIte])
   all_goals rfl
 rw[← fe]
 refine eQ hs ?_
 exact dI (ud a5 bh l)
 have be:=ag C
 refine bf<|sq<|?_
 have a6:=ap a2 O (fun x hx=>az) (fun _ _ h=>h)
 refine gh (b9.at_ (a6).rd 0 (by omega)) fun bj bk a7 bm bQ=>Rg 8 (fun w'=>w'.cell? ⟨bj,bk+0,none⟩=some (.int .u8 (x.getD 0 0))∧w'.heap[a3]? = some (.cells (pA a d) 30 (0,0))) fun bR G=>?_
 have a8:=ub G bc
 refine bi ⟨(uc G bm),a8⟩ fun y=>Rt 0 y<|nK 1 y x.length 0 0 rfl a7 (by omega)<|Rl 2 y (fun _ hs=>hs.1)<|Rt 3 y<|Rr 4 y (.agg (pA a d)) (fun w' hs=>m7 (g:=a3) (off:=0) [.int .u8 a.code,.int .u8 a.fail,.int .u16 a.addr,.int .u16 a.count,.int .u16 a.value,.int .u16 a.and_,.int .u16 a.or_,.int .u16 a.addr2,.int .u16 a.sub,.int .u16 a.status,.int .u16 a.events,.int .u16 a.messages,.slice d.aw a.words.length d.kw,.slice d.ab a.bits.length d.kb,.slice d.ad a.data.length d.kd,.slice d.ar a.recs.length d.kr,.int .u8 a.mei,.int .u8 a.kind,.int .u8 a.level,.int .u8 a.more,.int .u8 a.next,.slice d.ao a.objects.length d.ko] rfl (by kernel_rfl) hs.2 (by kernel_rfl) (by kernel_rfl) rfl)<|Rt 5 y<|?_
 refine R0 6 rfl<|b7 (ub (aD B (aD Q G)) f) (rJ (x.getD 0 0) 0 a d) fun bS bn a9=>?_
 have R:=uz G a9
 refine bi ⟨(cB ((ap a6 R (fun x hx=>(aa (fun e=>(aB (am f) lr J) (e▸hx)) az)) (fun _ _ h=>h))).rd a7 0 (by omega)),(aW a9 (Ne.symm (nb (am f) (le (le Y.size L.size) F.size) a4)) a8)⟩ fun bo=>Rt 7 bo<|re<|tn<|rt<|bJ bn (.int .i64 0)<|?_
 have hs:fX dir b=(⟨(x.getD 0 0),0,a⟩,0):=by
   unfold fX
   (try simp only[i,j,k,o,r,s,u,E,C,bs,if_true,if_false,decide_true,decide_false,eu,hth,N,reduceIte])
   all_goals rfl
 rw[← fe]
 refine eQ hs ?_
 exact⟨_,rfl,⟨pA a d,(by as_aux_lemma=>kernel_rfl),(aH.upd (cN.rdt b6 (a0 _ _ _ _ _ (a2).rd)) (uz O R) (aq (aU (ub (aD B F) f) (by decide)) aG)),b8 (x:=(x.getD 0 0)) (by omega),ez (x:=0) (by omega)⟩,(ud a5 R l)⟩
theorem qI{m:Md}{v:Value}{b:List Int}{w:World}{dir:Int}(h:b9 m w v b)(hb:b.length≤1048576) : Calls Tryz.prog 61 #[.int .i64 dir,v] w (qW (ex dir b) w):=by
  obtain⟨A,cp,rfl,hc,_⟩:=h.shape
  exact pK h hb hc
theorem nQ{m:Md}{v:Value}{b:List Int}{w:World}{dir:Int}{F:fy}{E:Int}(hX:ex dir b=(F,E))(h:b9 m w v b)(hb:b.length≤1048576) : Calls Tryz.prog 61 #[.int .i64 dir,v] w (fun e w'=>∃ x,e = .returned (.tuple #[.agg (rJ F.unit F.tid F.msg x),.int .i64 E])∧(aH true w' (pA F.msg x).toList F.msg∧(0≤F.unit∧F.unit<256)∧(0≤F.tid∧F.tid<65536))∧aC [] w w'):=by
  refine(qI h hb).mono ?_
  rintro e w' ⟨cs,rfl,h1,h2⟩
  rw[hX] at h1 ⊢
  obtain⟨c,rfl,h3,h4,h5⟩:=h1
  obtain⟨x,rfl⟩:=ot h3
  exact⟨x,by rw[l7],⟨h3,h4,h5⟩,h2⟩
open Go.RowKit
theorem vg{xs L:List Int}{k:Nat}(h:L=aJ (xs.take k))(h1:¬ ((k:Nat) : Int)<((xs.length:Nat) : Int)) : L=aJ xs:=by
  rw[h,List.take_of_length_le (by omega)]
theorem Ac{m:Md}{A:Option Addr}{cp:Nat}{xs:List Int}{w:World}(h:dU m w (.slice A xs.length cp) xs)(hn:xs.length≤1048576) : Calls Tryz.prog 174 #[.slice A xs.length cp] w (yu xs w):=by
 refine en 27 Tryz.func174 rfl<|sg<|Pl 1<|ng<|Pl 1<|nt<|sq<|sg<|?_
 refine Pl 1<|nt<|bk<|?_
 refine iN (fun x=>[(0,.slice A xs.length cp),(2,.slice none 0 0),(3,.slice x.2.2.1 x.2.1.length x.2.2.2),(4,.int .i64 ((x.1:Nat) : Int))]) (fun(x:Nat × List Int × Option Addr × Nat) w'=>aC [] w w'∧eB w.heap.size w' (.slice x.2.2.1 x.2.1.length x.2.2.2) x.2.1∧(x.1≤xs.length)∧(x.2.1=aJ (xs.take x.1))) (fun x=>xs.length-x.1) (0,[],none,0) ⟨aC.refl _ _,(aS.nil w.heap.size _ _ s9 _),(by(try dsimp only);omega),rfl⟩ ?_
 rintro⟨k,L,B,cq⟩ o ⟨b,p,q,r⟩
 refine iy [(0,.slice A xs.length cp),(2,.slice none 0 0),(3,.slice B L.length cq),(4,.int .i64 ((k:Nat) : Int))] ?_
 have d:eB w.heap.size o (.slice B L.length cq) L:=p
 have H:k≤xs.length:=q
 have I:L=aJ (xs.take k):=r
 have hL:L=aJ (xs.take k):=by assumption
 have hLn:L.length=2*k:=by rw[hL,aA,List.length_take];omega
 refine sq<|sg<|Pl 4<|nt<|cb ((decide (((k:Nat) : Int)<((xs.length:Nat) : Int)))) (fun c=>?_) (fun c=>?_)
 have s:=of_decide_eq_true c
 refine bf<|sq<|bk<|?_
 refine gh (dU.at_ (dU.old h b) k (by omega)) fun t u f j J=>Rg 16 (fun w'=>w'.cell? ⟨t,u+k,none⟩=some (.int .u16 (xs.getD k 0))) fun K g=>bi (uc g j) fun a=>Rt 0 a<|Rt 1 a<|Rt 2 a<|nK 3 a xs.length k ((k:Nat) : Int) rfl f (by omega)<|Rl 4 a (fun _ hs=>hs)<|Rr 5 a (.int .u16 ((xs.getD k 0)/256)) (fun _ _=>ch (.int .u16 (IntKind.u16.wrap (Int.tdiv (xs.getD k 0) 256))) (by kernel_rfl) (congrArg (Value.int .u16) (wO (by omega) (by omega))))<|Rt 6 a<|Rt 7 a<|Rt 8 a<|nK 9 a xs.length k ((k:Nat) : Int) rfl f (by omega)<|Rl 10 a (fun _ hs=>hs)<|?_
 refine Rr 11 a (.int .u16 ((xs.getD k 0)%256)) (fun _ _=>ch (.int .u16 (Int.tmod (xs.getD k 0) 256)) (by kernel_rfl) (congrArg (Value.int .u16) (Int.tmod_eq_emod_of_nonneg (by omega))))<|Rt 12 a<|R0 13 rfl<|cL (m:=2) (e:=5) #[.int .u8 (((xs.getD k 0)/256)%256),.int .u8 (((xs.getD k 0)%256)%256)] fun M N v y l=>?_
 have z:=cC v (xs:=[(((xs.getD k 0)/256)%256),(((xs.getD k 0)%256)%256)]) (by as_aux_lemma=>kernel_rfl) (au (by omega) (au (by omega) aK)) (by(try simp only[List.length_cons,List.length_nil]);omega) y
 have i:=aD g l
 refine bi (uc i j) fun O=>?_
 refine R0 14 rfl<|bR aZ (xs:=L) (ys:=([(((xs.getD k 0)/256)%256),(((xs.getD k 0)%256)%256)])) (.int .u8 0) 1 (ap d i (fun x hx=>az) (fun _ _ h=>h)) (z).rd (by(try simp only[List.length_append,List.length_cons,List.length_nil,aA]);omega) (le (le b.size g.size) l.size) fun C D P E F=>?_
 have n:=ut b (ut (aC.mono (S':=(ob B++[])) i ay) F (av il ay)) (av (aN d lr) ay)
 exact bi (cW (dU.old h n) f k (by omega)) fun G=>Rt 15 G<|re<|bn<|tn<|go<|Pl 1<|L0<|Oi (((k:Nat) : Int)+1)<|Pl 1<|nl<|gB ((k+1),(L++[(((xs.getD k 0)/256)%256),(((xs.getD k 0)%256)%256)]),C,D) ⟨n,E,(by(try dsimp only);omega),(by(try dsimp only);rw[show((xs.getD k 0)/256)%256=(xs.getD k 0)/256 from by omega,show((xs.getD k 0)%256)%256=(xs.getD k 0)%256 from by omega,mW xs k (by omega),← hL])⟩ (by omega)
 have s:=of_decide_eq_false c
 refine xt<|tx<|tx<|bx<|tn<|sg<|Pl 2<|nt<|rt<|rr (.slice B L.length cq)<|?_
 have hs:L=aJ xs:=vg hL (of_decide_eq_false c)
 exact⟨_,rfl,by rw[← hs];exact d,b⟩
theorem gK{m:Md}{v:Value}{xs:List Int}{w:World}(h:dU m w v xs)(hn:xs.length≤1048576) : Calls Tryz.prog 174 #[v] w (yu xs w):=by
  obtain⟨A,cp,rfl,_,_⟩:=h.shape
  exact Ac h hn
open Go.RowKit
def cT (dir:Int)(M:aP) : List Int :=
  if M.code==1 || M.code==2 then (if dir==1 then [(M.data.length:Int)%256]++M.data else aJ [M.addr,M.count])
  else if M.code==5 then aJ [M.addr,M.value]
  else if M.code==15 then (if dir==0 then (aJ [M.addr,M.count]++[((bL M.bits).length:Int)%256])++bL M.bits else aJ [M.addr,M.count])
  else aJ [M.addr,M.count]
def dM (dir:Int)(M:aP) : List Int :=
  if M.code==8 then aJ ([M.sub]++M.words)
  else if dir==0 then []
  else if M.code==7 then [M.value%256]
  else if M.code==11 then aJ [M.status,M.events]
  else if M.code==12 then (([((M.data.length:Int)+6)%256]++aJ [M.status,M.events,M.messages])++M.data)
  else [(M.data.length:Int)%256]++M.data
def dz (dir:Int)(M:aP) : List Int :=
  if dir==1&&((M.code==3 || M.code==4)||M.code==23) then (aJ []++[(2*(M.words.length:Int))%256])++aJ M.words
  else if (M.code==3 || M.code==4)||(M.code==16&&dir==1) then aJ [M.addr,M.count]
  else if M.code==6 then aJ [M.addr,M.value]
  else if M.code==16 then ((aJ [M.addr,M.count]++[(2*(M.words.length:Int))%256])++aJ M.words)
  else if M.code==22 then aJ [M.addr,M.and_,M.or_]
  else if M.code==23 then ((aJ [M.addr,M.count,M.addr2,(M.words.length:Int)%65536]++[(2*(M.words.length:Int))%256])++aJ M.words)
  else if M.code==24&&dir==0 then aJ [M.addr]
  else if M.code==24 then aJ [(2*(M.words.length:Int)+2)%65536,(M.words.length:Int)%65536]++aJ M.words
  else (aJ []++[(2*(M.words.length:Int))%256])++aJ M.words
theorem qB{m:Md}{cs:Array Value}{M:aP}{w:World}{dir:Int}(h:aH m w cs.toList M)(hf:bS M) : Calls Tryz.prog 166 #[.int .i64 dir,.agg cs] w (ik (cT dir M) w):=by
 obtain⟨vw,vb,vd,vr,vo,h0,hw,hbt,hd,hr,ho,hR⟩:=h
 obtain rfl:cs=(bu M vw vb vd vr vo).toArray:=by apply Array.toList_inj.1;simpa using h0
 clear h0
 obtain⟨Aw,kw,rfl,_,_⟩:=hw.shape
 obtain⟨Ab,kb,rfl,_,_⟩:=hbt.shape
 obtain⟨Ad,kd,rfl,_,_⟩:=hd.shape
 obtain⟨Ar,kr,rfl,_,_⟩:=hr.shape
 obtain⟨Ao,ko,rfl,_,_⟩:=ho.shape
 obtain⟨q0,q1,q2,q3,q4,q5,q6,q7,q8,q9,K,L,N,O,P,Q,R⟩:=hR
 simp only[B8,dp] at q0 q1 q2 q3 q4 q5 q6 q7 q8 q9 K L N O P Q R
 have hf1:=hf.words
 have hf2:=hf.bits
 have hf3:=hf.data
 have hf4:=hf.recs
 have hf5:=hf.objects
 refine en 52 Tryz.func166 rfl<|sg<|L0<|dv (mG M.code M.fail M.addr M.count M.value M.and_ M.or_ M.addr2 M.sub M.status M.events M.messages (.slice Aw M.words.length kw) (.slice Ab M.bits.length kb) (.slice Ad M.data.length kd) (.slice Ar M.recs.length kr) M.mei M.kind M.level M.more M.next (.slice Ao M.objects.length ko)) fun aE aF aG t c=>Pl 1<|ng<|Pl 1<|L0<|aO t 2<|Pl 1<|L0<|aO t 3<|L0<|cL (m:=2) (e:=24) #[.int .u16 M.addr,.int .u16 M.count] fun aI aL S T d=>?_
 have U:=dL S (xs:=[M.addr,M.count]) (by as_aux_lemma=>kernel_rfl) (au (by omega) (au (by omega) aK)) (by(try simp only[List.length_cons,List.length_nil]);omega) T
 refine L0<|Oc<|dG (gK (xs:=[M.addr,M.count]) (U).rd (by(try simp only[List.length_append,List.length_cons,List.length_nil]);omega)) fun i q aM j aQ aR r=>Pl 1<|nt<|sq<|sg<|Pl 1<|?_
 have A:=aD d r
 have g:=ub A t
 refine L0<|aO g 0<|nt<|bk<|sq<|sg<|Pl 2<|nt<|?_
 have a:=aD c A
 refine cb ((M.code==1)) (fun b=>?_) (fun b=>?_)
 have V:=ah b
 refine bf<|ct b<|sg<|Pl 2<|nt<|cb ((dir==1)) (fun n=>?_) (fun n=>?_)
 have W:=ah n
 refine sg<|Pl 1<|L0<|aO g 14<|Pl 2<|L0<|cL (m:=1) (e:=5) #[.int .u8 (((M.data.length:Nat) : Int)%256)] fun aT aU X Y u=>?_
 have B:=cC X (xs:=[(((M.data.length:Nat) : Int)%256)]) (by as_aux_lemma=>kernel_rfl) (au (by omega) aK) (by(try simp only[List.length_cons,List.length_nil]);omega) Y
 refine Pl 1<|?_
 refine L0<|aO (ub u g) 14<|?_
 have C:=aD a u
 refine L0<|bR aZ (xs:=([(((M.data.length:Nat) : Int)%256)])) (ys:=M.data) (.int .u8 0) 1 B (b9.old hd C) (by(try simp only[List.length_append,List.length_cons,List.length_nil,aA]);omega) u.size fun Z a0 aV a1 a2=>Pl 1<|nt<|rt<|br<|tr<|rr (.slice Z (([(((M.data.length:Nat) : Int)%256)]++M.data).length) a0)<|?_
 have hs:cT dir M=([(((M.data.length:Nat) : Int)%256)]++M.data):=by
   unfold cT
   (try simp only[b,n,bs,if_true,if_false,decide_true,decide_false,Bool.or_true,Bool.true_or,Bool.or_false,Bool.false_or,Bool.and_true,Bool.true_and,Bool.and_false,Bool.false_and,reduceIte])
   all_goals rfl
 rw[hs]
 exact⟨_,rfl,(aS.weaken a1 a.size),(ut C a2 (av (aN B a.size) ay))⟩
 have W:=aj n
 refine sk<|bn<|tn<|sg<|Pl 2<|nt<|rt<|rr (.slice i ((aJ ([M.addr,M.count])).length) q)<|?_
 have hs:cT dir M=(aJ ([M.addr,M.count])):=by
   unfold cT
   (try simp only[b,n,bs,if_true,if_false,decide_true,decide_false,Bool.or_true,Bool.true_or,Bool.or_false,Bool.false_or,Bool.and_true,Bool.true_and,Bool.and_false,Bool.false_and,reduceIte])
   all_goals rfl
 rw[hs]
 exact⟨_,rfl,(aS.weaken j (le c.size d.size)),a⟩
 have V:=aj b
 refine go<|Pl 2<|nt<|cb ((M.code==2)) (fun f=>?_) (fun f=>?_)
 have a3:=ah f
 refine sg<|Pl 2<|nt<|cb ((dir==1)) (fun o=>?_) (fun o=>?_)
 have a4:=ah o
 refine sg<|Pl 1<|L0<|aO g 14<|Pl 2<|L0<|cL (m:=1) (e:=5) #[.int .u8 (((M.data.length:Nat) : Int)%256)] fun aW aX a5 a6 v=>?_
 have D:=cC a5 (xs:=[(((M.data.length:Nat) : Int)%256)]) (by as_aux_lemma=>kernel_rfl) (au (by omega) aK) (by(try simp only[List.length_cons,List.length_nil]);omega) a6
 refine Pl 1<|?_
 refine L0<|aO (ub v g) 14<|?_
 have E:=aD a v
 refine L0<|bR aZ (xs:=([(((M.data.length:Nat) : Int)%256)])) (ys:=M.data) (.int .u8 0) 1 D (b9.old hd E) (by(try simp only[List.length_append,List.length_cons,List.length_nil,aA]);omega) v.size fun a7 a8 aY a9 aa=>Pl 1<|nt<|rt<|br<|tr<|rr (.slice a7 (([(((M.data.length:Nat) : Int)%256)]++M.data).length) a8)<|?_
 have hs:cT dir M=([(((M.data.length:Nat) : Int)%256)]++M.data):=by
   unfold cT
   (try simp only[b,f,o,bs,if_true,if_false,decide_true,decide_false,Bool.or_true,Bool.true_or,Bool.or_false,Bool.false_or,Bool.and_true,Bool.true_and,Bool.and_false,Bool.false_and,reduceIte])
   all_goals rfl
 rw[hs]
 exact⟨_,rfl,(aS.weaken a9 a.size),(ut E aa (av (aN D a.size) ay))⟩
 have a4:=aj o
 refine sk<|bn<|tn<|sg<|Pl 2<|nt<|rt<|rr (.slice i ((aJ ([M.addr,M.count])).length) q)<|?_
 have hs:cT dir M=(aJ ([M.addr,M.count])):=by
   unfold cT
   (try simp only[b,f,o,bs,if_true,if_false,decide_true,decide_false,Bool.or_true,Bool.true_or,Bool.or_false,Bool.false_or,Bool.and_true,Bool.true_and,Bool.and_false,Bool.false_and,reduceIte])
   all_goals rfl
 rw[hs]
 exact⟨_,rfl,(aS.weaken j (le c.size d.size)),a⟩
 have a3:=aj f
 refine sg<|Pl 2<|nt<|cb ((M.code==5)) (fun k=>?_) (fun k=>?_)
 have ab:=ah k
 refine sg<|Pl 1<|L0<|aO g 2<|Pl 1<|L0<|aO g 4<|L0<|cL (m:=2) (e:=24) #[.int .u16 M.addr,.int .u16 M.value] fun b0 b1 ac ad F=>?_
 have ae:=dL ac (xs:=[M.addr,M.value]) (by as_aux_lemma=>kernel_rfl) (au (by omega) (au (by omega) aK)) (by(try simp only[List.length_cons,List.length_nil]);omega) ad
 refine L0<|Oc<|dG (gK (xs:=[M.addr,M.value]) (ae).rd (by(try simp only[List.length_append,List.length_cons,List.length_nil]);omega)) fun af ag b2 ai b3 b4 ak=>Pl 1<|nt<|rt<|br<|tr<|rr (.slice af ((aJ ([M.addr,M.value])).length) ag)<|?_
 have hs:cT dir M=(aJ ([M.addr,M.value])):=by
   unfold cT
   (try simp only[b,f,k,bs,if_true,if_false,decide_true,decide_false,Bool.or_true,Bool.true_or,Bool.or_false,Bool.false_or,Bool.and_true,Bool.true_and,Bool.and_false,Bool.false_and,reduceIte])
   all_goals rfl
 rw[hs]
 exact⟨_,rfl,(aS.weaken ai (le (le (le c.size d.size) r.size) F.size)),(aD a (aD F ak))⟩
 have ab:=aj k
 refine sg<|Pl 2<|nt<|cb ((M.code==15)) (fun l=>?_) (fun l=>?_)
 have al:=ah l
 refine sg<|Pl 2<|nt<|cb ((dir==0)) (fun p=>?_) (fun p=>?_)
 have am:=ah p
 refine sg<|Pl 1<|L0<|aO g 13<|?_
 refine L0<|Oc<|dG (xW (ii.old hbt a) (by omega)) fun b5 b6 b7 G b8 ba y=>?_
 have bb:(bL M.bits).length≤1024:=by simp only[bL,List.length_map,List.length_range,dH];omega
 refine Pl 1<|ng<|Pl 4<|L0<|cL (m:=1) (e:=5) #[.int .u8 ((((bL M.bits).length:Nat) : Int)%256)] fun bc bd an ao s=>?_
 have aq:=cC an (xs:=[((((bL M.bits).length:Nat) : Int)%256)]) (by as_aux_lemma=>kernel_rfl) (au (by omega) aK) (by(try simp only[List.length_cons,List.length_nil]);omega) ao
 have H:=aD y s
 refine L0<|bR aZ (xs:=(aJ ([M.addr,M.count]))) (ys:=([((((bL M.bits).length:Nat) : Int)%256)])) (.int .u8 0) 1 (ap j H (fun x hx=>az) (fun _ _ h=>h)) (aq).rd (by(try simp only[List.length_append,List.length_cons,List.length_nil,aA]);omega) (le (le r.size y.size) s.size) fun I be bg J z=>Pl 1<|?_
 refine L0<|bR aZ (xs:=((aJ ([M.addr,M.count]))++[((((bL M.bits).length:Nat) : Int)%256)])) (ys:=(bL M.bits)) (.int .u8 0) 1 J ((ap G (ut (aC.mono (S':=(ob i++[])) s ay) z (av il ay)) (fun x hx=>(bj ((iW G j lr) x hx) az)) (fun _ _ h=>h))).rd (by(try simp only[List.length_append,List.length_cons,List.length_nil,aA]);omega) (le (le (le r.size y.size) s.size) z.size) fun ar aw bh ax aB=>Pl 1<|nt<|rt<|br<|tr<|rr (.slice ar ((((aJ ([M.addr,M.count]))++[((((bL M.bits).length:Nat) : Int)%256)])++(bL M.bits)).length) aw)<|?_
 have hs:cT dir M=(((aJ ([M.addr,M.count]))++[((((bL M.bits).length:Nat) : Int)%256)])++(bL M.bits)):=by
   unfold cT
   (try simp only[b,f,k,l,p,bs,if_true,if_false,decide_true,decide_false,Bool.or_true,Bool.true_or,Bool.or_false,Bool.false_or,Bool.and_true,Bool.true_and,Bool.and_false,Bool.false_and,reduceIte])
   all_goals rfl
 rw[hs]
 exact⟨_,rfl,(aS.weaken ax (le c.size d.size)),(ut a (ut (aC.mono (S':=(ob i++(ob I++[]))) H ay) (ut (aC.mono (S':=(ob i++(ob I++[]))) z (av il ay)) aB (av il ay)) (av il (av il ay))) (av (aN j (le c.size d.size)) (av (aN J (le c.size d.size)) ay)))⟩
 have am:=aj p
 refine sk<|bn<|tn<|sg<|Pl 2<|nt<|rt<|rr (.slice i ((aJ ([M.addr,M.count])).length) q)<|?_
 have hs:cT dir M=(aJ ([M.addr,M.count])):=by
   unfold cT
   (try simp only[b,f,k,l,p,bs,if_true,if_false,decide_true,decide_false,Bool.or_true,Bool.true_or,Bool.or_false,Bool.false_or,Bool.and_true,Bool.true_and,Bool.and_false,Bool.false_and,reduceIte])
   all_goals rfl
 rw[hs]
 exact⟨_,rfl,(aS.weaken j (le c.size d.size)),a⟩
 have al:=aj l
 refine sk<|bn<|tn<|sg<|Pl 2<|nt<|rt<|rr (.slice i ((aJ ([M.addr,M.count])).length) q)<|?_
 have hs:cT dir M=(aJ ([M.addr,M.count])):=by
   unfold cT
   (try simp only[b,f,k,l,bs,if_true,if_false,decide_true,decide_false,Bool.or_true,Bool.true_or,Bool.or_false,Bool.false_or,Bool.and_true,Bool.true_and,Bool.and_false,Bool.false_and,reduceIte])
   all_goals rfl
 rw[hs]
 exact⟨_,rfl,(aS.weaken j (le c.size d.size)),a⟩
theorem sW{m:Md}{cs:Array Value}{M:aP}{w:World}{dir:Int}(h:aH m w cs.toList M)(hf:bS M) : Calls Tryz.prog 168 #[.int .i64 dir,.agg cs] w (ik (dM dir M) w):=by
 obtain⟨vw,vb,vd,vr,vo,h0,hw,hbt,hd,hr,ho,hR⟩:=h
 obtain rfl:cs=(bu M vw vb vd vr vo).toArray:=by apply Array.toList_inj.1;simpa using h0
 clear h0
 obtain⟨Aw,kw,rfl,_,_⟩:=hw.shape
 obtain⟨Ab,kb,rfl,_,_⟩:=hbt.shape
 obtain⟨Ad,kd,rfl,_,_⟩:=hd.shape
 obtain⟨Ar,kr,rfl,_,_⟩:=hr.shape
 obtain⟨Ao,ko,rfl,_,_⟩:=ho.shape
 obtain⟨q0,q1,q2,q3,q4,q5,q6,q7,q8,q9,a9,aa,ab,ac,ad,af,ag⟩:=hR
 simp only[B8,dp] at q0 q1 q2 q3 q4 q5 q6 q7 q8 q9 a9 aa ab ac ad af ag
 have hf1:=hf.words
 have hf2:=hf.bits
 have hf3:=hf.data
 have hf4:=hf.recs
 have hf5:=hf.objects
 refine en 63 Tryz.func168 rfl<|sg<|L0<|dv (mG M.code M.fail M.addr M.count M.value M.and_ M.or_ M.addr2 M.sub M.status M.events M.messages (.slice Aw M.words.length kw) (.slice Ab M.bits.length kb) (.slice Ad M.data.length kd) (.slice Ar M.recs.length kr) M.mei M.kind M.level M.more M.next (.slice Ao M.objects.length ko)) fun C bM bN b a=>Pl 1<|nt<|sq<|sg<|Pl 1<|L0<|aO b 0<|Pl 1<|nl<|?_
 refine tn<|cb ((M.code==8)) (fun d=>?_) (fun d=>?_)
 have ai:=ah d
 refine sg<|Pl 1<|L0<|aO b 8<|L0<|cL (m:=1) (e:=24) #[.int .u16 M.sub] fun bO bP ak al D=>?_
 have P:=dL ak (xs:=[M.sub]) (by as_aux_lemma=>kernel_rfl) (au (by omega) aK) (by(try simp only[List.length_cons,List.length_nil]);omega) al
 refine Pl 1<|?_
 refine L0<|aO (ub D b) 12<|?_
 have Q:=aD a D
 refine L0<|bR og (xs:=([M.sub])) (ys:=M.words) (.int .u16 0) 2 P (dU.old hw Q) (by(try simp only[List.length_append,List.length_cons,List.length_nil,aA]);omega) D.size fun bQ bT bU an R=>L0<|Oc<|dG (gK (xs:=([M.sub]++M.words)) (an).rd (by(try simp only[List.length_append,List.length_cons,List.length_nil]);omega)) fun ao aq bV ar bW bX aw=>Pl 1<|nt<|rt<|tr<|rr (.slice ao ((aJ ([M.sub]++M.words)).length) aq)<|?_
 have hs:dM dir M=(aJ ([M.sub]++M.words)):=by
   unfold dM
   (try simp only[d,bs,if_true,if_false,decide_true,decide_false,Bool.or_true,Bool.true_or,Bool.or_false,Bool.false_or,Bool.and_true,Bool.true_and,Bool.and_false,Bool.false_and,reduceIte])
   all_goals rfl
 rw[hs]
 exact⟨_,rfl,(aS.weaken ar (le (le a.size D.size) R.size)),(ut Q (aD R aw) (av (aN P a.size) ay))⟩
 have ai:=aj d
 refine bf<|sq<|sg<|Pl 2<|nt<|cb ((dir==0)) (fun g=>?_) (fun g=>?_)
 have ax:=ah g
 refine sg<|Pl 1<|nt<|rt<|tr<|rr (.slice none 0 0)<|?_
 have hs:dM dir M=[]:=by
   unfold dM
   (try simp only[d,g,bs,if_true,if_false,decide_true,decide_false,Bool.or_true,Bool.true_or,Bool.or_false,Bool.false_or,Bool.and_true,Bool.true_and,Bool.and_false,Bool.false_and,reduceIte])
   all_goals rfl
 rw[hs]
 exact⟨_,rfl,(aS.nil ..),a⟩
 have ax:=aj g
 refine bf<|sq<|sg<|Pl 1<|L0<|aO b 0<|nt<|bk<|sg<|Pl 2<|nl<|?_
 refine tn<|cb ((M.code==7)) (fun i=>?_) (fun i=>?_)
 have aE:=ah i
 refine sg<|Pl 1<|L0<|aO b 4<|Pl 1<|L0<|cL (m:=1) (e:=5) #[.int .u8 (M.value%256)] fun aF bY aG aI aL=>?_
 have aM:=cC aG (xs:=[(M.value%256)]) (by as_aux_lemma=>kernel_rfl) (au (by omega) aK) (by(try simp only[List.length_cons,List.length_nil]);omega) aI
 refine Pl 1<|nt<|rt<|br<|tr<|rr (.slice (some ⟨aF,0,none⟩) 1 1)<|?_
 have hs:dM dir M=[(M.value%256)]:=by
   unfold dM
   (try simp only[d,g,i,bs,if_true,if_false,decide_true,decide_false,Bool.or_true,Bool.true_or,Bool.or_false,Bool.false_or,Bool.and_true,Bool.true_and,Bool.and_false,Bool.false_and,reduceIte])
   all_goals rfl
 rw[hs]
 exact⟨_,rfl,(aS.weaken aM a.size),(aD a aL)⟩
 have aE:=aj i
 refine sg<|Pl 2<|nt<|cb ((M.code==11)) (fun k=>?_) (fun k=>?_)
 have aQ:=ah k
 refine sg<|Pl 1<|L0<|aO b 9<|Pl 1<|L0<|aO b 10<|L0<|cL (m:=2) (e:=24) #[.int .u16 M.status,.int .u16 M.events] fun bZ c0 aR aT S=>?_
 have aU:=dL aR (xs:=[M.status,M.events]) (by as_aux_lemma=>kernel_rfl) (au (by omega) (au (by omega) aK)) (by(try simp only[List.length_cons,List.length_nil]);omega) aT
 refine L0<|Oc<|dG (gK (xs:=[M.status,M.events]) (aU).rd (by(try simp only[List.length_append,List.length_cons,List.length_nil]);omega)) fun aV aW c1 aX c2 c3 aY=>Pl 1<|nt<|rt<|br<|tr<|rr (.slice aV ((aJ ([M.status,M.events])).length) aW)<|?_
 have hs:dM dir M=(aJ ([M.status,M.events])):=by
   unfold dM
   (try simp only[d,g,i,k,bs,if_true,if_false,decide_true,decide_false,Bool.or_true,Bool.true_or,Bool.or_false,Bool.false_or,Bool.and_true,Bool.true_and,Bool.and_false,Bool.false_and,reduceIte])
   all_goals rfl
 rw[hs]
 exact⟨_,rfl,(aS.weaken aX (le a.size S.size)),(aD a (aD S aY))⟩
 have aQ:=aj k
 refine sg<|Pl 2<|nt<|cb ((M.code==12)) (fun l=>?_) (fun l=>?_)
 have b0:=ah l
 refine sq<|Rg 16 (fun w'=>w'.cell? ⟨C,14,none⟩=some (.slice Ad M.data.length kd)∧w'.cell? ⟨C,9,none⟩=some (.int .u16 M.status)∧w'.cell? ⟨C,10,none⟩=some (.int .u16 M.events)∧w'.cell? ⟨C,11,none⟩=some (.int .u16 M.messages)) fun c4 c=>?_
 have n:=ub c b
 refine bi ⟨(ae n rfl),(ae n rfl),(ae n rfl),(ae n rfl)⟩ fun f=>Rt 0 f<|Rl 1 f (fun _ hs=>hs.1)<|Rt 2 f<|Rr 3 f (.int .i64 (((M.data.length:Nat) : Int)+6)) (fun _ _=>ch (.int .i64 (IntKind.i64.wrap (((M.data.length:Nat) : Int)+6))) (by kernel_rfl) (congrArg (Value.int .i64) (IntWalk.i64_in _ (by omega))))<|Rt 4 f<|Rt 6 f<|Rl 7 f (fun _ hs=>hs.2.1)<|Rt 8 f<|Rl 9 f (fun _ hs=>hs.2.2.1)<|Rt 10 f<|Rl 11 f (fun _ hs=>hs.2.2.2)<|?_
 refine R2 5 12 rfl rfl ?_ ?_
 refine  cL (m:=1) (e:=5) #[.int .u8 ((((M.data.length:Nat) : Int)+6)%256)] fun b1 c5 b2 b3 H=>?_
 have I:=cC b2 (xs:=[((((M.data.length:Nat) : Int)+6)%256)]) (by as_aux_lemma=>kernel_rfl) (au (by omega) aK) (by(try simp only[List.length_cons,List.length_nil]);omega) b3
 have p:=ub H n
 refine bi ⟨(ae p rfl),(ae p rfl),(ae p rfl),(ae p rfl)⟩ fun c6=>R0 12 rfl<|cL (m:=3) (e:=24) #[.int .u16 M.status,.int .u16 M.events,.int .u16 M.messages] fun c7 c8 b4 b5 J=>?_
 have b6:=dL b4 (xs:=[M.status,M.events,M.messages]) (by as_aux_lemma=>kernel_rfl) (au (by omega) (au (by omega) (au (by omega) aK))) (by(try simp only[List.length_cons,List.length_nil]);omega) b5
 have q:=ub J p
 refine bi ⟨(ae q rfl),(ae q rfl),(ae q rfl),(ae q rfl)⟩ fun c9=>R0 13 rfl<|Oc<|dG (gK (xs:=[M.status,M.events,M.messages]) (b6).rd (by(try simp only[List.length_append,List.length_cons,List.length_nil]);omega)) fun ca cc cd b7 ce cf K=>?_
 have r:=ub K q
 refine bi ⟨(ae r rfl),(ae r rfl),(ae r rfl),(ae r rfl)⟩ fun cg=>?_
 have T:=aD J K
 refine R0 14 rfl<|bR aZ (xs:=([((((M.data.length:Nat) : Int)+6)%256)])) (ys:=(aJ ([M.status,M.events,M.messages]))) (.int .u8 0) 1 (ap I T (fun x hx=>az) (fun _ _ h=>h)) (b7).rd (by(try simp only[List.length_append,List.length_cons,List.length_nil,aA]);omega) (le (le H.size J.size) K.size) fun ci cj ck U V=>?_
 have s:=aC.blk V (bj (aB (am b) c.size I) az) r
 refine bi ⟨(ae s rfl),(ae s rfl),(ae s rfl),(ae s rfl)⟩ fun b8=>Rt 15 b8<|re<|tn<|sg<|Pl 2<|L0<|aO s 14<|?_
 have W:=ut H (ut (aC.mono (S':=(ob (some ⟨b1,0,none⟩)++[])) T ay) V (av il ay)) (av (aN I lr) ay)
 have X:=aD a (aD c W)
 refine L0<|bR aZ (xs:=([((((M.data.length:Nat) : Int)+6)%256)]++(aJ ([M.status,M.events,M.messages])))) (ys:=M.data) (.int .u8 0) 1 U (b9.old hd X) (by(try simp only[List.length_append,List.length_cons,List.length_nil,aA]);omega) W.size fun ba bb cl bc bd=>Pl 1<|nt<|rt<|br<|tr<|rr (.slice ba ((([((((M.data.length:Nat) : Int)+6)%256)]++(aJ ([M.status,M.events,M.messages])))++M.data).length) bb)<|?_
 have hs:dM dir M=(([((((M.data.length:Nat) : Int)+6)%256)]++(aJ ([M.status,M.events,M.messages])))++M.data):=by
   unfold dM
   (try simp only[d,g,i,k,l,bs,if_true,if_false,decide_true,decide_false,Bool.or_true,Bool.true_or,Bool.or_false,Bool.false_or,Bool.and_true,Bool.true_and,Bool.and_false,Bool.false_and,reduceIte])
   all_goals rfl
 rw[hs]
 exact⟨_,rfl,(aS.weaken bc (le a.size c.size)),(ut X bd (av (aN U (le a.size c.size)) ay))⟩
 refine  cL (m:=3) (e:=24) #[.int .u16 M.status,.int .u16 M.events,.int .u16 M.messages] fun cm cn be bg j=>?_
 have Y:=dL be (xs:=[M.status,M.events,M.messages]) (by as_aux_lemma=>kernel_rfl) (au (by omega) (au (by omega) (au (by omega) aK))) (by(try simp only[List.length_cons,List.length_nil]);omega) bg
 have o:=ub j n
 refine bi ⟨(ae o rfl),(ae o rfl),(ae o rfl),(ae o rfl)⟩ fun co=>?_
 refine R2 5 13 rfl rfl ?_ ?_
 refine  cL (m:=1) (e:=5) #[.int .u8 ((((M.data.length:Nat) : Int)+6)%256)] fun bh cp bl bm E=>?_
 have L:=cC bl (xs:=[((((M.data.length:Nat) : Int)+6)%256)]) (by as_aux_lemma=>kernel_rfl) (au (by omega) aK) (by(try simp only[List.length_cons,List.length_nil]);omega) bm
 have t:=ub E o
 refine bi ⟨(ae t rfl),(ae t rfl),(ae t rfl),(ae t rfl)⟩ fun cq=>?_
 refine R0 13 rfl<|Oc<|dG (gK (xs:=[M.status,M.events,M.messages]) ((ap Y E (fun x hx=>az) (fun _ _ h=>h))).rd (by(try simp only[List.length_append,List.length_cons,List.length_nil]);omega)) fun cr ct cu bo cv cw F=>?_
 have u:=ub F t
 refine bi ⟨(ae u rfl),(ae u rfl),(ae u rfl),(ae u rfl)⟩ fun cx=>?_
 refine R0 14 rfl<|bR aZ (xs:=([((((M.data.length:Nat) : Int)+6)%256)])) (ys:=(aJ ([M.status,M.events,M.messages]))) (.int .u8 0) 1 (ap L F (fun x hx=>az) (fun _ _ h=>h)) (bo).rd (by(try simp only[List.length_append,List.length_cons,List.length_nil,aA]);omega) (le E.size F.size) fun cy cz cA Z a0=>?_
 have v:=aC.blk a0 (bj (aB (am b) (le c.size j.size) L) az) u
 refine bi ⟨(ae v rfl),(ae v rfl),(ae v rfl),(ae v rfl)⟩ fun bp=>Rt 15 bp<|re<|tn<|sg<|Pl 2<|L0<|aO v 14<|?_
 have a1:=ut E (ut (aC.mono (S':=(ob (some ⟨bh,0,none⟩)++[])) F ay) a0 (av il ay)) (av (aN L lr) ay)
 have a2:=aD a (aD c (aD j a1))
 refine L0<|bR aZ (xs:=([((((M.data.length:Nat) : Int)+6)%256)]++(aJ ([M.status,M.events,M.messages])))) (ys:=M.data) (.int .u8 0) 1 Z (b9.old hd a2) (by(try simp only[List.length_append,List.length_cons,List.length_nil,aA]);omega) a1.size fun bq bt cB bv bw=>Pl 1<|nt<|rt<|br<|tr<|rr (.slice bq ((([((((M.data.length:Nat) : Int)+6)%256)]++(aJ ([M.status,M.events,M.messages])))++M.data).length) bt)<|?_
 have hs:dM dir M=(([((((M.data.length:Nat) : Int)+6)%256)]++(aJ ([M.status,M.events,M.messages])))++M.data):=by
   unfold dM
   (try simp only[d,g,i,k,l,bs,if_true,if_false,decide_true,decide_false,Bool.or_true,Bool.true_or,Bool.or_false,Bool.false_or,Bool.and_true,Bool.true_and,Bool.and_false,Bool.false_and,reduceIte])
   all_goals rfl
 rw[hs]
 exact⟨_,rfl,(aS.weaken bv (le (le a.size c.size) j.size)),(ut a2 bw (av (aN Z (le (le a.size c.size) j.size)) ay))⟩
 refine  Oc<|dG (gK (xs:=[M.status,M.events,M.messages]) (Y).rd (by(try simp only[List.length_append,List.length_cons,List.length_nil]);omega)) fun cD cE cF bx cG cH y=>?_
 have z:=ub y o
 refine bi ⟨(ae z rfl),(ae z rfl),(ae z rfl),(ae z rfl)⟩ fun cI=>R0 5 rfl<|cL (m:=1) (e:=5) #[.int .u8 ((((M.data.length:Nat) : Int)+6)%256)] fun cJ cK bz bA G=>?_
 have N:=cC bz (xs:=[((((M.data.length:Nat) : Int)+6)%256)]) (by as_aux_lemma=>kernel_rfl) (au (by omega) aK) (by(try simp only[List.length_cons,List.length_nil]);omega) bA
 have A:=ub G z
 refine bi ⟨(ae A rfl),(ae A rfl),(ae A rfl),(ae A rfl)⟩ fun cM=>?_
 refine R0 14 rfl<|bR aZ (xs:=([((((M.data.length:Nat) : Int)+6)%256)])) (ys:=(aJ ([M.status,M.events,M.messages]))) (.int .u8 0) 1 N ((ap bx G (fun x hx=>az) (fun _ _ h=>h))).rd (by(try simp only[List.length_append,List.length_cons,List.length_nil,aA]);omega) G.size fun cN cO cP a3 a4=>?_
 have B:=aC.blk a4 (bj (aB (am b) (le (le c.size j.size) y.size) N) az) A
 refine bi ⟨(ae B rfl),(ae B rfl),(ae B rfl),(ae B rfl)⟩ fun bB=>Rt 15 bB<|re<|tn<|sg<|Pl 2<|L0<|aO B 14<|?_
 have a5:=ut G a4 (av (aN N lr) ay)
 have a6:=aD a (aD c (aD j (aD y a5)))
 refine L0<|bR aZ (xs:=([((((M.data.length:Nat) : Int)+6)%256)]++(aJ ([M.status,M.events,M.messages])))) (ys:=M.data) (.int .u8 0) 1 a3 (b9.old hd a6) (by(try simp only[List.length_append,List.length_cons,List.length_nil,aA]);omega) a5.size fun bC bD cQ bE bF=>Pl 1<|nt<|rt<|br<|tr<|rr (.slice bC ((([((((M.data.length:Nat) : Int)+6)%256)]++(aJ ([M.status,M.events,M.messages])))++M.data).length) bD)<|?_
 have hs:dM dir M=(([((((M.data.length:Nat) : Int)+6)%256)]++(aJ ([M.status,M.events,M.messages])))++M.data):=by
   unfold dM
   (try simp only[d,g,i,k,l,bs,if_true,if_false,decide_true,decide_false,Bool.or_true,Bool.true_or,Bool.or_false,Bool.false_or,Bool.and_true,Bool.true_and,Bool.and_false,Bool.false_and,reduceIte])
   all_goals rfl
 rw[hs]
 exact⟨_,rfl,(aS.weaken bE (le (le (le a.size c.size) j.size) y.size)),(ut a6 bF (av (aN a3 (le (le (le a.size c.size) j.size) y.size)) ay))⟩
 have b0:=aj l
 refine sk<|bn<|tn<|sg<|Pl 1<|L0<|aO b 14<|Pl 2<|L0<|cL (m:=1) (e:=5) #[.int .u8 (((M.data.length:Nat) : Int)%256)] fun cR cS bG bH O=>?_
 have a7:=cC bG (xs:=[(((M.data.length:Nat) : Int)%256)]) (by as_aux_lemma=>kernel_rfl) (au (by omega) aK) (by(try simp only[List.length_cons,List.length_nil]);omega) bH
 refine Pl 1<|?_
 refine L0<|aO (ub O b) 14<|?_
 have a8:=aD a O
 refine L0<|bR aZ (xs:=([(((M.data.length:Nat) : Int)%256)])) (ys:=M.data) (.int .u8 0) 1 a7 (b9.old hd a8) (by(try simp only[List.length_append,List.length_cons,List.length_nil,aA]);omega) O.size fun bI bJ cT bK bL=>Pl 1<|nt<|rt<|rr (.slice bI (([(((M.data.length:Nat) : Int)%256)]++M.data).length) bJ)<|?_
 have hs:dM dir M=([(((M.data.length:Nat) : Int)%256)]++M.data):=by
   unfold dM
   (try simp only[d,g,i,k,l,bs,if_true,if_false,decide_true,decide_false,Bool.or_true,Bool.true_or,Bool.or_false,Bool.false_or,Bool.and_true,Bool.true_and,Bool.and_false,Bool.false_and,reduceIte])
   all_goals rfl
 rw[hs]
 exact⟨_,rfl,(aS.weaken bK a.size),(ut a8 bL (av (aN a7 a.size) ay))⟩
theorem td{m:Md}{cs:Array Value}{M:aP}{w:World}{dir:Int}(h:aH m w cs.toList M)(hf:bS M) : Calls Tryz.prog 167 #[.int .i64 dir,.agg cs] w (ik (dz dir M) w):=by
 obtain⟨vw,vb,vd,vr,vo,h0,hw,hbt,hd,hr,ho,hR⟩:=h
 obtain rfl:cs=(bu M vw vb vd vr vo).toArray:=by apply Array.toList_inj.1;simpa using h0
 clear h0
 obtain⟨Aw,kw,rfl,_,_⟩:=hw.shape
 obtain⟨Ab,kb,rfl,_,_⟩:=hbt.shape
 obtain⟨Ad,kd,rfl,_,_⟩:=hd.shape
 obtain⟨Ar,kr,rfl,_,_⟩:=hr.shape
 obtain⟨Ao,ko,rfl,_,_⟩:=ho.shape
 obtain⟨q0,q1,q2,q3,q4,q5,q6,q7,q8,q9,ao,aq,ar,aw,ax,aB,aF⟩:=hR
 simp only[B8,dp] at q0 q1 q2 q3 q4 q5 q6 q7 q8 q9 ao aq ar aw ax aB aF
 have hf1:=hf.words
 have hf2:=hf.bits
 have hf3:=hf.data
 have hf4:=hf.recs
 have hf5:=hf.objects
 refine en 137 Tryz.func167 rfl<|sg<|L0<|dv (mG M.code M.fail M.addr M.count M.value M.and_ M.or_ M.addr2 M.sub M.status M.events M.messages (.slice Aw M.words.length kw) (.slice Ab M.bits.length kb) (.slice Ad M.data.length kd) (.slice Ar M.recs.length kr) M.mei M.kind M.level M.more M.next (.slice Ao M.objects.length ko)) fun cA cB cD P l=>Pl 1<|ng<|Pl 1<|L0<|aO P 12<|?_
 refine L0<|Oc<|dG (gK (xs:=M.words) (dU.old hw l) (by(try simp only[List.length_append,List.length_cons,List.length_nil]);omega)) fun cE cF cG u cH cI n=>Pl 1<|ng<|Pl 1<|?_
 have a:=ub n P
 refine L0<|aO a 12<|Pl 2<|ng<|Pl 1<|ng<|Pl 1<|nt<|?_
 refine sq<|bk<|sg<|Pl 3<|cu 14 [19] 33 (((dir==1)&&(((M.code==3)||(M.code==4))||(M.code==23)))) (fun K Q=>?_) ?_
 refine bl 19 ((dir==1)) (fun v=>?_) (fun v=>?_)
 have aG:=ah v
 refine Pl 1<|L1<|aO a 0<|Pl 2<|cu 4 [23] 27 (((M.code==3)||(M.code==4))) (fun K R=>?_) ?_
 refine bl 23 ((M.code==3)) (fun y=>?_) (fun y=>?_)
 have aI:=ah y
 exact Pl 4<|ce R true (by rw[y];rfl)
 have aI:=aj y
 exact Pl 1<|L1<|aO a 0<|Pl 2<|ce R (M.code==4) (by rw[y];rfl)
 refine Pl 1<|cu 4 [28] 32 ((((M.code==3)||(M.code==4))||(M.code==23))) (fun K S=>?_) ?_
 refine bl 28 (((M.code==3)||(M.code==4))) (fun z=>?_) (fun z=>?_)
 exact Pl 4<|ce S true (by rw[z];rfl)
 have aM:=(aE z).1
 have aQ:=(aE z).2
 have cJ:=aj aM
 have cK:=aj aQ
 exact Pl 1<|L1<|aO a 0<|Pl 2<|ce S (M.code==23) (by rw[z];rfl)
 exact Pl 1<|ce Q (((M.code==3)||(M.code==4))||(M.code==23)) (by rw[v];rfl)
 have aG:=aj v
 exact Pl 14<|ce Q false (by rw[v];rfl)
 refine Pl 1<|nt<|?_
 have i:=aD l n
 refine cb (((dir==1)&&(((M.code==3)||(M.code==4))||(M.code==23)))) (fun g=>?_) (fun g=>?_)
 have T:=(aT g).1
 have aR:=(aT g).2
 have cM:=ah T
 refine sk<|bn<|tn<|sg<|Pl 1<|L0<|Oc<|dG (gK (xs:=[]) (aL.nil true _ _ _ _) (by(try simp only[List.length_append,List.length_cons,List.length_nil]);omega)) fun aU cN cO U cP cQ V=>Pl 1<|nt<|sq<|sg<|Pl 1<|nl<|?_
 refine tn<|c1<|go<|Pl 2<|L0<|Oi (2*((M.words.length:Nat) : Int))<|Pl 1<|L0<|cL (m:=1) (e:=5) #[.int .u8 ((2*((M.words.length:Nat) : Int))%256)] fun cR cS aV aW E=>?_
 have aX:=cC aV (xs:=[((2*((M.words.length:Nat) : Int))%256)]) (by as_aux_lemma=>kernel_rfl) (au (by omega) aK) (by(try simp only[List.length_cons,List.length_nil]);omega) aW
 refine L0<|bR aZ (xs:=(aJ ([]))) (ys:=([((2*((M.words.length:Nat) : Int))%256)])) (.int .u8 0) 1 (ap U E (fun x hx=>az) (fun _ _ h=>h)) (aX).rd (by(try simp only[List.length_append,List.length_cons,List.length_nil,aA]);omega) (le V.size E.size) fun cT cU cV W aY=>Pl 1<|ng<|Pl 2<|?_
 have F:=ut V (ut (aC.mono (S':=(ob aU++[])) E ay) aY (av il ay)) (av (aN U lr) ay)
 refine L0<|bR aZ (xs:=((aJ ([]))++[((2*((M.words.length:Nat) : Int))%256)])) (ys:=(aJ M.words)) (.int .u8 0) 1 W ((ap u F (fun x hx=>az) (fun _ _ h=>h))).rd (by(try simp only[List.length_append,List.length_cons,List.length_nil,aA]);omega) F.size fun b0 b1 cW b2 b3=>Pl 1<|nt<|rt<|rr (.slice b0 ((((aJ ([]))++[((2*((M.words.length:Nat) : Int))%256)])++(aJ M.words)).length) b1)<|?_
 have hs:dz dir M=(((aJ ([]))++[((2*((M.words.length:Nat) : Int))%256)])++(aJ M.words)):=by
   unfold dz
   (try simp only[g,T,aR,bs,if_true,if_false,decide_true,decide_false,Bool.or_true,Bool.true_or,Bool.or_false,Bool.false_or,Bool.and_true,Bool.true_and,Bool.and_false,Bool.false_and,reduceIte])
   all_goals first | rfl | (simp_all;done)
 rw[hs]
 exact⟨_,rfl,(aS.weaken b2 i.size),(aD i (ut F b3 (av (aN W lr) ay)))⟩
 refine sg<|Pl 1<|L0<|aO a 0<|Pl 2<|cu 4 [38] 42 (((M.code==3)||(M.code==4))) (fun K X=>?_) ?_
 refine bl 38 ((M.code==3)) (fun A=>?_) (fun A=>?_)
 have b4:=ah A
 exact Pl 4<|ce X true (by rw[A];rfl)
 have b4:=aj A
 exact Pl 1<|L1<|aO a 0<|Pl 2<|ce X (M.code==4) (by rw[A];rfl)
 refine Pl 1<|cu 8 [43] 51 ((((M.code==3)||(M.code==4))||((M.code==16)&&(dir==1)))) (fun K Y=>?_) ?_
 refine bl 43 (((M.code==3)||(M.code==4))) (fun B=>?_) (fun B=>?_)
 exact Pl 8<|ce Y true (by rw[B];rfl)
 have b5:=(aE B).1
 have b6:=(aE B).2
 have cX:=aj b5
 have cY:=aj b6
 refine Pl 1<|L1<|aO a 0<|Pl 2<|cu 3 [47] 50 (((M.code==16)&&(dir==1))) (fun K Z=>?_) ?_
 refine bl 47 ((M.code==16)) (fun C=>?_) (fun C=>?_)
 have b7:=ah C
 exact Pl 3<|ce Z (dir==1) (by rw[C];rfl)
 have b7:=aj C
 exact Pl 3<|ce Z false (by rw[C];rfl)
 exact Pl 1<|ce Y ((M.code==16)&&(dir==1)) (by rw[B];rfl)
 refine Pl 1<|nt<|cb ((((M.code==3)||(M.code==4))||((M.code==16)&&(dir==1)))) (fun j=>?_) (fun j=>?_)
 refine sg<|Pl 1<|L0<|aO a 2<|Pl 1<|L0<|aO a 3<|L0<|cL (m:=2) (e:=24) #[.int .u16 M.addr,.int .u16 M.count] fun cZ d0 b8 b9 a0=>?_
 have ba:=dL b8 (xs:=[M.addr,M.count]) (by as_aux_lemma=>kernel_rfl) (au (by omega) (au (by omega) aK)) (by(try simp only[List.length_cons,List.length_nil]);omega) b9
 refine L0<|Oc<|dG (gK (xs:=[M.addr,M.count]) (ba).rd (by(try simp only[List.length_append,List.length_cons,List.length_nil]);omega)) fun bb bc d1 bd d2 d3 be=>Pl 1<|nt<|rt<|br<|tr<|rr (.slice bb ((aJ ([M.addr,M.count])).length) bc)<|?_
 have hs:dz dir M=(aJ ([M.addr,M.count])):=by
   unfold dz
   (try simp only[g,j,bs,if_true,if_false,decide_true,decide_false,Bool.or_true,Bool.true_or,Bool.or_false,Bool.false_or,Bool.and_true,Bool.true_and,Bool.and_false,Bool.false_and,reduceIte])
   all_goals first | rfl | (simp_all;done)
 rw[hs]
 exact⟨_,rfl,(aS.weaken bd (le (le l.size n.size) a0.size)),(aD i (aD a0 be))⟩
 have o:=(aE j).1
 have s:=(aE j).2
 have p:=(aE o).1
 have q:=(aE o).2
 have q71aap:=aj p
 have q71abp:=aj q
 refine sg<|Pl 1<|L0<|aO a 0<|Pl 2<|nt<|cb ((M.code==6)) (fun b=>?_) (fun b=>?_)
 have bg:=ah b
 refine sg<|Pl 1<|L0<|aO a 2<|Pl 1<|L0<|aO a 4<|L0<|cL (m:=2) (e:=24) #[.int .u16 M.addr,.int .u16 M.value] fun d4 d5 bh bi a1=>?_
 have bj:=dL bh (xs:=[M.addr,M.value]) (by as_aux_lemma=>kernel_rfl) (au (by omega) (au (by omega) aK)) (by(try simp only[List.length_cons,List.length_nil]);omega) bi
 refine L0<|Oc<|dG (gK (xs:=[M.addr,M.value]) (bj).rd (by(try simp only[List.length_append,List.length_cons,List.length_nil]);omega)) fun bm bo d6 bp d7 d8 bq=>Pl 1<|nt<|rt<|br<|tr<|rr (.slice bm ((aJ ([M.addr,M.value])).length) bo)<|?_
 have hs:dz dir M=(aJ ([M.addr,M.value])):=by
   unfold dz
   (try simp only[show(M.code==3)=false from(by rw[ah b];rfl),show(M.code==4)=false from(by rw[ah b];rfl),show(M.code==16)=false from(by rw[ah b];rfl),show(M.code==22)=false from(by rw[ah b];rfl),show(M.code==23)=false from(by rw[ah b];rfl),show(M.code==24)=false from(by rw[ah b];rfl),g,j,o,p,q,s,b,bs,if_true,if_false,decide_true,decide_false,Bool.or_true,Bool.true_or,Bool.or_false,Bool.false_or,Bool.and_true,Bool.true_and,Bool.and_false,Bool.false_and,reduceIte])
   all_goals first | rfl | (simp_all;done)
 rw[hs]
 exact⟨_,rfl,(aS.weaken bp (le (le l.size n.size) a1.size)),(aD i (aD a1 bq))⟩
 have bg:=aj b
 refine sg<|Pl 1<|L0<|aO a 0<|Pl 2<|nt<|cb ((M.code==16)) (fun c=>?_) (fun c=>?_)
 have bt:=ah c
 refine go<|Pl 1<|L0<|aO a 2<|Pl 1<|L0<|aO a 3<|L0<|cL (m:=2) (e:=24) #[.int .u16 M.addr,.int .u16 M.count] fun d9 da bv bw G=>?_
 have bx:=dL bv (xs:=[M.addr,M.count]) (by as_aux_lemma=>kernel_rfl) (au (by omega) (au (by omega) aK)) (by(try simp only[List.length_cons,List.length_nil]);omega) bw
 refine Pl 1<|nl<|bn<|tn<|sg<|Pl 1<|L0<|Oc<|dG (gK (xs:=[M.addr,M.count]) (bx).rd (by(try simp only[List.length_append,List.length_cons,List.length_nil]);omega)) fun bz db dc a2 dd de a3=>Pl 1<|nt<|sq<|sg<|?_
 refine Pl 1<|nt<|c1<|go<|Pl 2<|L0<|Oi (2*((M.words.length:Nat) : Int))<|Pl 1<|L0<|cL (m:=1) (e:=5) #[.int .u8 ((2*((M.words.length:Nat) : Int))%256)] fun df dg bA bB H=>?_
 have bC:=cC bA (xs:=[((2*((M.words.length:Nat) : Int))%256)]) (by as_aux_lemma=>kernel_rfl) (au (by omega) aK) (by(try simp only[List.length_cons,List.length_nil]);omega) bB
 refine L0<|bR aZ (xs:=(aJ ([M.addr,M.count]))) (ys:=([((2*((M.words.length:Nat) : Int))%256)])) (.int .u8 0) 1 (ap a2 H (fun x hx=>az) (fun _ _ h=>h)) (bC).rd (by(try simp only[List.length_append,List.length_cons,List.length_nil,aA]);omega) (le a3.size H.size) fun dh di dj a4 bD=>Pl 1<|ng<|Pl 2<|?_
 have a5:=ut a3 (ut (aC.mono (S':=(ob bz++[])) H ay) bD (av il ay)) (av (aN a2 lr) ay)
 have a6:=aD G a5
 refine L0<|bR aZ (xs:=((aJ ([M.addr,M.count]))++[((2*((M.words.length:Nat) : Int))%256)])) (ys:=(aJ M.words)) (.int .u8 0) 1 a4 ((ap u a6 (fun x hx=>az) (fun _ _ h=>h))).rd (by(try simp only[List.length_append,List.length_cons,List.length_nil,aA]);omega) a5.size fun bE bF dk bG bH=>Pl 1<|nt<|rt<|rr (.slice bE ((((aJ ([M.addr,M.count]))++[((2*((M.words.length:Nat) : Int))%256)])++(aJ M.words)).length) bF)<|?_
 have hs:dz dir M=(((aJ ([M.addr,M.count]))++[((2*((M.words.length:Nat) : Int))%256)])++(aJ M.words)):=by
   unfold dz
   (try simp only[show(M.code==3)=false from(by rw[ah c];rfl),show(M.code==4)=false from(by rw[ah c];rfl),show(M.code==6)=false from(by rw[ah c];rfl),show(M.code==22)=false from(by rw[ah c];rfl),show(M.code==23)=false from(by rw[ah c];rfl),show(M.code==24)=false from(by rw[ah c];rfl),g,j,o,p,q,s,b,c,bs,if_true,if_false,decide_true,decide_false,Bool.or_true,Bool.true_or,Bool.or_false,Bool.false_or,Bool.and_true,Bool.true_and,Bool.and_false,Bool.false_and,reduceIte])
   all_goals first | rfl | (simp_all;done)
 rw[hs]
 exact⟨_,rfl,(aS.weaken bG (le (le l.size n.size) G.size)),(aD i (ut a6 bH (av (aN a4 G.size) ay)))⟩
 have bt:=aj c
 refine sg<|Pl 1<|L0<|aO a 0<|Pl 2<|nt<|cb ((M.code==22)) (fun d=>?_) (fun d=>?_)
 have bI:=ah d
 refine sg<|Pl 1<|L0<|aO a 2<|Pl 1<|L0<|aO a 5<|Pl 1<|L0<|aO a 6<|L0<|cL (m:=3) (e:=24) #[.int .u16 M.addr,.int .u16 M.and_,.int .u16 M.or_] fun dl dm bJ bK a7=>?_
 have bL:=dL bJ (xs:=[M.addr,M.and_,M.or_]) (by as_aux_lemma=>kernel_rfl) (au (by omega) (au (by omega) (au (by omega) aK))) (by(try simp only[List.length_cons,List.length_nil]);omega) bK
 refine L0<|Oc<|dG (gK (xs:=[M.addr,M.and_,M.or_]) (bL).rd (by(try simp only[List.length_append,List.length_cons,List.length_nil]);omega)) fun bM bN dn bO dq dr bP=>Pl 1<|nt<|rt<|br<|tr<|rr (.slice bM ((aJ ([M.addr,M.and_,M.or_])).length) bN)<|?_
 have hs:dz dir M=(aJ ([M.addr,M.and_,M.or_])):=by
   unfold dz
   (try simp only[show(M.code==3)=false from(by rw[ah d];rfl),show(M.code==4)=false from(by rw[ah d];rfl),show(M.code==6)=false from(by rw[ah d];rfl),show(M.code==16)=false from(by rw[ah d];rfl),show(M.code==23)=false from(by rw[ah d];rfl),show(M.code==24)=false from(by rw[ah d];rfl),g,j,o,p,q,s,b,c,d,bs,if_true,if_false,decide_true,decide_false,Bool.or_true,Bool.true_or,Bool.or_false,Bool.false_or,Bool.and_true,Bool.true_and,Bool.and_false,Bool.false_and,reduceIte])
   all_goals first | rfl | (simp_all;done)
 rw[hs]
 exact⟨_,rfl,(aS.weaken bO (le (le l.size n.size) a7.size)),(aD i (aD a7 bP))⟩
 have bI:=aj d
 refine sg<|Pl 1<|L0<|aO a 0<|Pl 2<|nt<|cb ((M.code==23)) (fun f=>?_) (fun f=>?_)
 have bQ:=ah f
 refine go<|Pl 1<|L0<|aO a 2<|Pl 1<|L0<|aO a 3<|Pl 1<|L0<|aO a 7<|Pl 2<|L0<|cL (m:=4) (e:=24) #[.int .u16 M.addr,.int .u16 M.count,.int .u16 M.addr2,.int .u16 (((M.words.length:Nat) : Int)%65536)] fun ds dt bT bU I=>?_
 have bV:=dL bT (xs:=[M.addr,M.count,M.addr2,(((M.words.length:Nat) : Int)%65536)]) (by as_aux_lemma=>kernel_rfl) (au (by omega) (au (by omega) (au (by omega) (au (by omega) aK)))) (by(try simp only[List.length_cons,List.length_nil]);omega) bU
 refine Pl 1<|nl<|bn<|tn<|sg<|Pl 1<|L0<|Oc<|dG (gK (xs:=[M.addr,M.count,M.addr2,(((M.words.length:Nat) : Int)%65536)]) (bV).rd (by(try simp only[List.length_append,List.length_cons,List.length_nil]);omega)) fun bW du dw a8 dx dy a9=>Pl 1<|nt<|sq<|sg<|?_
 refine Pl 1<|nt<|c1<|go<|Pl 2<|L0<|Oi (2*((M.words.length:Nat) : Int))<|Pl 1<|L0<|cL (m:=1) (e:=5) #[.int .u8 ((2*((M.words.length:Nat) : Int))%256)] fun dA dB bX bY J=>?_
 have bZ:=cC bX (xs:=[((2*((M.words.length:Nat) : Int))%256)]) (by as_aux_lemma=>kernel_rfl) (au (by omega) aK) (by(try simp only[List.length_cons,List.length_nil]);omega) bY
 refine L0<|bR aZ (xs:=(aJ ([M.addr,M.count,M.addr2,(((M.words.length:Nat) : Int)%65536)]))) (ys:=([((2*((M.words.length:Nat) : Int))%256)])) (.int .u8 0) 1 (ap a8 J (fun x hx=>az) (fun _ _ h=>h)) (bZ).rd (by(try simp only[List.length_append,List.length_cons,List.length_nil,aA]);omega) (le a9.size J.size) fun dC dD dE aa c2=>Pl 1<|ng<|Pl 2<|?_
 have ab:=ut a9 (ut (aC.mono (S':=(ob bW++[])) J ay) c2 (av il ay)) (av (aN a8 lr) ay)
 have ac:=aD I ab
 refine L0<|bR aZ (xs:=((aJ ([M.addr,M.count,M.addr2,(((M.words.length:Nat) : Int)%65536)]))++[((2*((M.words.length:Nat) : Int))%256)])) (ys:=(aJ M.words)) (.int .u8 0) 1 aa ((ap u ac (fun x hx=>az) (fun _ _ h=>h))).rd (by(try simp only[List.length_append,List.length_cons,List.length_nil,aA]);omega) ab.size fun c3 c4 dF c5 c6=>Pl 1<|nt<|rt<|rr (.slice c3 ((((aJ ([M.addr,M.count,M.addr2,(((M.words.length:Nat) : Int)%65536)]))++[((2*((M.words.length:Nat) : Int))%256)])++(aJ M.words)).length) c4)<|?_
 have hs:dz dir M=(((aJ ([M.addr,M.count,M.addr2,(((M.words.length:Nat) : Int)%65536)]))++[((2*((M.words.length:Nat) : Int))%256)])++(aJ M.words)):=by
   unfold dz
   (try simp only[show(M.code==3)=false from(by rw[ah f];rfl),show(M.code==4)=false from(by rw[ah f];rfl),show(M.code==6)=false from(by rw[ah f];rfl),show(M.code==16)=false from(by rw[ah f];rfl),show(M.code==22)=false from(by rw[ah f];rfl),show(M.code==24)=false from(by rw[ah f];rfl),g,j,o,p,q,s,b,c,d,f,bs,if_true,if_false,decide_true,decide_false,Bool.or_true,Bool.true_or,Bool.or_false,Bool.false_or,Bool.and_true,Bool.true_and,Bool.and_false,Bool.false_and,reduceIte])
   all_goals first | rfl | (simp_all;done)
 rw[hs]
 exact⟨_,rfl,(aS.weaken c5 (le (le l.size n.size) I.size)),(aD i (ut ac c6 (av (aN aa I.size) ay)))⟩
 have bQ:=aj f
 refine sg<|Pl 1<|L0<|aO a 0<|Pl 2<|cu 3 [106] 109 (((M.code==24)&&(dir==0))) (fun K ad=>?_) ?_
 refine bl 106 ((M.code==24)) (fun D=>?_) (fun D=>?_)
 have c7:=ah D
 exact Pl 3<|ce ad (dir==0) (by rw[D];rfl)
 have c7:=aj D
 exact Pl 3<|ce ad false (by rw[D];rfl)
 refine Pl 1<|nt<|cb (((M.code==24)&&(dir==0))) (fun t=>?_) (fun t=>?_)
 have r:=(aT t).1
 have ae:=(aT t).2
 have dH:=ah r
 have dI:=ah ae
 refine sg<|Pl 1<|L0<|aO a 2<|L0<|cL (m:=1) (e:=24) #[.int .u16 M.addr] fun dJ dK c8 c9 af=>?_
 have ca:=dL c8 (xs:=[M.addr]) (by as_aux_lemma=>kernel_rfl) (au (by omega) aK) (by(try simp only[List.length_cons,List.length_nil]);omega) c9
 refine L0<|Oc<|dG (gK (xs:=[M.addr]) (ca).rd (by(try simp only[List.length_append,List.length_cons,List.length_nil]);omega)) fun cc cd dM cf dN dO cg=>Pl 1<|nt<|rt<|br<|tr<|rr (.slice cc ((aJ ([M.addr])).length) cd)<|?_
 have hs:dz dir M=(aJ ([M.addr])):=by
   unfold dz
   (try simp only[show(M.code==3)=false from(by rw[ah r];rfl),show(M.code==4)=false from(by rw[ah r];rfl),show(M.code==6)=false from(by rw[ah r];rfl),show(M.code==16)=false from(by rw[ah r];rfl),show(M.code==22)=false from(by rw[ah r];rfl),show(M.code==23)=false from(by rw[ah r];rfl),g,j,o,p,q,s,b,c,d,f,t,r,ae,bs,if_true,if_false,decide_true,decide_false,Bool.or_true,Bool.true_or,Bool.or_false,Bool.false_or,Bool.and_true,Bool.true_and,Bool.and_false,Bool.false_and,reduceIte])
   all_goals first | rfl | (simp_all;done)
 rw[hs]
 exact⟨_,rfl,(aS.weaken cf (le (le l.size n.size) af.size)),(aD i (aD af cg))⟩
 refine sg<|Pl 1<|L0<|aO a 0<|Pl 2<|nt<|cb ((M.code==24)) (fun k=>?_) (fun k=>?_)
 have ch:=ah k
 refine sg<|Pl 1<|L0<|Oi (2*((M.words.length:Nat) : Int))<|L0<|Oi ((2*((M.words.length:Nat) : Int))+2)<|Pl 3<|L0<|cL (m:=2) (e:=24) #[.int .u16 (((2*((M.words.length:Nat) : Int))+2)%65536),.int .u16 (((M.words.length:Nat) : Int)%65536)] fun dP dQ ci cj L=>?_
 have ck:=dL ci (xs:=[(((2*((M.words.length:Nat) : Int))+2)%65536),(((M.words.length:Nat) : Int)%65536)]) (by as_aux_lemma=>kernel_rfl) (au (by omega) (au (by omega) aK)) (by(try simp only[List.length_cons,List.length_nil]);omega) cj
 refine Pl 1<|nt<|go<|Pl 1<|nl<|bn<|tn<|sg<|Pl 1<|L0<|Oc<|dG (gK (xs:=[(((2*((M.words.length:Nat) : Int))+2)%65536),(((M.words.length:Nat) : Int)%65536)]) (ck).rd (by(try simp only[List.length_append,List.length_cons,List.length_nil]);omega)) fun dR dS dT ag dV dW ai=>Pl 1<|nl<|?_
 refine tn<|sq<|sg<|Pl 1<|nt<|c0<|bf<|sg<|Pl 2<|?_
 have ak:=aD L ai
 refine L0<|bR aZ (xs:=(aJ ([(((2*((M.words.length:Nat) : Int))+2)%65536),(((M.words.length:Nat) : Int)%65536)]))) (ys:=(aJ M.words)) (.int .u8 0) 1 ag ((ap u ak (fun x hx=>az) (fun _ _ h=>h))).rd (by(try simp only[List.length_append,List.length_cons,List.length_nil,aA]);omega) ai.size fun cl cm dX cn co=>Pl 1<|nt<|rt<|rr (.slice cl (((aJ ([(((2*((M.words.length:Nat) : Int))+2)%65536),(((M.words.length:Nat) : Int)%65536)]))++(aJ M.words)).length) cm)<|?_
 have hs:dz dir M=((aJ ([(((2*((M.words.length:Nat) : Int))+2)%65536),(((M.words.length:Nat) : Int)%65536)]))++(aJ M.words)):=by
   unfold dz
   (try simp only[show(M.code==3)=false from(by rw[ah k];rfl),show(M.code==4)=false from(by rw[ah k];rfl),show(M.code==6)=false from(by rw[ah k];rfl),show(M.code==16)=false from(by rw[ah k];rfl),show(M.code==22)=false from(by rw[ah k];rfl),show(M.code==23)=false from(by rw[ah k];rfl),g,j,o,p,q,s,b,c,d,f,t,k,bs,if_true,if_false,decide_true,decide_false,Bool.or_true,Bool.true_or,Bool.or_false,Bool.false_or,Bool.and_true,Bool.true_and,Bool.and_false,Bool.false_and,reduceIte])
   all_goals first | rfl | (simp_all;done)
 rw[hs]
 exact⟨_,rfl,(aS.weaken cn (le (le l.size n.size) L.size)),(aD i (ut ak co (av (aN ag L.size) ay)))⟩
 have ch:=aj k
 refine sk<|bn<|tn<|sg<|Pl 1<|L0<|Oc<|dG (gK (xs:=[]) (aL.nil true _ _ _ _) (by(try simp only[List.length_append,List.length_cons,List.length_nil]);omega)) fun cp dY dZ al e0 e1 am=>Pl 1<|nt<|sq<|sg<|Pl 1<|nl<|?_
 refine tn<|c1<|go<|Pl 2<|L0<|Oi (2*((M.words.length:Nat) : Int))<|Pl 1<|L0<|cL (m:=1) (e:=5) #[.int .u8 ((2*((M.words.length:Nat) : Int))%256)] fun e2 e3 cq cr N=>?_
 have ct:=cC cq (xs:=[((2*((M.words.length:Nat) : Int))%256)]) (by as_aux_lemma=>kernel_rfl) (au (by omega) aK) (by(try simp only[List.length_cons,List.length_nil]);omega) cr
 refine L0<|bR aZ (xs:=(aJ ([]))) (ys:=([((2*((M.words.length:Nat) : Int))%256)])) (.int .u8 0) 1 (ap al N (fun x hx=>az) (fun _ _ h=>h)) (ct).rd (by(try simp only[List.length_append,List.length_cons,List.length_nil,aA]);omega) (le am.size N.size) fun e4 e5 e6 an cv=>Pl 1<|ng<|Pl 2<|?_
 have O:=ut am (ut (aC.mono (S':=(ob cp++[])) N ay) cv (av il ay)) (av (aN al lr) ay)
 refine L0<|bR aZ (xs:=((aJ ([]))++[((2*((M.words.length:Nat) : Int))%256)])) (ys:=(aJ M.words)) (.int .u8 0) 1 an ((ap u O (fun x hx=>az) (fun _ _ h=>h))).rd (by(try simp only[List.length_append,List.length_cons,List.length_nil,aA]);omega) O.size fun cw cx e7 cy cz=>Pl 1<|nt<|rt<|rr (.slice cw ((((aJ ([]))++[((2*((M.words.length:Nat) : Int))%256)])++(aJ M.words)).length) cx)<|?_
 have hs:dz dir M=(((aJ ([]))++[((2*((M.words.length:Nat) : Int))%256)])++(aJ M.words)):=by
   unfold dz
   (try simp only[g,j,o,p,q,s,b,c,d,f,t,k,bs,if_true,if_false,decide_true,decide_false,Bool.or_true,Bool.true_or,Bool.or_false,Bool.false_or,Bool.and_true,Bool.true_and,Bool.and_false,Bool.false_and,reduceIte])
   all_goals first | rfl | (simp_all;done)
 rw[hs]
 exact⟨_,rfl,(aS.weaken cy i.size),(aD i (ut O cz (av (aN an lr) ay)))⟩
open Go.RowKit
def lI (dir code:Int)(r:dj) : List Int:=(if code==20&&dir==1 then [(2*(r.words.length:Int)+1)%256,6] else [6]++aJ [r.file,r.record,r.count])++aJ r.words
def di (dir code:Int) : List dj→List Int
  | []=>[]
  | r :: rs=>lI dir code r++di dir code rs
theorem jo(dir code:Int)(xs:List dj)(k:Nat)(h:k<xs.length) : di dir code (xs.drop k)=lI dir code (xs.getD k ⟨0,0,0,[]⟩)++di dir code (xs.drop (k+1)):=by
  rw[List.drop_eq_getElem_cons h]
  simp[di,List.getD_eq_getElem?_getD,List.getElem?_eq_getElem h]
def er (dir:Int)(M:aP) : List Int:=[((di dir M.code M.recs).length:Int)%256]++di dir M.code M.recs
theorem oS{m:Md}{cs:Array Value}{M:aP}{w:World}{dir:Int}(h:aH m w cs.toList M)(hf:bS M) : Calls Tryz.prog 169 #[.int .i64 dir,.agg cs] w (ik (er dir M) w):=by
 obtain⟨vw,vb,vd,vr,vo,h0,hw,hbt,hd,hr,ho,hR⟩:=h
 obtain rfl:cs=(bu M vw vb vd vr vo).toArray:=by apply Array.toList_inj.1;simpa using h0
 clear h0
 obtain⟨Aw,kw,rfl,_,_⟩:=hw.shape
 obtain⟨Ab,kb,rfl,_,_⟩:=hbt.shape
 obtain⟨Ad,kd,rfl,_,_⟩:=hd.shape
 obtain⟨Ar,kr,rfl,_,_⟩:=hr.shape
 obtain⟨Ao,ko,rfl,_,_⟩:=ho.shape
 obtain⟨q0,q1,q2,q3,q4,q5,q6,q7,q8,q9,a4,a5,a6,a7,a8,a9,aa⟩:=hR
 simp only[B8,dp] at q0 q1 q2 q3 q4 q5 q6 q7 q8 q9 a4 a5 a6 a7 a8 a9 aa
 have hf1:=hf.words
 have hf2:=hf.bits
 have hf3:=hf.data
 have hf4:=hf.recs
 have hf5:=hf.objects
 refine en 60 Tryz.func169 rfl<|sg<|L0<|dv (mG M.code M.fail M.addr M.count M.value M.and_ M.or_ M.addr2 M.sub M.status M.events M.messages (.slice Aw M.words.length kw) (.slice Ab M.bits.length kb) (.slice Ad M.data.length kd) (.slice Ar M.recs.length kr) M.mei M.kind M.level M.more M.next (.slice Ao M.objects.length ko)) fun N o ba ab p=>Pl 1<|ng<|Pl 1<|nt<|sq<|sq<|?_
 refine go<|Pl 1<|nt<|bk<|?_
 refine iN (fun x=>[(0,.int .i64 dir),(3,.pointer (some ⟨N,0,none⟩)),(4,.slice none 0 0),(5,.slice x.2.2.1 x.2.1.length x.2.2.2),(6,.int .i64 ((x.1:Nat) : Int))]) (fun(x:Nat × List Int × Option Addr × Nat) w'=>aC [] o w'∧eB o.heap.size w' (.slice x.2.2.1 x.2.1.length x.2.2.2) x.2.1∧(x.1≤M.recs.length)∧(x.2.1++di dir M.code (M.recs.drop x.1)=([])++di dir M.code M.recs)∧(x.2.1.length≤16+x.1*2060)∧(0≤x.2.1.length)) (fun x=>M.recs.length-x.1) (0,[],none,0) ⟨aC.refl _ _,(aS.nil o.heap.size _ _ s9 _),(by(try dsimp only);omega),rfl,(by(try dsimp only);(try simp only[List.length_cons,List.length_nil]);omega),(by(try dsimp only);(try simp only[List.length_cons,List.length_nil]);omega)⟩ ?_
 rintro⟨k,L,A,cp⟩ ac ⟨a,ad,ae,af,ag,ai⟩
 refine iy [(0,.int .i64 dir),(3,.pointer (some ⟨N,0,none⟩)),(4,.slice none 0 0),(5,.slice A L.length cp),(6,.int .i64 ((k:Nat) : Int))] ?_
 have b:eB o.heap.size ac (.slice A L.length cp) L:=ad
 have bb:k≤M.recs.length:=ae
 have bc:L++di dir M.code (M.recs.drop k)=([])++di dir M.code M.recs:=af
 have bd:L.length≤16+k*2060:=ag
 have be:0≤L.length:=ai
 have hL:L++di dir M.code (M.recs.drop k)=([])++di dir M.code M.recs:=by assumption
 have hv0:=fun(h:k<M.recs.length)=>hf.recw _ (dV ⟨0,0,0,[]⟩ M.recs k h)
 refine sq<|sg<|Pl 2<|?_
 have y:=ub a ab
 refine L0<|aO y 15<|Pl 2<|nt<|?_
 have q:=aD p a
 refine cb ((decide (((k:Nat) : Int)<((M.recs.length:Nat) : Int)))) (fun f=>?_) (fun f=>?_)
 have ak:=of_decide_eq_true f
 refine bf<|sq<|bk<|sg<|Pl 1<|L0<|aO y 15<|Pl 1<|kR (ma.elt hr k (by omega)) fun bg bh bi bm bo O P al am Q bp an=>L0<|pm 4 M.recs.length k al (by omega)<|?_
 refine L0<|zG [.int .u16 ((M.recs.getD k ⟨0,0,0,[]⟩).file),.int .u16 ((M.recs.getD k ⟨0,0,0,[]⟩).record),.int .u16 ((M.recs.getD k ⟨0,0,0,[]⟩).count),.slice O ((M.recs.getD k ⟨0,0,0,[]⟩).words.length) P] (ub q am) an<|L0<|bH #[.int .u16 0,.int .u16 0,.int .u16 0,.slice none 0 0] fun bq br z ao c=>L0<|b7 ao #[.int .u16 ((M.recs.getD k ⟨0,0,0,[]⟩).file),.int .u16 ((M.recs.getD k ⟨0,0,0,[]⟩).record),.int .u16 ((M.recs.getD k ⟨0,0,0,[]⟩).count),.slice O ((M.recs.getD k ⟨0,0,0,[]⟩).words.length) P] fun bt B d=>nt<|sq<|sg<|Pl 1<|?_
 have r:=ud c d z
 refine L0<|aO (ub r y) 0<|Pl 2<|cu 3 [23] 26 (((M.code==20)&&(dir==1))) (fun K R=>?_) ?_
 refine bl 23 ((M.code==20)) (fun g=>?_) (fun g=>?_)
 have aq:=ah g
 exact Pl 3<|ce R (dir==1) (by rw[g];rfl)
 have aq:=aj g
 exact Pl 3<|ce R false (by rw[g];rfl)
 refine nt<|?_
 have S:=aD q r
 refine cb (((M.code==20)&&(dir==1))) (fun i=>?_) (fun i=>?_)
 have T:=(aT i).1
 have U:=(aT i).2
 have bv:=ah T
 have bw:=ah U
 refine go<|Pl 2<|L0<|aO B 3<|Pl 1<|L0<|Oi (2*(((M.recs.getD k ⟨0,0,0,[]⟩).words.length:Nat) : Int))<|L0<|Oi ((2*(((M.recs.getD k ⟨0,0,0,[]⟩).words.length:Nat) : Int))+1)<|Pl 1<|L0<|cL (m:=2) (e:=5) #[.int .u8 (((2*(((M.recs.getD k ⟨0,0,0,[]⟩).words.length:Nat) : Int))+1)%256),.int .u8 6] fun bz bA ar aw s=>?_
 have ax:=cC ar (xs:=[(((2*(((M.recs.getD k ⟨0,0,0,[]⟩).words.length:Nat) : Int))+1)%256),6]) (by as_aux_lemma=>kernel_rfl) (au (by omega) (au (by omega) aK)) (by(try simp only[List.length_cons,List.length_nil]);omega) aw
 have V:=aD r s
 refine L0<|bR aZ (xs:=L) (ys:=([(((2*(((M.recs.getD k ⟨0,0,0,[]⟩).words.length:Nat) : Int))+1)%256),6])) (.int .u8 0) 1 (ap b V (fun x hx=>az) (fun _ _ h=>h)) (ax).rd (by(try simp only[List.length_append,List.length_cons,List.length_nil,aA]);omega) (le (le (le a.size c.size) d.size) s.size) fun C bB bC W D=>Pl 1<|nt<|go<|Pl 2<|?_
 have X:=ut (aC.mono (S':=(ob A++[])) s ay) D (av il ay)
 refine L0<|aO (aC.blk X (bj (eS b lr z) az) B) 3<|?_
 refine L0<|Oc<|dG (gK (xs:=(M.recs.getD k ⟨0,0,0,[]⟩).words) (dU.old Q (ut S X (av (aN b p.size) ay))) (by(try simp only[List.length_append,List.length_cons,List.length_nil]);omega)) fun bD bE bF aB bG bI E=>?_
 refine L0<|bR aZ (xs:=(L++[(((2*(((M.recs.getD k ⟨0,0,0,[]⟩).words.length:Nat) : Int))+1)%256),6])) (ys:=(aJ ((M.recs.getD k ⟨0,0,0,[]⟩).words))) (.int .u8 0) 1 (ap W E (fun x hx=>az) (fun _ _ h=>h)) (aB).rd (by(try simp only[List.length_append,List.length_cons,List.length_nil,aA]);omega) (le (le (le (le (le a.size c.size) d.size) s.size) D.size) E.size) fun aE aF bJ aG aI=>Pl 1<|nl<|bn<|tn<|go<|Pl 1<|L0<|Oi (((k:Nat) : Int)+1)<|Pl 1<|nl<|?_
 exact gB ((k+1),((L++[(((2*(((M.recs.getD k ⟨0,0,0,[]⟩).words.length:Nat) : Int))+1)%256),6])++(aJ ((M.recs.getD k ⟨0,0,0,[]⟩).words))),aE,aF) ⟨(ut a (ut (aC.mono (S':=(ob A++(ob C++[]))) V ay) (ut (aC.mono (S':=(ob A++(ob C++[]))) D (av il ay)) (ut (aC.mono (S':=(ob C++[])) E ay) aI (av il ay)) (av il ay)) (av il (av il ay))) (av (aN b lr) (av (aN W lr) ay))),aG,(by(try dsimp only);omega),(by(try dsimp only);rw[← hL,jo dir M.code M.recs k (by omega)];simp only[lI,f,i,T,U,bs,if_true,if_false,decide_true,decide_false,List.append_assoc]),(by(try dsimp only);have hv:=hf.recw _ (dV ⟨0,0,0,[]⟩ M.recs k (by omega));(try simp only[List.length_append,List.length_cons,List.length_nil,aA]);omega),(by(try dsimp only);(try simp only[List.length_append,List.length_cons,List.length_nil]);omega)⟩ (by omega)
 refine sg<|Pl 1<|L0<|cL (m:=1) (e:=5) #[.int .u8 6] fun bK bL aL aM j=>?_
 have aQ:=cC aL (xs:=[6]) (by as_aux_lemma=>kernel_rfl) (au (by omega) aK) (by(try simp only[List.length_cons,List.length_nil]);omega) aM
 have Y:=aD r j
 refine L0<|bR aZ (xs:=L) (ys:=([6])) (.int .u8 0) 1 (ap b Y (fun x hx=>az) (fun _ _ h=>h)) (aQ).rd (by(try simp only[List.length_append,List.length_cons,List.length_nil,aA]);omega) (le (le (le a.size c.size) d.size) j.size) fun l bM bN t u=>Pl 1<|nt<|go<|Pl 2<|?_
 have Z:=ut (aC.mono (S':=(ob A++[])) j ay) u (av il ay)
 have n:=aC.blk Z (bj (eS b lr z) az) B
 refine L0<|aO n 0<|Pl 1<|L0<|aO n 1<|Pl 1<|L0<|aO n 2<|L0<|cL (m:=3) (e:=24) #[.int .u16 ((M.recs.getD k ⟨0,0,0,[]⟩).file),.int .u16 ((M.recs.getD k ⟨0,0,0,[]⟩).record),.int .u16 ((M.recs.getD k ⟨0,0,0,[]⟩).count)] fun bO bP aR aU F=>?_
 have aV:=dL aR (xs:=[(M.recs.getD k ⟨0,0,0,[]⟩).file,(M.recs.getD k ⟨0,0,0,[]⟩).record,(M.recs.getD k ⟨0,0,0,[]⟩).count]) (by as_aux_lemma=>kernel_rfl) (au (by omega) (au (by omega) (au (by omega) aK))) (by(try simp only[List.length_cons,List.length_nil]);omega) aU
 refine L0<|Oc<|dG (gK (xs:=[(M.recs.getD k ⟨0,0,0,[]⟩).file,(M.recs.getD k ⟨0,0,0,[]⟩).record,(M.recs.getD k ⟨0,0,0,[]⟩).count]) (aV).rd (by(try simp only[List.length_append,List.length_cons,List.length_nil]);omega)) fun bQ bT bU aW bV bW G=>?_
 have a0:=aD F G
 refine L0<|bR aZ (xs:=(L++[6])) (ys:=(aJ ([(M.recs.getD k ⟨0,0,0,[]⟩).file,(M.recs.getD k ⟨0,0,0,[]⟩).record,(M.recs.getD k ⟨0,0,0,[]⟩).count]))) (.int .u8 0) 1 (ap t a0 (fun x hx=>az) (fun _ _ h=>h)) (aW).rd (by(try simp only[List.length_append,List.length_cons,List.length_nil,aA]);omega) (le (le (le (le (le (le a.size c.size) d.size) j.size) u.size) F.size) G.size) fun v bX bY a1 a2=>Pl 1<|nt<|go<|Pl 2<|?_
 have H:=ut (aC.mono (S':=(ob l++[])) a0 ay) a2 (av il ay)
 refine L0<|aO (aC.blk H (bj (db n t (by decide)) az) n) 3<|?_
 refine L0<|Oc<|dG (gK (xs:=(M.recs.getD k ⟨0,0,0,[]⟩).words) (dU.old Q (ut S (ut (aC.mono (S':=(ob A++(ob l++[]))) Z (av il ay)) H (av il ay)) (av (aN b p.size) (av (aN t p.size) ay)))) (by(try simp only[List.length_append,List.length_cons,List.length_nil]);omega)) fun bZ c0 c1 aX c2 c3 I=>?_
 refine L0<|bR aZ (xs:=((L++[6])++(aJ ([(M.recs.getD k ⟨0,0,0,[]⟩).file,(M.recs.getD k ⟨0,0,0,[]⟩).record,(M.recs.getD k ⟨0,0,0,[]⟩).count])))) (ys:=(aJ ((M.recs.getD k ⟨0,0,0,[]⟩).words))) (.int .u8 0) 1 (ap a1 I (fun x hx=>az) (fun _ _ h=>h)) (aX).rd (by(try simp only[List.length_append,List.length_cons,List.length_nil,aA]);omega) (le (le (le (le (le (le (le (le a.size c.size) d.size) j.size) u.size) F.size) G.size) a2.size) I.size) fun aY b0 c4 b1 b2=>Pl 1<|nl<|bn<|tn<|go<|Pl 1<|L0<|Oi (((k:Nat) : Int)+1)<|Pl 1<|nl<|?_
 exact gB ((k+1),(((L++[6])++(aJ ([(M.recs.getD k ⟨0,0,0,[]⟩).file,(M.recs.getD k ⟨0,0,0,[]⟩).record,(M.recs.getD k ⟨0,0,0,[]⟩).count])))++(aJ ((M.recs.getD k ⟨0,0,0,[]⟩).words))),aY,b0) ⟨(ut a (ut (aC.mono (S':=(ob A++(ob l++(ob v++[])))) Y ay) (ut (aC.mono (S':=(ob A++(ob l++(ob v++[])))) u (av il ay)) (ut (aC.mono (S':=(ob l++(ob v++[]))) H (av il ay)) (ut (aC.mono (S':=(ob v++[])) I ay) b2 (av il ay)) (av il ay)) (av il (av il ay))) (av il (av il (av il ay)))) (av (aN b lr) (av (aN t lr) (av (aN a1 lr) ay)))),b1,(by(try dsimp only);omega),(by(try dsimp only);rw[← hL,jo dir M.code M.recs k (by omega)];simp only[lI,f,i,bs,if_true,if_false,decide_true,decide_false,List.append_assoc]),(by(try dsimp only);have hv:=hf.recw _ (dV ⟨0,0,0,[]⟩ M.recs k (by omega));(try simp only[List.length_append,List.length_cons,List.length_nil,aA]);omega),(by(try dsimp only);(try simp only[List.length_append,List.length_cons,List.length_nil]);omega)⟩ (by omega)
 have ak:=of_decide_eq_false f
 refine xt<|tx<|tx<|bx<|tn<|sg<|Pl 3<|L0<|cL (m:=1) (e:=5) #[.int .u8 (((L.length:Nat) : Int)%256)] fun c5 c6 b3 b4 J=>?_
 have a3:=cC b3 (xs:=[(((L.length:Nat) : Int)%256)]) (by as_aux_lemma=>kernel_rfl) (au (by omega) aK) (by(try simp only[List.length_cons,List.length_nil]);omega) b4
 refine Pl 1<|?_
 refine L0<|bR aZ (xs:=([(((L.length:Nat) : Int)%256)])) (ys:=L) (.int .u8 0) 1 a3 ((ap b J (fun x hx=>az) (fun _ _ h=>h))).rd (by(try simp only[List.length_append,List.length_cons,List.length_nil,aA]);omega) J.size fun b5 b6 c7 b8 b9=>Pl 1<|nt<|rt<|rr (.slice b5 (([(((L.length:Nat) : Int)%256)]++L).length) b6)<|?_
 have hL2:L=di dir M.code M.recs:=by rw[show k=M.recs.length by omega,List.drop_length] at hL;rw[show di dir M.code []=[] from rfl,List.append_nil] at hL;exact hL
 have hs:er dir M=([(((L.length:Nat) : Int)%256)]++L):=by unfold er;rw[← hL2]
 rw[hs]
 exact⟨_,rfl,(aS.weaken b8 q.size),(aD q (ut J b9 (av (aN a3 lr) ay)))⟩
open Go.RowKit
def fg (dir:Int)(M:aP) : List Int :=
  if M.mei==13 then [13]++M.data
  else if dir==0 then [M.mei,M.kind,M.next]
  else [M.mei,M.kind,M.level,M.more,M.next,(M.objects.length:Int)%256]++eX M.objects
theorem sT{m:Md}{cs:Array Value}{M:aP}{w:World}{dir:Int}(h:aH m w cs.toList M)(hf:bS M) : Calls Tryz.prog 170 #[.int .i64 dir,.agg cs] w (ik (fg dir M) w):=by
 obtain⟨vw,vb,vd,vr,vo,h0,hw,hbt,hd,hr,ho,hR⟩:=h
 obtain rfl:cs=(bu M vw vb vd vr vo).toArray:=by apply Array.toList_inj.1;simpa using h0
 clear h0
 obtain⟨Aw,kw,rfl,_,_⟩:=hw.shape
 obtain⟨Ab,kb,rfl,_,_⟩:=hbt.shape
 obtain⟨Ad,kd,rfl,_,_⟩:=hd.shape
 obtain⟨Ar,kr,rfl,_,_⟩:=hr.shape
 obtain⟨Ao,ko,rfl,_,_⟩:=ho.shape
 obtain⟨q0,q1,q2,q3,q4,q5,q6,q7,q8,q9,X,Y,Z,a0,a1,a2,a3⟩:=hR
 simp only[B8,dp] at q0 q1 q2 q3 q4 q5 q6 q7 q8 q9 X Y Z a0 a1 a2 a3
 have hf1:=hf.words
 have hf2:=hf.bits
 have hf3:=hf.data
 have hf4:=hf.recs
 have hf5:=hf.objects
 refine en 71 Tryz.func170 rfl<|sg<|L0<|dv (mG M.code M.fail M.addr M.count M.value M.and_ M.or_ M.addr2 M.sub M.status M.events M.messages (.slice Aw M.words.length kw) (.slice Ab M.bits.length kb) (.slice Ad M.data.length kd) (.slice Ar M.recs.length kr) M.mei M.kind M.level M.more M.next (.slice Ao M.objects.length ko)) fun q r aW b c=>Pl 1<|nt<|sq<|sg<|Pl 1<|L0<|aO b 16<|Pl 1<|nl<|?_
 refine tn<|cb ((M.mei==13)) (fun g=>?_) (fun g=>?_)
 have a4:=ah g
 refine sg<|L0<|cL (m:=1) (e:=5) #[.int .u8 13] fun aX aY a5 a6 s=>?_
 have G:=cC a5 (xs:=[13]) (by as_aux_lemma=>kernel_rfl) (au (by omega) aK) (by(try simp only[List.length_cons,List.length_nil]);omega) a6
 refine Pl 1<|?_
 refine L0<|aO (ub s b) 14<|?_
 have H:=aD c s
 refine L0<|bR aZ (xs:=([13])) (ys:=M.data) (.int .u8 0) 1 G (b9.old hd H) (by(try simp only[List.length_append,List.length_cons,List.length_nil,aA]);omega) s.size fun a7 a8 b0 a9 aa=>Pl 1<|nt<|rt<|tr<|rr (.slice a7 (([13]++M.data).length) a8)<|?_
 have hs:fg dir M=([13]++M.data):=by
   unfold fg
   (try simp only[g,bs,if_true,if_false,decide_true,decide_false,Bool.or_true,Bool.true_or,Bool.or_false,Bool.false_or,Bool.and_true,Bool.true_and,Bool.and_false,Bool.false_and,reduceIte])
   all_goals rfl
 rw[hs]
 exact⟨_,rfl,(aS.weaken a9 c.size),(ut H aa (av (aN G c.size) ay))⟩
 have a4:=aj g
 refine bf<|sq<|sg<|Pl 2<|nt<|cb ((dir==0)) (fun n=>?_) (fun n=>?_)
 have ab:=ah n
 refine sg<|Pl 1<|L0<|aO b 16<|Pl 1<|L0<|aO b 17<|Pl 1<|L0<|aO b 20<|L0<|cL (m:=3) (e:=5) #[.int .u8 M.mei,.int .u8 M.kind,.int .u8 M.next] fun ac b1 ad af ag=>?_
 have ai:=cC ad (xs:=[M.mei,M.kind,M.next]) (by as_aux_lemma=>kernel_rfl) (au (by omega) (au (by omega) (au (by omega) aK))) (by(try simp only[List.length_cons,List.length_nil]);omega) af
 refine Pl 1<|nt<|rt<|tr<|rr (.slice (some ⟨ac,0,none⟩) 3 3)<|?_
 have hs:fg dir M=[M.mei,M.kind,M.next]:=by
   unfold fg
   (try simp only[g,n,bs,if_true,if_false,decide_true,decide_false,Bool.or_true,Bool.true_or,Bool.or_false,Bool.false_or,Bool.and_true,Bool.true_and,Bool.and_false,Bool.false_and,reduceIte])
   all_goals rfl
 rw[hs]
 exact⟨_,rfl,(aS.weaken ai c.size),(aD c ag)⟩
 have ab:=aj n
 refine bf<|sg<|Pl 1<|L0<|aO b 16<|Pl 1<|L0<|aO b 17<|Pl 1<|L0<|aO b 18<|Pl 1<|L0<|aO b 19<|Pl 1<|L0<|aO b 20<|?_
 refine Pl 1<|L0<|aO b 21<|Pl 2<|L0<|cL (m:=6) (e:=5) #[.int .u8 M.mei,.int .u8 M.kind,.int .u8 M.level,.int .u8 M.more,.int .u8 M.next,.int .u8 (((M.objects.length:Nat) : Int)%256)] fun ak al an ao t=>?_
 have aq:=cC an (xs:=[M.mei,M.kind,M.level,M.more,M.next,(((M.objects.length:Nat) : Int)%256)]) (by as_aux_lemma=>kernel_rfl) (au (by omega) (au (by omega) (au (by omega) (au (by omega) (au (by omega) (au (by omega) aK)))))) (by(try simp only[List.length_cons,List.length_nil]);omega) ao
 refine Pl 1<|nt<|sq<|sg<|Pl 1<|nt<|bk<|?_
 refine iN (fun x=>[(3,.pointer (some ⟨q,0,none⟩)),(4,.slice none 0 0),(5,.slice x.2.2.1 x.2.1.length x.2.2.2),(6,.int .i64 ((x.1:Nat) : Int))]) (fun(x:Nat × List Int × Option Addr × Nat) w'=>aC [] r w'∧al.heap.size≤w'.heap.size∧eB r.heap.size w' (.slice x.2.2.1 x.2.1.length x.2.2.2) x.2.1∧(x.1≤M.objects.length)∧(x.2.1++eX (M.objects.drop x.1)=([M.mei,M.kind,M.level,M.more,M.next,(((M.objects.length:Nat) : Int)%256)])++eX M.objects)∧(x.2.1.length≤16+x.1*1026)∧(6≤x.2.1.length)) (fun x=>M.objects.length-x.1) (0,[M.mei,M.kind,M.level,M.more,M.next,(((M.objects.length:Nat) : Int)%256)],some ⟨ak,0,none⟩,6) ⟨t,lr,aq,(by(try dsimp only);omega),rfl,(by(try dsimp only);(try simp only[List.length_cons,List.length_nil]);omega),(by(try dsimp only);(try simp only[List.length_cons,List.length_nil]);omega)⟩ ?_
 rintro⟨k,L,A,cp⟩ ar ⟨u,y,aw,ax,aE,aF,aG⟩
 refine iy [(3,.pointer (some ⟨q,0,none⟩)),(4,.slice none 0 0),(5,.slice A L.length cp),(6,.int .i64 ((k:Nat) : Int))] ?_
 have i:eB r.heap.size ar (.slice A L.length cp) L:=aw
 have b2:k≤M.objects.length:=ax
 have b3:L++eX (M.objects.drop k)=([M.mei,M.kind,M.level,M.more,M.next,(((M.objects.length:Nat) : Int)%256)])++eX M.objects:=aE
 have b4:L.length≤16+k*1026:=aF
 have b5:6≤L.length:=aG
 have hL:L++eX (M.objects.drop k)=([M.mei,M.kind,M.level,M.more,M.next,(((M.objects.length:Nat) : Int)%256)])++eX M.objects:=by assumption
 have hv0:=fun(h:k<M.objects.length)=>hf.objv _ (dV ⟨0,[]⟩ M.objects k h)
 refine sq<|sg<|Pl 2<|?_
 have I:=ub u b
 refine L0<|aO I 21<|Pl 2<|nt<|?_
 have J:=aD c u
 refine cb ((decide (((k:Nat) : Int)<((M.objects.length:Nat) : Int)))) (fun o=>?_) (fun o=>?_)
 have aI:=of_decide_eq_true o
 refine bf<|sq<|bk<|sq<|kR (nv.elt ho k (by omega)) fun z B b6 b7 b8 K N C O aJ ba d=>Rg 18 (fun w'=>w'.cell? ⟨q,21,none⟩=some (.slice Ao M.objects.length ko)∧w'.cell? ⟨z,B+k*2+0,none⟩=some (.int .u8 ((M.objects.getD k ⟨0,[]⟩).id))∧w'.cell? ⟨z,B+k*2+1,none⟩=some (.slice K ((M.objects.getD k ⟨0,[]⟩).value.length) N)) fun bb j=>?_
 have P:=ub j I
 have Q:=aD J j
 have D:=ub Q O
 refine bi ⟨(ae P rfl),(fN D d 0 rfl (by decide)),(fN D d 1 rfl (by decide))⟩ fun a=>Rt 0 a<|Rt 1 a<|Rl 2 a (fun _ hs=>hs.1)<|Rt 3 a<|Ri 4 a 2 M.objects.length k ((k:Nat) : Int) rfl C (by omega)<|Rt 5 a<|Rl 6 a (fun _ hs=>hs.2.1)<|Rt 7 a<|Rl 8 a (fun _ hs=>hs.1)<|Rt 9 a<|Ri 10 a 2 M.objects.length k ((k:Nat) : Int) rfl C (by omega)<|Rt 11 a<|Rl 12 a (fun _ hs=>hs.2.2)<|?_
 refine Rt 13 a<|Rt 14 a<|R0 15 rfl<|cL (m:=2) (e:=5) #[.int .u8 ((M.objects.getD k ⟨0,[]⟩).id),.int .u8 ((((M.objects.getD k ⟨0,[]⟩).value.length:Nat) : Int)%256)] fun bc bd aL aM f=>?_
 have aQ:=cC aL (xs:=[(M.objects.getD k ⟨0,[]⟩).id,((((M.objects.getD k ⟨0,[]⟩).value.length:Nat) : Int)%256)]) (by as_aux_lemma=>kernel_rfl) (au (by omega) (au (by omega) aK)) (by(try simp only[List.length_cons,List.length_nil]);omega) aM
 have R:=ub f P
 have E:=ub f D
 refine bi ⟨(ae R rfl),(fN E d 0 rfl (by decide)),(fN E d 1 rfl (by decide))⟩ fun be=>?_
 have S:=aD j f
 refine R0 16 rfl<|bR aZ (xs:=L) (ys:=([(M.objects.getD k ⟨0,[]⟩).id,((((M.objects.getD k ⟨0,[]⟩).value.length:Nat) : Int)%256)])) (.int .u8 0) 1 (ap i S (fun x hx=>az) (fun _ _ h=>h)) (aQ).rd (by(try simp only[List.length_append,List.length_cons,List.length_nil,aA]);omega) (le (le (le t.size y) j.size) f.size) fun T bg bh U l=>?_
 have V:=aC.blk l (bj (aB (am b) lr i) az) R
 have F:=aC.blk l (bj (aB (am O) c.size i) az) E
 refine bi ⟨(ae V rfl),(fN F d 0 rfl (by decide)),(fN F d 1 rfl (by decide))⟩ fun aR=>Rt 17 aR<|re<|tn<|go<|Pl 2<|L0<|aO V 21<|Pl 1<|L0<|pm 2 M.objects.length k C (by omega)<|Pl 1<|L0<|ei (p:=⟨z,B+k*2+1,none⟩) (v:=.slice K ((M.objects.getD k ⟨0,[]⟩).value.length) N) (fN F d 1 rfl (by decide))<|?_
 refine L0<|bR aZ (xs:=(L++[(M.objects.getD k ⟨0,[]⟩).id,((((M.objects.getD k ⟨0,[]⟩).value.length:Nat) : Int)%256)])) (ys:=((M.objects.getD k ⟨0,[]⟩).value)) (.int .u8 0) 1 U (b9.old aJ (ut Q (ut (aC.mono (S':=(ob A++[])) f ay) l (av il ay)) (av (aN i c.size) ay))) (by(try simp only[List.length_append,List.length_cons,List.length_nil,aA]);omega) (le (le (le (le t.size y) j.size) f.size) l.size) fun aT aU bl aV W=>Pl 1<|nl<|bn<|tn<|go<|Pl 1<|L0<|Oi (((k:Nat) : Int)+1)<|Pl 1<|nl<|?_
 exact gB ((k+1),((L++[(M.objects.getD k ⟨0,[]⟩).id,((((M.objects.getD k ⟨0,[]⟩).value.length:Nat) : Int)%256)])++(M.objects.getD k ⟨0,[]⟩).value),aT,aU) ⟨(ut u (ut (aC.mono (S':=(ob A++(ob T++[]))) S ay) (ut (aC.mono (S':=(ob A++(ob T++[]))) l (av il ay)) W (av il ay)) (av il (av il ay))) (av (aN i lr) (av (aN U lr) ay))),(le (le (le (le y j.size) f.size) l.size) W.size),aV,(by(try dsimp only);omega),(by(try dsimp only);rw[← hL,mL  M.objects k (by omega)];simp only[List.append_assoc]),(by(try dsimp only);have hv:=hf.objv _ (dV ⟨0,[]⟩ M.objects k (by omega));(try simp only[List.length_append,List.length_cons,List.length_nil,aA]);omega),(by(try dsimp only);(try simp only[List.length_append,List.length_cons,List.length_nil]);omega)⟩ (by omega)
 have aI:=of_decide_eq_false o
 refine xt<|tx<|tx<|bx<|tn<|sg<|Pl 2<|nt<|rt<|rr (.slice A L.length cp)<|?_
 have hk:k=M.objects.length:=by omega
 rw[hk,List.drop_length] at hL
 have hL2:L=([M.mei,M.kind,M.level,M.more,M.next,(((M.objects.length:Nat) : Int)%256)])++eX M.objects:=by rw[← hL];simp[eX]
 have hs:fg dir M=L:=by
   rw[hL2]
   unfold fg
   (try simp only[g,n,o,bs,if_true,if_false,decide_true,decide_false,reduceIte])
   all_goals rfl
 rw[hs]
 exact⟨_,rfl,(aS.weaken i c.size),J⟩
end Go.Proofs.YtogbnemojakcpaaGreat
