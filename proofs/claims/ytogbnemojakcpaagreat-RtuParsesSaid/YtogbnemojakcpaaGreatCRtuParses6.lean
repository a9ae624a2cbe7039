/- Contracts of functions, part CRtuParses6. -/
import Derived.Test.YtogbnemojakcpaaGreatCRtuParses1
import Derived.Test.YtogbnemojakcpaaGreatCRtuParses2
import Derived.Test.YtogbnemojakcpaaGreatCRtuParses3
import Derived.Test.YtogbnemojakcpaaGreatCRtuParses4
import Derived.Test.YtogbnemojakcpaaGreatCRtuParses5
import Derived.Deep.Slices
import Derived.ChangeArms
import Derived.WideShapes
set_option linter.unusedVariables false
set_option linter.unusedSimpArgs false
set_option maxRecDepth 100000
set_option maxHeartbeats 4000000
namespace Go.Proofs.YtogbnemojakcpaaGreat
open Go.RowKit
theorem RC.safe{w0:World}{m:Md}{A:Option Addr}{cp:Nat}{full:List Int}{w:World}{g:Nat}{C:ah}(h:RC w0 m A cp full w g C)(D:List TypeId)(hD:159∉D) : cW true D [g] w:=by
  obtain⟨k,h1,_⟩:=h.cell
  exact cW.one h1 hD
theorem RC.nrow{α:Type}{base sz n c:Nat}{e:TypeId}{R:World→α→List Value→Prop}{B:Option Addr}{xs:List α}{w0:World}{m:Md}{A:Option Addr}{cp:Nat}{full:List Int}{w:World}{g:Nat}{C:ah}(h:RC w0 m A cp full w g C)(ho:be base e sz R w (.slice B n c) xs)(ht:(159==e)=false) : g∉ob B:=by
  obtain⟨k,h1,_⟩:=h.cell
  exact dm h1 ho ht
theorem RC.fld2{w0:World}{m:Md}{A:Option Addr}{cp:Nat}{full:List Int}{w:World}{g:Nat}{C:ah}(h:RC w0 m A cp full w g C) : w.cell? ⟨g,2,none⟩=some (.bool C.sh):=by
  obtain⟨k,h1,_⟩:=h.cell
  rw[bu h1]
  rfl
def tA (w0:World)(m:Md)(A:Option Addr)(cp:Nat)(full:List Int)(g:Nat)(C':ah)(r:di)(w:World)(e:Ending)(w':World) : Prop:=e = .returned (.agg #[.int .u16 r.file,.int .u16 r.record,.int .u16 r.count,.slice none 0 0])∧dy r.file∧dy r.record∧dy r.count∧RC w0 m A cp full w' g C'∧aE [g] w w'
theorem kK{x:Int}(h : -1≤x∧x≤255) : 0≤Int.tdiv x 2∧Int.tdiv x 2≤127:=by
  by_cases h0:x = -1
  · subst h0;decide
  · rw[Int.tdiv_eq_ediv_of_nonneg (by omega)]
    omega
theorem gt{one:Int→ah→Int × ah × di}{n:Nat}{s:Int}{C:ah}{L:List di}{R:ah × List di}(h3:(C.e=0∧C.l.length≤n∧aN one n s C L=R)∨(C.e≠0∧R.1=C))(hc:0<C.l.length)(he:C.e=0)(hlt:(one s C).2.1.l.length<C.l.length) :
    ((one s C).2.1.e=0∧(one s C).2.1.l.length≤n-1∧aN one (n-1) (one s C).1 (one s C).2.1 (L++[(one s C).2.2])=R)∨((one s C).2.1.e≠0∧R.1=(one s C).2.1):=by
  rcases h3 with⟨_,hn,hR⟩|⟨h,_⟩
  · obtain⟨k,rfl⟩ : ∃ k,n=k+1:=⟨n-1,by omega⟩
    unfold aN at hR
    rw[if_pos (by rw[he];simpa using hc)] at hR
    by_cases hz:(one s C).2.1.e=0
    · rw[if_neg (by rw[hz];decide)] at hR
      exact .inl ⟨hz,by omega,hR⟩
    · rw[if_pos (by simpa using hz)] at hR
      exact .inr ⟨hz,by rw[← hR]⟩
  · exact absurd he h
theorem eV{one:Int→ah→Int × ah × di}{n:Nat}{s:Int}{C:ah}{L:List di}{R:ah × List di}(h3:(C.e=0∧C.l.length≤n∧aN one n s C L=R)∨(C.e≠0∧R.1=C))(hq:(decide (0<((C.l.length:Nat) : Int))&&C.e==0)=false) : R.1.e=C.e∧(C.e=0→R.2=L):=by
  rcases h3 with⟨he,hn,hR⟩|⟨h,h2⟩
  · rw[fQ one n s C L hq] at hR
    rw[← hR]
    exact⟨rfl,fun _=>rfl⟩
  · rw[h2]
    exact⟨rfl,fun h3=>absurd h3 h⟩
def fi (R:ah × List di)(w:World)(e:Ending)(w':World) : Prop:=∃ A2 n2 c2,e = .returned (.tuple #[.slice A2 n2 c2,.int .i64 (bo R.1.e)])∧(bo R.1.e=0→be w.heap.size 109 4 (bp true) w' (.slice A2 n2 c2) R.2)∧aE [] w w'
theorem jm{f:FuncId}{args:Array Value}{R:ah × List di}{w:World}(h:Calls Tryz.prog f args w (fi R w))(h0:bo R.1.e=0) : Calls Tryz.prog f args w (fun e w'=>∃ v,e = .returned (.tuple #[v,.int .i64 0])∧be w.heap.size 109 4 (bp true) w' v R.2∧aE [] w w'):=by
  refine h.mono ?_
  rintro e w' ⟨A2,n2,c2,rfl,h1,h2⟩
  exact⟨_,by rw[h0],h1 h0,h2⟩
theorem ip{f:FuncId}{args:Array Value}{R:ah × List di}{w:World}(h:Calls Tryz.prog f args w (fi R w)) : Calls Tryz.prog f args w (fun e w'=>∃ A2 n2 c2,e = .returned (.tuple #[.slice A2 n2 c2,.int .i64 (bo R.1.e)])∧aE [] w w'):=by
  refine h.mono ?_
  rintro e w' ⟨A2,n2,c2,rfl,h1,h2⟩
  exact⟨A2,n2,c2,rfl,h2⟩
theorem tI{w0:World}{m:Md}{A:Option Addr}{cp:Nat}{full:List Int}{w:World}{g:Nat}{C:ah}(hC:RC w0 m A cp full w g C) : Calls Tryz.prog 218 #[.pointer (some ⟨g,0,none⟩)] w (tA w0 m A cp full g (dv C) (aL C) w):=by
 have hr:i5 C:=RC.rng hC
 refine en 42 Tryz.func218 rfl<|sg<|L0<|bI #[.int .u16 0,.int .u16 0,.int .u16 0,.slice none 0 0] fun N O b i a=>ng<|Pl 1<|?_
 refine L0<|Oc<|m3 (dI (RC.upd hC a ay (aE.step (RC.u hC) a))) fun P c j Q=>Pl 1<|ng<|Pl 4<|L0<|e8 (p:=⟨g,2,none⟩) (v:=.bool ((C.bytesC 1).sh)) (RC.fld2 c)<|Pl 1<|L0<|Oc<|m2 (aV ((!((C.bytesC 1).sh))) 5 c) fun R k l=>ng<|?_
 refine Pl 3<|L0<|Oc<|m2 (aV ((C.byteV==6)) 9 k) fun S n o=>?_
 refine fd n fun x26 q r=>?_
 refine ng<|Pl 1<|L0<|Oc<|m3 (cM r) fun T s t U=>Pl 1<|ng<|Pl 3<|L0<|Oc<|m2 (aV ((decide (0<x26.wordV))) 6 s) fun V y z=>nl<|?_
 refine tn<|sg<|Pl 1<|L0<|Oc<|m3 (cM y) fun W B D X=>Pl 1<|ng<|Pl 3<|L0<|Oc<|m2 (aV ((decide ((((x26.wordsC 1).need (decide (0<x26.wordV)) 6).wordV)≤9999))) 7 B) fun Y E F=>?_
 refine fd E fun x43 G H=>?_
 refine ng<|Pl 1<|L0<|Oc<|m3 (cM H) fun Z I J a0=>Pl 1<|ng<|Pl 3<|L0<|Oc<|m2 (aV ((decide (0<x43.wordV))) 5 I) fun a1 K L=>nl<|?_
 refine tn<|sg<|Pl 4<|?_
 have d:=u1 j (u1 l (u1 o (u1 t (u1 z (u1 D (u1 F (u1 J L im) im) im) im) im) im) im) im
 have e:=nb (RC.lt hC) lr b
 refine L0<|b6 (aT d (Ne.symm e) i) #[.int .u16 x26.wordV,.int .u16 (((x26.wordsC 1).need (decide (0<x26.wordV)) 6).wordV),.int .u16 x43.wordV,.slice none 0 0] fun a2 M f=>nt<|rt<|uQ M<|?_
 subst G q
 have e1:dv C=(((((((((C.bytesC 1).need (!((C.bytesC 1).sh)) 5).need (C.byteV==6) 9).wordsC 1).need (decide (0<(((C.bytesC 1).need (!((C.bytesC 1).sh)) 5).need (C.byteV==6) 9).wordV)) 6).wordsC 1).need (decide (((((((C.bytesC 1).need (!((C.bytesC 1).sh)) 5).need (C.byteV==6) 9).wordsC 1).need (decide (0<(((C.bytesC 1).need (!((C.bytesC 1).sh)) 5).need (C.byteV==6) 9).wordV)) 6).wordV)≤9999)) 7).wordsC 1).need (decide (0<(((((((C.bytesC 1).need (!((C.bytesC 1).sh)) 5).need (C.byteV==6) 9).wordsC 1).need (decide (0<(((C.bytesC 1).need (!((C.bytesC 1).sh)) 5).need (C.byteV==6) 9).wordV)) 6).wordsC 1).need (decide (((((((C.bytesC 1).need (!((C.bytesC 1).sh)) 5).need (C.byteV==6) 9).wordsC 1).need (decide (0<(((C.bytesC 1).need (!((C.bytesC 1).sh)) 5).need (C.byteV==6) 9).wordV)) 6).wordV)≤9999)) 7).wordV)) 5):=by rw[← pY hr];rfl
 have e2:(aL C).file=(((C.bytesC 1).need (!((C.bytesC 1).sh)) 5).need (C.byteV==6) 9).wordV:=by show(gX C).wordV=_;rw[← qC];rfl
 have e3:(aL C).record=(((((C.bytesC 1).need (!((C.bytesC 1).sh)) 5).need (C.byteV==6) 9).wordsC 1).need (decide (0<(((C.bytesC 1).need (!((C.bytesC 1).sh)) 5).need (C.byteV==6) 9).wordV)) 6).wordV:=by show(gY C).wordV=_;rw[← rP hr];rfl
 have e4:(aL C).count=(((((((C.bytesC 1).need (!((C.bytesC 1).sh)) 5).need (C.byteV==6) 9).wordsC 1).need (decide (0<(((C.bytesC 1).need (!((C.bytesC 1).sh)) 5).need (C.byteV==6) 9).wordV)) 6).wordsC 1).need (decide (((((((C.bytesC 1).need (!((C.bytesC 1).sh)) 5).need (C.byteV==6) 9).wordsC 1).need (decide (0<(((C.bytesC 1).need (!((C.bytesC 1).sh)) 5).need (C.byteV==6) 9).wordV)) 6).wordV)≤9999)) 7).wordV:=by show(lU C).wordV=_;rw[← rl hr];rfl
 have h:=ue a (us d f) b
 unfold tA
 rw[e1,e2,e3,e4]
 exact⟨rfl,aB (by omega),aB (by omega),aB (by omega),(RC.upd K f (aa e ay) (hC.u.trans' h (fun x hx=>.inr (by simp at hx;subst hx;exact hC.new)))),h⟩
theorem qS{m:Md}{A:Option Addr}{cp:Nat}{b:List Int}{w:World}(hsl:b7 m w (.slice A b.length cp) b)(hb:b.length≤1048576) :
    Calls Tryz.prog 163 #[.int .i64 0,.int .u8 20,.slice A b.length cp] w (fi (aN cN b.length 0 ⟨b,false,0⟩ []) w):=by
 have hln:(b.length:Int)≤1048576:=by omega
 refine en 108 Tryz.func163 rfl<|sg<|Pl 2<|ng<|Pl 2<|L0<|dx #[.slice A b.length cp,.int .i64 0,.bool false,.int .i64 0] fun d U E a8 F=>Pl 1<|nt<|sq<|?_
 refine go<|Pl 1<|ng<|Pl 1<|nt<|sq<|bk<|?_
 have V:RC w _ A cp b U d (ah.mk b false 0):=⟨hsl,F,E,⟨0,a8,Nat.zero_le _,rfl⟩,by omega⟩
 refine iu (fun x=>[(0,.int .i64 0),(1,.int .u8 20),(6,.slice none 0 0),(7,.int .i64 0),(8,.pointer (some ⟨d,0,none⟩)),(9,.slice x.2.2.2.1 x.2.2.1.length x.2.2.2.2.1),(10,.int .i64 x.2.2.2.2.2)]) (fun(x:Nat × ah × List di × Option Addr × Nat × Int) w'=>aE [] w w'∧U.heap.size≤w'.heap.size∧RC w m A cp b w' d x.2.1∧be w.heap.size 109 4 (bp true) w' (.slice x.2.2.2.1 x.2.2.1.length x.2.2.2.2.1) x.2.2.1∧(0≤x.2.2.2.2.2)∧(x.2.1.e=0→x.2.2.2.2.2≤245)∧(x.2.2.1.length+x.2.1.l.length≤b.length)∧((x.2.1.e=0∧x.2.1.l.length≤x.1∧aN cN x.1 x.2.2.2.2.2 x.2.1 x.2.2.1=aN cN b.length 0 ⟨b,false,0⟩ [])∨(x.2.1.e≠0∧(aN cN b.length 0 ⟨b,false,0⟩ []).1=x.2.1))) (fun x=>x.2.1.l.length) (b.length,(ah.mk b false 0),[],none,0,0) ⟨F,lr,V,(be.nil w.heap.size _ _ (bp true) _),(by(try dsimp only);omega),(fun _=>(show(0:Int)≤245 from by decide)),(by(try dsimp only);simp),.inl ⟨rfl,Nat.le_refl _,rfl⟩⟩ ?_
 rintro⟨n,C,L,B,cq,s⟩ W ⟨a9,G,ab,ad,ae,af,ag,ai⟩
 refine iv [(0,.int .i64 0),(1,.int .u8 20),(6,.slice none 0 0),(7,.int .i64 0),(8,.pointer (some ⟨d,0,none⟩)),(9,.slice B L.length cq),(10,.int .i64 s)] ?_
 have a:RC w m A cp b W d C:=ab
 have hlC:=RC.clen a
 have hrC:i5 C:=RC.rng a
 have i:be w.heap.size 109 4 (bp true) W (.slice B L.length cq) L:=ad
 have aP:0≤s:=ae
 have aQ:C.e=0→s≤245:=af
 have aW:L.length+C.l.length≤b.length:=ag
 have H:(C.e=0∧C.l.length≤n∧aN cN n s C L=aN cN b.length 0 ⟨b,false,0⟩ [])∨(C.e≠0∧(aN cN b.length 0 ⟨b,false,0⟩ []).1=C):=ai
 refine sq<|sg<|Pl 1<|L0<|Oc<|m1 (gF a) fun aX c=>?_
 have aY:=RC.clen a
 refine Pl 2<|cu 6 [20] 26 (((decide (0<((C.l.length:Nat) : Int)))&&(C.e==0))) (fun K X=>?_) ?_
 refine bl 20 ((decide (0<((C.l.length:Nat) : Int)))) (fun j=>?_) (fun j=>?_)
 have aj:=of_decide_eq_true j
 refine Pl 3<|?_
 exact L1<|e8 (p:=⟨d,3,none⟩) (v:=.int .i64 C.e) (RC.fld (RC.upd a c ay (aE.step (RC.u a) c)))<|Pl 2<|ce X (C.e==0) (by rw[j];rfl)
 have aj:=of_decide_eq_false j
 exact Pl 6<|ce X false (by rw[j];rfl)
 refine nt<|?_
 have I:=aI a9 c
 refine cb (((decide (0<((C.l.length:Nat) : Int)))&&(C.e==0))) (fun f=>?_) (fun f=>?_)
 have J:=(aS f).1
 have M:=(aS f).2
 have aZ:=of_decide_eq_true J
 have b0:=al M
 refine bq<|bk<|sg<|Pl 1<|L0<|bI #[.int .u16 0,.int .u16 0,.int .u16 0,.slice none 0 0] fun b1 b2 k ak N=>L0<|b6 ak #[.int .u16 0,.int .u16 0,.int .u16 0,.slice none 0 0] fun b3 an O=>nt<|sq<|sg<|Pl 6<|nl<|?_
 refine tn<|c0<|sg<|Pl 1<|?_
 have Y:=ud N O k
 have r:=aI c Y
 refine L0<|Oc<|m5 (tI (RC.upd a r ay (aE.step (RC.u a) r))) fun b4 ao ar au aw t=>?_
 obtain⟨b5,b8⟩:=ao
 obtain⟨b9,ba⟩:=ar
 obtain⟨bb,bc⟩:=au
 have P:=nb (RC.lt V) (le G c.size) k
 refine L0<|b6 (aT t (Ne.symm P) an) #[.int .u16 ((aL C).file),.int .u16 ((aL C).record),.int .u16 ((aL C).count),.slice none 0 0] fun bd Z y=>ng<|Pl 2<|nt<|c0<|sg<|Pl 1<|L0<|Oi (s+2)<|Pl 1<|L0<|aR Z 2<|?_
 refine L0<|Oi ((aL C).count)<|L0<|Oi (2*((aL C).count))<|L0<|Oi ((s+2)+(2*((aL C).count)))<|Pl 1<|nt<|go<|Pl 3<|?_
 have Q:=us t y
 have a0:=ud I (ue Y Q k) E
 refine L0<|Oc<|m2 (aV ((decide (((s+2)+(2*((aL C).count)))≤245))) 5 (RC.upd aw y (aa P ay) a0)) fun bf az o=>?_
 refine fd az fun x68 aA a1=>?_
 refine nt<|go<|Pl 1<|?_
 refine L0<|ch (aT o (Ne.symm P) Z)<|L0<|dA (m:=1) (e:=109) #[.int .u16 ((aL C).file),.int .u16 ((aL C).record),.int .u16 ((aL C).count),.slice none 0 0] fun bg bj bm aD z=>?_
 have aF:=iQ (R:=bp true) (x:=(di.mk ((aL C).file) ((aL C).record) ((aL C).count) ([]))) aD rfl ⟨_,rfl,(aK.nil true _ _ _ _),aB (x:=(aL C).file) (by omega),aB (x:=(aL C).record) (by omega),aB (x:=(aL C).count) (by omega)⟩
 have a2:=aI o z
 have a3:=ue r (u1 Q a2 im) (le c.size k)
 have a4:=ax i a3 (fun x hx=>(aa (fun e=>(RC.nrow a i (by decide)) (e▸hx)) ay)) (bp.upd16 a3 (am (RC.safe a _ (by decide)) aG))
 refine L0<|g8 (xs:=L) (ys:=([(di.mk ((aL C).file) ((aL C).record) ((aL C).count) ([]))])) (.agg #[.int .u16 0,.int .u16 0,.int .u16 0,.slice none 0 0]) 4 32 a4 aF (by simp) bp.ones (fun w' hv=>bp.upd16 hv (cL (de _ a4 (by decide)) aG)) (by(try simp only[List.length_append,List.length_cons,List.length_nil,aC]);omega) (le (le (le (le (le (le (le (le F.size G) c.size) N.size) O.size) t.size) y.size) o.size) z.size) fun aH aJ br aM S=>Pl 1<|nl<|bn<|?_
 subst aA
 have hC2:(cN s C).2.1=((dv C).need (decide (((s+2)+(2*((aL C).count)))≤245)) 5):=by show ex s C=_;(try simp only[ex,ei,← Int.add_assoc,f,J,M,bs,if_true,if_false,decide_true,decide_false]);all_goals rfl
 have hM2:[(cN s C).2.2]=[(di.mk ((aL C).file) ((aL C).record) ((aL C).count) ([]))]:=by show[aL C]=_;(try simp only[ex,ei,← Int.add_assoc,f,J,M,bs,if_true,if_false,decide_true,decide_false]);all_goals rfl
 have hS2:(cN s C).1=((s+2)+(2*((aL C).count))):=by(try (show ei s C=_));(try simp only[ei,← Int.add_assoc]);all_goals rfl
 have hlt:=oI s C (by omega)
 have h9:=gt (one:=cN) H (by omega) (by omega) hlt
 rw[hC2,hM2,hS2] at h9
 rw[hC2] at hlt
 have a5:=ut a0 (ut (aE.mono (S':=(d :: (ob B++[]))) a2 (ac im aq)) S (av il aq)) (ac (nr E) (av (aU i lr) aq))
 have a6:=ue r (u1 Q o im) (le c.size k)
 exact fU ((n-1),((dv C).need (decide (((s+2)+(2*((aL C).count)))≤245)) 5),(L++[(di.mk ((aL C).file) ((aL C).record) ((aL C).count) ([]))]),aH,aJ,((s+2)+(2*((aL C).count)))) ⟨a5,(le (le (le (le (le (le (le (le G c.size) N.size) O.size) t.size) y.size) o.size) z.size) S.size),(RC.upd a1 (ut (aE.mono (S':=(ob B++[])) z aq) S (av il aq)) (bi (RC.nrow a1 (ax i a6 (fun x hx=>(aa (fun e=>(RC.nrow a i (by decide)) (e▸hx)) ay)) (bp.upd16 a6 (am (RC.safe a _ (by decide)) aG))) (by decide)) ay) a5),aM,(by(try dsimp only);omega),(by(try dsimp only);intro he;have hk:=(rX (by decide) he).2;simp only[decide_eq_true_eq] at hk;omega),(by(try dsimp only);simp only[List.length_append,List.length_cons,List.length_nil];omega),h9⟩ (by omega)
 refine xt<|tx<|tx<|bx<|tn<|sq<|sg<|Pl 3<|?_
 have T:=RC.upd a c ay (aE.step (RC.u a) c)
 refine L0<|e8 (p:=⟨d,3,none⟩) (v:=.int .i64 C.e) (RC.fld T)<|Pl 1<|nt<|cb ((C.e==2)) (fun q=>?_) (fun q=>?_)
 have aO:=al q
 refine sg<|Pl 2<|nt<|rt<|tr<|rr (.tuple #[.slice none 0 0,.int .i64 5])<|?_
 obtain⟨gX,gY⟩:=eV H f
 have hw:bo (aN cN b.length 0 ⟨b,false,0⟩ []).1.e=5:=by unfold bo;rw[gX,if_pos q]
 refine⟨none,0,0,by rw[hw],fun h=>absurd (hw.symm.trans h) (by decide),I⟩
 have aO:=ap q
 refine bq<|sq<|Rg 7 (fun w'=>w'.cell? ⟨d,3,none⟩=some (.int .i64 C.e)) fun bt D=>?_
 refine bh (RC.fld (RC.upd T D ay (aE.step (RC.u T) D))) fun g=>Rt 0 g<|Rt 1 g<|Rt 2 g<|Rt 3 g<|Rl 4 g (fun _ hs=>hs)<|Rt 5 g<|Rt 6 g<|re<|tn<|rt<|rr (.tuple #[.slice B L.length cq,.int .i64 C.e])<|?_
 obtain⟨gX,gY⟩:=eV H f
 have hw:bo (aN cN b.length 0 ⟨b,false,0⟩ []).1.e=C.e:=by unfold bo;rw[gX,if_neg (by rw[q];decide)]
 have a7:=aI c D
 refine⟨_,_,_,by rw[hw],fun h=>by rw[gY (hw.symm.trans h)];exact(ax i a7 (fun x hx=>ay) (bp.upd16 a7 aG)),(aI I D)⟩
theorem rK{m:Md}{A:Option Addr}{cp:Nat}{b:List Int}{w:World}(hsl:b7 m w (.slice A b.length cp) b)(hb:b.length≤1048576) :
    Calls Tryz.prog 163 #[.int .i64 1,.int .u8 20,.slice A b.length cp] w (fi (aN bG b.length 0 ⟨b,false,0⟩ []) w):=by
 have hln:(b.length:Int)≤1048576:=by omega
 refine en 108 Tryz.func163 rfl<|sg<|Pl 2<|ng<|Pl 2<|L0<|dx #[.slice A b.length cp,.int .i64 0,.bool false,.int .i64 0] fun f ag M ba N=>Pl 1<|nt<|sq<|?_
 refine go<|Pl 1<|ng<|Pl 1<|nt<|sq<|bk<|?_
 have Z:RC w _ A cp b ag f (ah.mk b false 0):=⟨hsl,N,M,⟨0,ba,Nat.zero_le _,rfl⟩,by omega⟩
 refine iu (fun x=>[(0,.int .i64 1),(1,.int .u8 20),(6,.slice none 0 0),(7,.int .i64 0),(8,.pointer (some ⟨f,0,none⟩)),(9,.slice x.2.2.2.1 x.2.2.1.length x.2.2.2.2.1),(10,.int .i64 x.2.2.2.2.2)]) (fun(x:Nat × ah × List di × Option Addr × Nat × Int) w'=>aE [] w w'∧ag.heap.size≤w'.heap.size∧RC w m A cp b w' f x.2.1∧be w.heap.size 109 4 (bp true) w' (.slice x.2.2.2.1 x.2.2.1.length x.2.2.2.2.1) x.2.2.1∧(0≤x.2.2.2.2.2)∧(x.2.1.e=0→x.2.2.2.2.2≤245)∧(x.2.2.1.length+x.2.1.l.length≤b.length)∧((x.2.1.e=0∧x.2.1.l.length≤x.1∧aN bG x.1 x.2.2.2.2.2 x.2.1 x.2.2.1=aN bG b.length 0 ⟨b,false,0⟩ [])∨(x.2.1.e≠0∧(aN bG b.length 0 ⟨b,false,0⟩ []).1=x.2.1))) (fun x=>x.2.1.l.length) (b.length,(ah.mk b false 0),[],none,0,0) ⟨N,lr,Z,(be.nil w.heap.size _ _ (bp true) _),(by(try dsimp only);omega),(fun _=>(show(0:Int)≤245 from by decide)),(by(try dsimp only);simp),.inl ⟨rfl,Nat.le_refl _,rfl⟩⟩ ?_
 rintro⟨n,C,L,B,cq,s⟩ ai ⟨bb,r,bc,bd,bf,bg,bj,bm⟩
 refine iv [(0,.int .i64 1),(1,.int .u8 20),(6,.slice none 0 0),(7,.int .i64 0),(8,.pointer (some ⟨f,0,none⟩)),(9,.slice B L.length cq),(10,.int .i64 s)] ?_
 have a:RC w m A cp b ai f C:=bc
 have hlC:=RC.clen a
 have hrC:i5 C:=RC.rng a
 have d:be w.heap.size 109 4 (bp true) ai (.slice B L.length cq) L:=bd
 have bY:0≤s:=bf
 have bZ:C.e=0→s≤245:=bg
 have c0:L.length+C.l.length≤b.length:=bj
 have O:(C.e=0∧C.l.length≤n∧aN bG n s C L=aN bG b.length 0 ⟨b,false,0⟩ [])∨(C.e≠0∧(aN bG b.length 0 ⟨b,false,0⟩ []).1=C):=bm
 refine sq<|sg<|Pl 1<|L0<|Oc<|m1 (gF a) fun c2 c=>?_
 have c3:=RC.clen a
 refine Pl 2<|cu 6 [20] 26 (((decide (0<((C.l.length:Nat) : Int)))&&(C.e==0))) (fun K aj=>?_) ?_
 refine bl 20 ((decide (0<((C.l.length:Nat) : Int)))) (fun z=>?_) (fun z=>?_)
 have br:=of_decide_eq_true z
 refine Pl 3<|?_
 exact L1<|e8 (p:=⟨f,3,none⟩) (v:=.int .i64 C.e) (RC.fld (RC.upd a c ay (aE.step (RC.u a) c)))<|Pl 2<|ce aj (C.e==0) (by rw[z];rfl)
 have br:=of_decide_eq_false z
 exact Pl 6<|ce aj false (by rw[z];rfl)
 refine nt<|?_
 have D:=aI bb c
 refine cb (((decide (0<((C.l.length:Nat) : Int)))&&(C.e==0))) (fun g=>?_) (fun g=>?_)
 have E:=(aS g).1
 have F:=(aS g).2
 have c4:=of_decide_eq_true E
 have c5:=al F
 refine bq<|bk<|sg<|Pl 1<|L0<|bI #[.int .u16 0,.int .u16 0,.int .u16 0,.slice none 0 0] fun P c6 j a0 G=>L0<|b6 a0 #[.int .u16 0,.int .u16 0,.int .u16 0,.slice none 0 0] fun c7 an k=>nt<|sq<|sg<|Pl 6<|nl<|?_
 refine tn<|c1<|sg<|Pl 1<|?_
 have ao:=ud G k j
 have t:=aI c ao
 refine L0<|Oc<|m3 (dI (RC.upd a t ay (aE.step (RC.u a) t))) fun c8 H i c9=>L0<|Oi C.byteV<|Pl 1<|ng<|Pl 2<|L0<|Oe (.int .i64 (Int.tmod C.byteV 2)) (.int .i64 (C.byteV%2)) (congrArg (Value.int .i64) (Int.tmod_eq_emod_of_nonneg (by omega)))<|Pl 2<|cu 3 [41] 44 ((((C.byteV%2)==1)&&(decide (3≤C.byteV)))) (fun K ar=>?_) ?_
 refine bl 41 (((C.byteV%2)==1)) (fun I=>?_) (fun I=>?_)
 have bt:=al I
 exact Pl 3<|ce ar (decide (3≤C.byteV)) (by rw[I];rfl)
 have bt:=ap I
 exact Pl 3<|ce ar false (by rw[I];rfl)
 refine Pl 1<|?_
 have au:=ud D (uz ao i) M
 refine bl 45 ((((C.byteV%2)==1)&&(decide (3≤C.byteV)))) (fun o=>?_) (fun o=>?_)
 have a1:=(aS o).1
 have a2:=(aS o).2
 have ca:=al a1
 have cc:=of_decide_eq_true a2
 refine Pl 2<|L1<|Oc<|m1 (gF H) fun cd y=>?_
 have cf:=RC.clen H
 refine Pl 2<|?_
 refine L0<|Oc<|m2 (aV ((decide (C.byteV≤(((C.bytesC 1).l.length:Nat) : Int)))) 5 (RC.upd H y ay (aE.step (RC.u H) y))) fun cg bu Q=>?_
 refine fd bu fun x66 bv bw=>?_
 refine ng<|Pl 1<|L0<|Oc<|m3 (dI bw) fun ci bz S cj=>Pl 1<|ng<|Pl 3<|L0<|Oc<|m2 (aV ((x66.byteV==6)) 9 bz) fun ck bA T=>nl<|?_
 refine tn<|go<|Pl 2<|L0<|Oi (C.byteV-1)<|?_
 have cl:=kK (x:=(C.byteV-1)) (by omega)
 refine L0<|Oe (.int .i64 (IntKind.i64.wrap (Int.tdiv (C.byteV-1) 2))) (.int .i64 (Int.tdiv (C.byteV-1) 2)) (congrArg (Value.int .i64) (jb (by omega) (by omega)))<|L0<|Oc<|lz (fp (n:=(Int.tdiv (C.byteV-1) 2)) (by omega) bA) fun aw az cm aD cn co bB a3=>?_
 refine fd bB fun x82 bC aF=>?_
 refine Pl 1<|?_
 have aH:=uz y (u1 Q (u1 S (u1 T a3 im) im) im)
 have a4:=u1 i aH im
 have aJ:=nb (RC.lt Z) (le r c.size) j
 refine L0<|bS (aT a4 (Ne.symm aJ) an) 3 #[.int .u16 0,.int .u16 0,.int .u16 0,.slice aw ((((x66.bytesC 1).need (x66.byteV==6) 9).wordsR (Int.tdiv (C.byteV-1) 2)).length) az] fun cr bD a5=>nt<|go<|Pl 1<|L0<|ch bD<|L0<|dA (m:=1) (e:=109) #[.int .u16 0,.int .u16 0,.int .u16 0,.slice aw ((((x66.bytesC 1).need (x66.byteV==6) 9).wordsR (Int.tdiv (C.byteV-1) 2)).length) az] fun cs ct cv bE a6=>?_
 have a7:=aI a5 a6
 have bF:=iQ (R:=bp true) (x:=(di.mk 0 0 0 (((x66.bytesC 1).need (x66.byteV==6) 9).wordsR (Int.tdiv (C.byteV-1) 2)))) bE rfl ⟨_,rfl,((ax aD a7 (fun x hx=>(aa (fun e=>(aA (ak a0) (le (le (le (le (le k.size i.size) y.size) Q.size) S.size) T.size) aD) (e▸hx)) ay)) (fun _ _ h=>h))).rd,aB (x:=0) (by omega),aB (x:=0) (by omega),aB (x:=0) (by omega)⟩
 have aK:=ue t (us a4 a7) (le c.size j)
 have aL:=ax d aK (fun x hx=>(aa (fun e=>(RC.nrow a d (by decide)) (e▸hx)) ay)) (bp.upd16 aK (am (RC.safe a _ (by decide)) aG))
 refine L0<|g8 (xs:=L) (ys:=([(di.mk 0 0 0 (((x66.bytesC 1).need (x66.byteV==6) 9).wordsR (Int.tdiv (C.byteV-1) 2)))])) (.agg #[.int .u16 0,.int .u16 0,.int .u16 0,.slice none 0 0]) 4 32 aL bF (by simp) bp.ones (fun w' hv=>bp.upd16 hv (cL (de _ aL (by decide)) aG)) (by(try simp only[List.length_append,List.length_cons,List.length_nil,aC]);omega) (le (le (le (le (le (le (le (le (le (le (le (le N.size r) c.size) G.size) k.size) i.size) y.size) Q.size) S.size) T.size) a3.size) a5.size) a6.size) fun bH bJ cw bK aM=>Pl 1<|nl<|bn<|?_
 subst bC bv
 have hC2:(bG s C).2.1=(((((C.bytesC 1).need (decide (C.byteV≤(((C.bytesC 1).l.length:Nat) : Int))) 5).bytesC 1).need (((C.bytesC 1).need (decide (C.byteV≤(((C.bytesC 1).l.length:Nat) : Int))) 5).byteV==6) 9).wordsC (Int.tdiv (C.byteV-1) 2)):=by show eC C=_;(try simp only[eC,ep,gK,gG,g,E,F,o,a1,a2,bs,if_true,if_false,decide_true,decide_false]);all_goals rfl
 have hM2:[(bG s C).2.2]=[(di.mk 0 0 0 (((((C.bytesC 1).need (decide (C.byteV≤(((C.bytesC 1).l.length:Nat) : Int))) 5).bytesC 1).need (((C.bytesC 1).need (decide (C.byteV≤(((C.bytesC 1).l.length:Nat) : Int))) 5).byteV==6) 9).wordsR (Int.tdiv (C.byteV-1) 2)))]:=by show[ep C]=_;(try simp only[eC,ep,gK,gG,g,E,F,o,a1,a2,bs,if_true,if_false,decide_true,decide_false]);all_goals rfl
 have hS2:(bG s C).1=s:=by(try (show s=_));(try simp only[ei,← Int.add_assoc]);all_goals rfl
 have hlt:=j8 s C (by omega)
 have h9:=gt (one:=bG) O (by omega) (by omega) hlt
 rw[hC2,hM2,hS2] at h9
 rw[hC2] at hlt
 have aO:=ut (aE.mono (S':=(P :: (ob B++[]))) a7 (ac im aq)) aM (av il aq)
 have aP:=ut au (ut (aE.mono (S':=(f :: (P :: (ob B++[])))) aH (ac im aq)) aO (ac im (av il aq))) (ac (nr M) (ac (ni D.size j) (av (aU d lr) aq)))
 have aQ:=uz t a4
 exact fU ((n-1),(((((C.bytesC 1).need (decide (C.byteV≤(((C.bytesC 1).l.length:Nat) : Int))) 5).bytesC 1).need (((C.bytesC 1).need (decide (C.byteV≤(((C.bytesC 1).l.length:Nat) : Int))) 5).byteV==6) 9).wordsC (Int.tdiv (C.byteV-1) 2)),(L++[(di.mk 0 0 0 (((((C.bytesC 1).need (decide (C.byteV≤(((C.bytesC 1).l.length:Nat) : Int))) 5).bytesC 1).need (((C.bytesC 1).need (decide (C.byteV≤(((C.bytesC 1).l.length:Nat) : Int))) 5).byteV==6) 9).wordsR (Int.tdiv (C.byteV-1) 2)))]),bH,bJ,s) ⟨aP,(le (le (le (le (le (le (le (le (le (le (le (le r c.size) G.size) k.size) i.size) y.size) Q.size) S.size) T.size) a3.size) a5.size) a6.size) aM.size),(RC.upd aF aO (aa aJ (bi (RC.nrow aF (ax d aQ (fun x hx=>(aa (fun e=>(RC.nrow a d (by decide)) (e▸hx)) ay)) (bp.upd16 aQ (am (RC.safe a _ (by decide)) aG))) (by decide)) ay)) aP),bK,(by(try dsimp only);omega),(by(try dsimp only);intro he;omega),(by(try dsimp only);simp only[List.length_append,List.length_cons,List.length_nil];omega),h9⟩ (by omega)
 refine Pl 5<|L0<|Oc<|m2 (aV (false) 5 H) fun cx bL U=>ng<|Pl 1<|L0<|Oc<|m3 (dI bL) fun cy bM V cz=>Pl 1<|ng<|Pl 3<|L0<|Oc<|m2 (aV (((((C.bytesC 1).need false 5).byteV)==6)) 9 bM) fun cA bN W=>?_
 refine fd bN fun X bO bP=>?_
 refine nt<|go<|Pl 2<|L0<|Oi (C.byteV-1)<|?_
 have cB:=kK (x:=(C.byteV-1)) (by omega)
 refine L0<|Oe (.int .i64 (IntKind.i64.wrap (Int.tdiv (C.byteV-1) 2))) (.int .i64 (Int.tdiv (C.byteV-1) 2)) (congrArg (Value.int .i64) (jb (by omega) (by omega)))<|L0<|Oc<|lz (fp (n:=(Int.tdiv (C.byteV-1) 2)) (by omega) bP) fun aR aW cC aX cD cE aY a8=>Pl 1<|?_
 have aZ:=u1 U (u1 V (u1 W a8 im) im) im
 have a9:=u1 i aZ im
 have b0:=nb (RC.lt Z) (le r c.size) j
 refine L0<|bS (aT a9 (Ne.symm b0) an) 3 #[.int .u16 0,.int .u16 0,.int .u16 0,.slice aR ((X.wordsR (Int.tdiv (C.byteV-1) 2)).length) aW] fun cF bQ ab=>nt<|go<|Pl 1<|L0<|ch bQ<|L0<|dA (m:=1) (e:=109) #[.int .u16 0,.int .u16 0,.int .u16 0,.slice aR ((X.wordsR (Int.tdiv (C.byteV-1) 2)).length) aW] fun cG cH cI bR ad=>?_
 have ae:=aI ab ad
 have bT:=iQ (R:=bp true) (x:=(di.mk 0 0 0 (X.wordsR (Int.tdiv (C.byteV-1) 2)))) bR rfl ⟨_,rfl,((ax aX ae (fun x hx=>(aa (fun e=>(aA (ak a0) (le (le (le (le k.size i.size) U.size) V.size) W.size) aX) (e▸hx)) ay)) (fun _ _ h=>h))).rd,aB (x:=0) (by omega),aB (x:=0) (by omega),aB (x:=0) (by omega)⟩
 have b1:=ue t (us a9 ae) (le c.size j)
 have b2:=ax d b1 (fun x hx=>(aa (fun e=>(RC.nrow a d (by decide)) (e▸hx)) ay)) (bp.upd16 b1 (am (RC.safe a _ (by decide)) aG))
 refine L0<|g8 (xs:=L) (ys:=([(di.mk 0 0 0 (X.wordsR (Int.tdiv (C.byteV-1) 2)))])) (.agg #[.int .u16 0,.int .u16 0,.int .u16 0,.slice none 0 0]) 4 32 b2 bT (by simp) bp.ones (fun w' hv=>bp.upd16 hv (cL (de _ b2 (by decide)) aG)) (by(try simp only[List.length_append,List.length_cons,List.length_nil,aC]);omega) (le (le (le (le (le (le (le (le (le (le (le N.size r) c.size) G.size) k.size) i.size) U.size) V.size) W.size) a8.size) ab.size) ad.size) fun bU bV cJ bW b3=>Pl 1<|nl<|bn<|?_
 subst bO
 have hC2:(bG s C).2.1=(((((C.bytesC 1).need false 5).bytesC 1).need ((((C.bytesC 1).need false 5).byteV)==6) 9).wordsC (Int.tdiv (C.byteV-1) 2)):=by show eC C=_;(try simp only[eC,ep,gK,gG,g,E,F,o,bs,if_true,if_false,decide_true,decide_false]);all_goals rfl
 have hM2:[(bG s C).2.2]=[(di.mk 0 0 0 (((((C.bytesC 1).need false 5).bytesC 1).need ((((C.bytesC 1).need false 5).byteV)==6) 9).wordsR (Int.tdiv (C.byteV-1) 2)))]:=by show[ep C]=_;(try simp only[eC,ep,gK,gG,g,E,F,o,bs,if_true,if_false,decide_true,decide_false]);all_goals rfl
 have hS2:(bG s C).1=s:=by(try (show s=_));(try simp only[ei,← Int.add_assoc]);all_goals rfl
 have hlt:=j8 s C (by omega)
 have h9:=gt (one:=bG) O (by omega) (by omega) hlt
 rw[hC2,hM2,hS2] at h9
 rw[hC2] at hlt
 have b4:=ut (aE.mono (S':=(P :: (ob B++[]))) ae (ac im aq)) b3 (av il aq)
 have b5:=ut au (ut (aE.mono (S':=(f :: (P :: (ob B++[])))) aZ (ac im aq)) b4 (ac im (av il aq))) (ac (nr M) (ac (ni D.size j) (av (aU d lr) aq)))
 have b8:=uz t a9
 exact fU ((n-1),(((((C.bytesC 1).need false 5).bytesC 1).need ((((C.bytesC 1).need false 5).byteV)==6) 9).wordsC (Int.tdiv (C.byteV-1) 2)),(L++[(di.mk 0 0 0 (((((C.bytesC 1).need false 5).bytesC 1).need ((((C.bytesC 1).need false 5).byteV)==6) 9).wordsR (Int.tdiv (C.byteV-1) 2)))]),bU,bV,s) ⟨b5,(le (le (le (le (le (le (le (le (le (le (le r c.size) G.size) k.size) i.size) U.size) V.size) W.size) a8.size) ab.size) ad.size) b3.size),(RC.upd aY b4 (aa b0 (bi (RC.nrow aY (ax d b8 (fun x hx=>(aa (fun e=>(RC.nrow a d (by decide)) (e▸hx)) ay)) (bp.upd16 b8 (am (RC.safe a _ (by decide)) aG))) (by decide)) ay)) b5),bW,(by(try dsimp only);omega),(by(try dsimp only);intro he;omega),(by(try dsimp only);simp only[List.length_append,List.length_cons,List.length_nil];omega),h9⟩ (by omega)
 refine xt<|tx<|tx<|bx<|tn<|sq<|sg<|Pl 3<|?_
 have af:=RC.upd a c ay (aE.step (RC.u a) c)
 refine L0<|e8 (p:=⟨f,3,none⟩) (v:=.int .i64 C.e) (RC.fld af)<|Pl 1<|nt<|cb ((C.e==2)) (fun J=>?_) (fun J=>?_)
 have bX:=al J
 refine sg<|Pl 2<|nt<|rt<|tr<|rr (.tuple #[.slice none 0 0,.int .i64 5])<|?_
 obtain⟨gX,gY⟩:=eV O g
 have hw:bo (aN bG b.length 0 ⟨b,false,0⟩ []).1.e=5:=by unfold bo;rw[gX,if_pos J]
 refine⟨none,0,0,by rw[hw],fun h=>absurd (hw.symm.trans h) (by decide),D⟩
 have bX:=ap J
 refine bq<|sq<|Rg 7 (fun w'=>w'.cell? ⟨f,3,none⟩=some (.int .i64 C.e)) fun cK Y=>?_
 refine bh (RC.fld (RC.upd af Y ay (aE.step (RC.u af) Y))) fun q=>Rt 0 q<|Rt 1 q<|Rt 2 q<|Rt 3 q<|Rl 4 q (fun _ hs=>hs)<|Rt 5 q<|Rt 6 q<|re<|tn<|rt<|rr (.tuple #[.slice B L.length cq,.int .i64 C.e])<|?_
 obtain⟨gX,gY⟩:=eV O g
 have hw:bo (aN bG b.length 0 ⟨b,false,0⟩ []).1.e=C.e:=by unfold bo;rw[gX,if_neg (by rw[J];decide)]
 have b9:=aI c Y
 refine⟨_,_,_,by rw[hw],fun h=>by rw[gY (hw.symm.trans h)];exact(ax d b9 (fun x hx=>ay) (bp.upd16 b9 aG)),(aI D Y)⟩
theorem qN{m:Md}{A:Option Addr}{cp:Nat}{b:List Int}{w:World}{dir:Int}(hsl:b7 m w (.slice A b.length cp) b)(hb:b.length≤1048576) :
    Calls Tryz.prog 163 #[.int .i64 dir,.int .u8 21,.slice A b.length cp] w (fi (aN cK b.length 0 ⟨b,false,0⟩ []) w):=by
 have hln:(b.length:Int)≤1048576:=by omega
 refine en 108 Tryz.func163 rfl<|sg<|Pl 2<|ng<|Pl 2<|L0<|dx #[.slice A b.length cp,.int .i64 0,.bool false,.int .i64 0] fun d a3 N aF O=>Pl 1<|nt<|sq<|?_
 refine go<|Pl 1<|ng<|Pl 1<|nt<|sq<|bk<|?_
 have a4:RC w _ A cp b a3 d (ah.mk b false 0):=⟨hsl,O,N,⟨0,aF,Nat.zero_le _,rfl⟩,by omega⟩
 refine iu (fun x=>[(0,.int .i64 dir),(1,.int .u8 21),(6,.slice none 0 0),(7,.int .i64 0),(8,.pointer (some ⟨d,0,none⟩)),(9,.slice x.2.2.2.1 x.2.2.1.length x.2.2.2.2.1),(10,.int .i64 x.2.2.2.2.2)]) (fun(x:Nat × ah × List di × Option Addr × Nat × Int) w'=>aE [] w w'∧a3.heap.size≤w'.heap.size∧RC w m A cp b w' d x.2.1∧be w.heap.size 109 4 (bp true) w' (.slice x.2.2.2.1 x.2.2.1.length x.2.2.2.2.1) x.2.2.1∧(0≤x.2.2.2.2.2)∧(x.2.1.e=0→x.2.2.2.2.2≤245)∧(x.2.2.1.length+x.2.1.l.length≤b.length)∧((x.2.1.e=0∧x.2.1.l.length≤x.1∧aN cK x.1 x.2.2.2.2.2 x.2.1 x.2.2.1=aN cK b.length 0 ⟨b,false,0⟩ [])∨(x.2.1.e≠0∧(aN cK b.length 0 ⟨b,false,0⟩ []).1=x.2.1))) (fun x=>x.2.1.l.length) (b.length,(ah.mk b false 0),[],none,0,0) ⟨O,lr,a4,(be.nil w.heap.size _ _ (bp true) _),(by(try dsimp only);omega),(fun _=>(show(0:Int)≤245 from by decide)),(by(try dsimp only);simp),.inl ⟨rfl,Nat.le_refl _,rfl⟩⟩ ?_
 rintro⟨n,C,L,B,cq,s⟩ a5 ⟨aH,P,aJ,aK,aM,aO,aP,aQ⟩
 refine iv [(0,.int .i64 dir),(1,.int .u8 21),(6,.slice none 0 0),(7,.int .i64 0),(8,.pointer (some ⟨d,0,none⟩)),(9,.slice B L.length cq),(10,.int .i64 s)] ?_
 have a:RC w m A cp b a5 d C:=aJ
 have hlC:=RC.clen a
 have hrC:i5 C:=RC.rng a
 have j:be w.heap.size 109 4 (bp true) a5 (.slice B L.length cq) L:=aK
 have bj:0≤s:=aM
 have bm:C.e=0→s≤245:=aO
 have br:L.length+C.l.length≤b.length:=aP
 have Q:(C.e=0∧C.l.length≤n∧aN cK n s C L=aN cK b.length 0 ⟨b,false,0⟩ [])∨(C.e≠0∧(aN cK b.length 0 ⟨b,false,0⟩ []).1=C):=aQ
 refine sq<|sg<|Pl 1<|L0<|Oc<|m1 (gF a) fun bt c=>?_
 have bu:=RC.clen a
 refine Pl 2<|cu 6 [20] 26 (((decide (0<((C.l.length:Nat) : Int)))&&(C.e==0))) (fun K a6=>?_) ?_
 refine bl 20 ((decide (0<((C.l.length:Nat) : Int)))) (fun r=>?_) (fun r=>?_)
 have aW:=of_decide_eq_true r
 refine Pl 3<|?_
 exact L1<|e8 (p:=⟨d,3,none⟩) (v:=.int .i64 C.e) (RC.fld (RC.upd a c ay (aE.step (RC.u a) c)))<|Pl 2<|ce a6 (C.e==0) (by rw[r];rfl)
 have aW:=of_decide_eq_false r
 exact Pl 6<|ce a6 false (by rw[r];rfl)
 refine nt<|?_
 have F:=aI aH c
 refine cb (((decide (0<((C.l.length:Nat) : Int)))&&(C.e==0))) (fun g=>?_) (fun g=>?_)
 have S:=(aS g).1
 have T:=(aS g).2
 have bv:=of_decide_eq_true S
 have bw:=al T
 refine bq<|bk<|sg<|Pl 1<|L0<|bI #[.int .u16 0,.int .u16 0,.int .u16 0,.slice none 0 0] fun U bz k a7 V=>L0<|b6 a7 #[.int .u16 0,.int .u16 0,.int .u16 0,.slice none 0 0] fun bA aX G=>nt<|sq<|sg<|Pl 6<|nl<|?_
 refine tn<|c0<|sg<|Pl 1<|?_
 have a8:=ud V G k
 have H:=aI c a8
 refine L0<|Oc<|m5 (tI (RC.upd a H ay (aE.step (RC.u a) H))) fun bB aY aZ b0 b1 t=>?_
 obtain⟨bC,bD⟩:=aY
 obtain⟨bE,bF⟩:=aZ
 obtain⟨bG,bH⟩:=b0
 have y:=nb (RC.lt a4) (le P c.size) k
 refine L0<|b6 (aT t (Ne.symm y) aX) #[.int .u16 ((aL C).file),.int .u16 ((aL C).record),.int .u16 ((aL C).count),.slice none 0 0] fun bJ b2 I=>ng<|Pl 2<|nt<|c1<|sq<|Rg 9 (fun w'=>w'.cell? ⟨U,2,none⟩=some (.int .u16 ((aL C).count))) fun bK z=>?_
 have a9:=ub z b2
 refine bh (ag a9 rfl) fun o=>Rt 0 o<|Rt 1 o<|Rl 2 o (fun _ hs=>hs)<|Rr 3 o (.int .i64 ((aL C).count)) (fun _ _=>cJ (.int .i64 (IntKind.i64.wrap ((aL C).count))) (by kernel_rfl) (congrArg (Value.int .i64) (i64_in (by omega))))<|Rr 4 o (.int .i64 (2*((aL C).count))) (fun _ _=>cJ (.int .i64 (IntKind.i64.wrap (2*((aL C).count)))) (by kernel_rfl) (congrArg (Value.int .i64) (IntWalk.i64_in _ (by omega))))<|Rt 5 o<|?_
 have ab:=aI I z
 have W:=us t ab
 have ad:=ud F (ue a8 W k) N
 have J:=RC.upd b1 ab (aa y ay) ad
 refine R0 6 rfl<|Oc<|m1 (gF J) fun bL f=>?_
 have bM:=RC.clen J
 have ae:=ub f a9
 refine bh (ag ae rfl) fun b3=>Rt 7 b3<|?_
 refine R0 8 rfl<|Oc<|m2 (aV ((decide ((2*((aL C).count))≤(((dv C).l.length:Nat) : Int)))) 5 (RC.upd J f ay (aE.step (RC.u J) f))) fun bN b4 q=>?_
 refine fd b4 fun x93 b5 b8=>?_
 have X:=aT q (Ne.symm y) ae
 refine bh (ag X rfl) fun bO=>re<|tn<|go<|Pl 2<|L0<|aR X 2<|L0<|Oi ((aL C).count)<|L0<|Oc<|lz (fp (n:=(aL C).count) (by omega) b8) fun af ai bP aj bQ bR an D=>Pl 1<|?_
 refine L0<|bS (aT D (Ne.symm y) X) 3 #[.int .u16 ((aL C).file),.int .u16 ((aL C).record),.int .u16 ((aL C).count),.slice af ((x93.wordsR ((aL C).count)).length) ai] fun bT b9 Y=>nt<|go<|Pl 1<|L0<|ch b9<|L0<|dA (m:=1) (e:=109) #[.int .u16 ((aL C).file),.int .u16 ((aL C).record),.int .u16 ((aL C).count),.slice af ((x93.wordsR ((aL C).count)).length) ai] fun bU bV bW ba Z=>?_
 have a0:=aI Y Z
 have bb:=iQ (R:=bp true) (x:=(di.mk ((aL C).file) ((aL C).record) ((aL C).count) (x93.wordsR ((aL C).count)))) ba rfl ⟨_,rfl,((ax aj a0 (fun x hx=>(aa (fun e=>(aA (ak a7) (le (le (le (le (le G.size t.size) I.size) z.size) f.size) q.size) aj) (e▸hx)) ay)) (fun _ _ h=>h))).rd,aB (x:=(aL C).file) (by omega),aB (x:=(aL C).record) (by omega),aB (x:=(aL C).count) (by omega)⟩
 have ao:=uz f (ui q (us D a0))
 have ar:=ue H (ut W ao (ac im (ac im aq))) (le c.size k)
 have au:=ax j ar (fun x hx=>(aa (fun e=>(RC.nrow a j (by decide)) (e▸hx)) ay)) (bp.upd16 ar (am (RC.safe a _ (by decide)) aG))
 refine L0<|g8 (xs:=L) (ys:=([(di.mk ((aL C).file) ((aL C).record) ((aL C).count) (x93.wordsR ((aL C).count)))])) (.agg #[.int .u16 0,.int .u16 0,.int .u16 0,.slice none 0 0]) 4 32 au bb (by simp) bp.ones (fun w' hv=>bp.upd16 hv (cL (de _ au (by decide)) aG)) (by(try simp only[List.length_append,List.length_cons,List.length_nil,aC]);omega) (le (le (le (le (le (le (le (le (le (le (le (le O.size P) c.size) V.size) G.size) t.size) I.size) z.size) f.size) q.size) D.size) Y.size) Z.size) fun bc bd bX bf a1=>Pl 1<|nl<|bn<|?_
 subst b5
 have hC2:(cK s C).2.1=(((dv C).need (decide ((2*((aL C).count))≤(((dv C).l.length:Nat) : Int))) 5).wordsC ((aL C).count)):=by show i1 C=_;(try simp only[i1,gU,n7,g,S,T,bs,if_true,if_false,decide_true,decide_false]);all_goals rfl
 have hM2:[(cK s C).2.2]=[(di.mk ((aL C).file) ((aL C).record) ((aL C).count) (((dv C).need (decide ((2*((aL C).count))≤(((dv C).l.length:Nat) : Int))) 5).wordsR ((aL C).count)))]:=by show[gU C]=_;(try simp only[i1,gU,n7,g,S,T,bs,if_true,if_false,decide_true,decide_false]);all_goals rfl
 have hS2:(cK s C).1=s:=by(try (show s=_));(try simp only[ei,← Int.add_assoc]);all_goals rfl
 have hlt:=oD s C (by omega)
 have h9:=gt (one:=cK) Q (by omega) (by omega) hlt
 rw[hC2,hM2,hS2] at h9
 rw[hC2] at hlt
 have aw:=ut ad (ut (aE.mono (S':=(d :: (U :: (ob B++[])))) ao (ac im (ac im aq))) a1 (av il aq)) (ac (nr N) (ac (ni F.size k) (av (aU j lr) aq)))
 have az:=ue H (u1 W (uz f (u1 q D im)) im) (le c.size k)
 exact fU ((n-1),(((dv C).need (decide ((2*((aL C).count))≤(((dv C).l.length:Nat) : Int))) 5).wordsC ((aL C).count)),(L++[(di.mk ((aL C).file) ((aL C).record) ((aL C).count) (((dv C).need (decide ((2*((aL C).count))≤(((dv C).l.length:Nat) : Int))) 5).wordsR ((aL C).count)))]),bc,bd,s) ⟨aw,(le (le (le (le (le (le (le (le (le (le (le (le P c.size) V.size) G.size) t.size) I.size) z.size) f.size) q.size) D.size) Y.size) Z.size) a1.size),(RC.upd an (ut (aE.mono (S':=(U :: (ob B++[]))) a0 (ac im aq)) a1 (av il aq)) (aa y (bi (RC.nrow an (ax j az (fun x hx=>(aa (fun e=>(RC.nrow a j (by decide)) (e▸hx)) ay)) (bp.upd16 az (am (RC.safe a _ (by decide)) aG))) (by decide)) ay)) aw),bf,(by(try dsimp only);omega),(by(try dsimp only);intro he;omega),(by(try dsimp only);simp only[List.length_append,List.length_cons,List.length_nil];omega),h9⟩ (by omega)
 refine xt<|tx<|tx<|bx<|tn<|sq<|sg<|Pl 3<|?_
 have a2:=RC.upd a c ay (aE.step (RC.u a) c)
 refine L0<|e8 (p:=⟨d,3,none⟩) (v:=.int .i64 C.e) (RC.fld a2)<|Pl 1<|nt<|cb ((C.e==2)) (fun E=>?_) (fun E=>?_)
 have bg:=al E
 refine sg<|Pl 2<|nt<|rt<|tr<|rr (.tuple #[.slice none 0 0,.int .i64 5])<|?_
 obtain⟨gX,gY⟩:=eV Q g
 have hw:bo (aN cK b.length 0 ⟨b,false,0⟩ []).1.e=5:=by unfold bo;rw[gX,if_pos E]
 refine⟨none,0,0,by rw[hw],fun h=>absurd (hw.symm.trans h) (by decide),F⟩
 have bg:=ap E
 refine bq<|sq<|Rg 7 (fun w'=>w'.cell? ⟨d,3,none⟩=some (.int .i64 C.e)) fun bY M=>?_
 refine bh (RC.fld (RC.upd a2 M ay (aE.step (RC.u a2) M))) fun i=>Rt 0 i<|Rt 1 i<|Rt 2 i<|Rt 3 i<|Rl 4 i (fun _ hs=>hs)<|Rt 5 i<|Rt 6 i<|re<|tn<|rt<|rr (.tuple #[.slice B L.length cq,.int .i64 C.e])<|?_
 obtain⟨gX,gY⟩:=eV Q g
 have hw:bo (aN cK b.length 0 ⟨b,false,0⟩ []).1.e=C.e:=by unfold bo;rw[gX,if_neg (by rw[E];decide)]
 have aD:=aI c M
 refine⟨_,_,_,by rw[hw],fun h=>by rw[gY (hw.symm.trans h)];exact(ax j aD (fun x hx=>ay) (bp.upd16 aD aG)),(aI F M)⟩
theorem lc{m:Md}{v:Value}{b:List Int}{w:World}(h:b7 m w v b)(hb:b.length≤1048576) :
    Calls Tryz.prog 163 #[.int .i64 0,.int .u8 20,v] w (fi (aN cN b.length 0 ⟨b,false,0⟩ []) w):=by
  obtain⟨A,cp,rfl,_,_⟩:=h.shape
  exact qS h hb
theorem lb{m:Md}{v:Value}{b:List Int}{w:World}(h:b7 m w v b)(hb:b.length≤1048576) :
    Calls Tryz.prog 163 #[.int .i64 1,.int .u8 20,v] w (fi (aN bG b.length 0 ⟨b,false,0⟩ []) w):=by
  obtain⟨A,cp,rfl,_,_⟩:=h.shape
  exact rK h hb
theorem kz{m:Md}{v:Value}{b:List Int}{w:World}{dir:Int}(h:b7 m w v b)(hb:b.length≤1048576) :
    Calls Tryz.prog 163 #[.int .i64 dir,.int .u8 21,v] w (fi (aN cK b.length 0 ⟨b,false,0⟩ []) w):=by
  obtain⟨A,cp,rfl,_,_⟩:=h.shape
  exact qN h hb
open Go.RowKit
theorem fv{x:Int}(h:bo x=0) : x=0:=by
  unfold bo at h
  split at h
  · cases h
  · exact h
theorem iw{x:Int}(h:¬ bo x=0) : (x != 0)=true:=by
  rw[bne_iff_ne]
  rintro rfl
  exact h rfl
theorem g9:((0:Int)!=0)=false:=rfl
theorem rG{m:Md}{A:Option Addr}{cp:Nat}{b:List Int}{w:World}(hsl:b7 m w (.slice A b.length cp) b)(hb:b.length≤1048576) :
    Calls Tryz.prog 96 #[.int .i64 0,.int .u8 20,.slice A b.length cp] w (dc (.slice A b.length cp) b (bH cN ed 20 b) w):=by
 have hln:(b.length:Int)≤1048576:=by omega
 have hcp:b.length≤cp:=by obtain⟨_,_,hv,h1,_⟩:=aK.shape hsl;injection hv with _ _ h3;omega
 have hrb:=b7.range hsl
 refine en 101 Tryz.func96 rfl<|sg<|L0<|bI mZ fun a9 ab i g j=>Pl 1<|nt<|sq<|sg<|Pl 6<|nt<|c0<|?_
 refine bq<|sq<|sg<|Pl 6<|nt<|c0<|bq<|sq<|sg<|?_
 refine Pl 3<|nt<|cb ((((b.length:Nat) : Int)==0)) (fun a=>?_) (fun a=>?_)
 have J:=al a
 refine sg<|Pl 1<|L0<|b6 g mZ fun ac L M=>Pl 1<|nt<|rt<|tr<|bF L (.int .i64 2)<|?_
 have hs:bH cN ed 20 b=(aP.zero,2):=by
   unfold bH dn cQ ed
   (try simp only[a,bs,if_true,if_false,decide_true,decide_false,g9,reduceIte])
   all_goals rfl
 rw[hs]
 exact bt (ud j M i)
 have J:=ap a
 refine bq<|sg<|Pl 1<|?_
 have t:=b7.old hsl j
 refine fA (b7.at_ t 0 (by omega)) fun N O Q R ad=>L0<|jO b.length 0 Q (by omega)<|L0<|e8 (p:=⟨N,O+0,none⟩) (v:=.int .u8 (b.getD 0 0)) R<|L0<|Oi (b.getD 0 0)<|Pl 1<|ng<|Pl 3<|cu 3 [36] 39 (((decide (9≤(b.getD 0 0)))&&(decide ((b.getD 0 0)≤251)))) (fun K C=>?_) ?_
 refine bl 36 ((decide (9≤(b.getD 0 0)))) (fun l=>?_) (fun l=>?_)
 have S:=of_decide_eq_true l
 exact Pl 3<|ce C (decide ((b.getD 0 0)≤251)) (by rw[l];rfl)
 have S:=of_decide_eq_false l
 exact Pl 3<|ce C false (by rw[l];rfl)
 refine Pl 1<|nt<|sq<|sg<|Pl 6<|nt<|c1<|go<|Pl 3<|cu 3 [48] 51 (((decide (7≤(b.getD 0 0)))&&(decide ((b.getD 0 0)≤245)))) (fun K D=>?_) ?_
 refine bl 48 ((decide (7≤(b.getD 0 0)))) (fun o=>?_) (fun o=>?_)
 have T:=of_decide_eq_true o
 exact Pl 3<|ce D (decide ((b.getD 0 0)≤245)) (by rw[o];rfl)
 have T:=of_decide_eq_false o
 exact Pl 3<|ce D false (by rw[o];rfl)
 refine Pl 1<|cu 4 [52] 56 ((((decide (7≤(b.getD 0 0)))&&(decide ((b.getD 0 0)≤245)))&&(((b.getD 0 0)%7)==0))) (fun K E=>?_) ?_
 refine bl 52 (((decide (7≤(b.getD 0 0)))&&(decide ((b.getD 0 0)≤245)))) (fun q=>?_) (fun q=>?_)
 have U:=(aS q).1
 have V:=(aS q).2
 have ae:=of_decide_eq_true U
 have af:=of_decide_eq_true V
 exact Pl 1<|L1<|Oe (.int .i64 (Int.tmod (b.getD 0 0) 7)) (.int .i64 ((b.getD 0 0)%7)) (congrArg (Value.int .i64) (Int.tmod_eq_emod_of_nonneg (by omega)))<|Pl 2<|ce E (((b.getD 0 0)%7)==0) (by rw[q];rfl)
 exact Pl 4<|ce E false (by rw[q];rfl)
 refine Pl 1<|nt<|sq<|sg<|Pl 6<|nt<|c0<|bq<|sq<|sq<|?_
 refine go<|Pl 2<|nt<|cb ((!(((decide (7≤(b.getD 0 0)))&&(decide ((b.getD 0 0)≤245)))&&(((b.getD 0 0)%7)==0)))) (fun d=>?_) (fun d=>?_)
 have f:(((decide (7≤(b.getD 0 0)))&&(decide ((b.getD 0 0)≤245)))&&(((b.getD 0 0)%7)==0))=false:=by simpa only[Bool.not_eq_true',Bool.not_eq_false'] using d
 refine sg<|Pl 1<|L0<|b6 g mZ fun ag W X=>Pl 1<|nt<|rt<|tr<|bF W (.int .i64 5)<|?_
 have hs:bH cN ed 20 b=(aP.zero,5):=by
   unfold bH dn cQ ed
   (try simp only[a,d,f,bs,if_true,if_false,decide_true,decide_false,g9,reduceIte])
   all_goals rfl
 rw[hs]
 exact bt (ud j X i)
 have f:(((decide (7≤(b.getD 0 0)))&&(decide ((b.getD 0 0)≤245)))&&(((b.getD 0 0)%7)==0))=true:=by simpa only[Bool.not_eq_true',Bool.not_eq_false'] using d
 have k:=(aS f).1
 have r:=(aS f).2
 have q32naa:=(aS k).1
 have q32nab:=(aS k).2
 have q32naap:=of_decide_eq_true q32naa
 have q32nabp:=of_decide_eq_true q32nab
 have q32nbp:=al r
 refine bq<|sq<|sg<|Pl 3<|L0<|Oi ((b.getD 0 0)+1)<|Pl 1<|nt<|cb ((decide (((b.length:Nat) : Int)<((b.getD 0 0)+1)))) (fun h=>?_) (fun h=>?_)
 have Y:=of_decide_eq_true h
 refine sg<|Pl 1<|L0<|b6 g mZ fun ah Z a0=>Pl 1<|nt<|rt<|tr<|bF Z (.int .i64 2)<|?_
 have hs:bH cN ed 20 b=(aP.zero,2):=by
   unfold bH dn cQ ed
   (try simp only[a,d,f,k,q32naa,q32nab,r,h,bs,if_true,if_false,decide_true,decide_false,g9,reduceIte])
   all_goals rfl
 rw[hs]
 exact bt (ud j a0 i)
 have Y:=of_decide_eq_false h
 refine bq<|sg<|Pl 4<|L0<|Oi ((b.getD 0 0)+1)<|lh (gx (P:=Tryz.prog) 22 5 1 Tryz.underlying22 rfl rfl A b.length cp (lo:=1) (up:=((b.getD 0 0)+1)) 1 ((((b.getD 0 0)+1)).toNat) (by omega) (by omega) (by omega) (by omega) (by omega)) fun u hrun43 F=>L0<|ie (.slice u (((((b.getD 0 0)+1)).toNat)-1) (cp-1)) (eT (kl:=.i64) (kh:=.i64) (lo:=1) (hi:=((b.getD 0 0)+1)) (A:=A) (n:=b.length) (c:=cp) rfl Tryz.underlying22 (by kernel_rfl) (by kernel_rfl) (by kernel_rfl) (hrun43 _ _ _))<|?_
 by_cases hE:bo (aN cN (((b.take ((((b.getD 0 0)+1)).toNat)).drop 1)).length 0 ⟨((b.take ((((b.getD 0 0)+1)).toNat)).drop 1),false,0⟩ []).1.e=0
 refine L0<|Oc (args:=#[.int .i64 0,.int .u8 20,.slice u (((((b.getD 0 0)+1)).toNat)-1) (cp-1)])<|e2 (jm (lc (F _ _ _ _ _ t) (by rw[List.length_drop,List.length_take];omega)) hE) fun ai aj y z=>?_
 obtain⟨a1,a2,rfl,an,ao⟩:=aK.shape y.rd
 refine Pl 5<|nt<|sq<|sg<|Pl 2<|nt<|c0<|bq<|sq<|sq<|?_
 refine go<|Pl 3<|L0<|Oi ((b.getD 0 0)+1)<|Pl 1<|nt<|?_
 have G:=aI j z
 refine cb ((decide (((b.getD 0 0)+1)<((b.length:Nat) : Int)))) (fun s=>?_) (fun s=>?_)
 have a3:=of_decide_eq_true s
 refine sg<|Pl 1<|?_
 refine L0<|b6 (ub z g) mZ fun aq a4 a5=>Pl 1<|nt<|rt<|tr<|bF a4 (.int .i64 3)<|?_
 have hE0:(aN cN (((b.take ((((b.getD 0 0)+1)).toNat)).drop 1)).length 0 ⟨((b.take ((((b.getD 0 0)+1)).toNat)).drop 1),false,0⟩ []).1.e=0:=fv hE
 have hs:bH cN ed 20 b=(aP.zero,3):=by
   unfold bH dn cQ ed
   (try simp only[a,d,f,k,q32naa,q32nab,r,h,s,bs,if_true,if_false,decide_true,decide_false,hE0,g9,reduceIte])
   all_goals rfl
 rw[hs]
 exact bt (ud G a5 i)
 have a3:=of_decide_eq_false s
 refine bq<|sg<|Pl 3<|?_
 have H:=ub z g
 refine L0<|b6 H (mG 20 0 0 0 0 0 0 0 0 0 0 0 nS nS nS (.slice a1 ((aN cN (((b.take ((((b.getD 0 0)+1)).toNat)).drop 1)).length 0 ⟨((b.take ((((b.getD 0 0)+1)).toNat)).drop 1),false,0⟩ []).2.length) a2) 0 0 0 0 0 nS) fun ar a6 B=>Pl 1<|nt<|rt<|bF a6 (.int .i64 0)<|?_
 have hE0:(aN cN (((b.take ((((b.getD 0 0)+1)).toNat)).drop 1)).length 0 ⟨((b.take ((((b.getD 0 0)+1)).toNat)).drop 1),false,0⟩ []).1.e=0:=fv hE
 have hs:bH cN ed 20 b=((aP.mk 20 0 0 0 0 0 0 0 0 0 0 0 [] [] [] (aN cN (((b.take ((((b.getD 0 0)+1)).toNat)).drop 1)).length 0 ⟨((b.take ((((b.getD 0 0)+1)).toNat)).drop 1),false,0⟩ []).2 0 0 0 0 0 []),0):=by
   unfold bH dn cQ ed
   (try simp only[a,d,f,k,q32naa,q32nab,r,h,s,bs,if_true,if_false,decide_true,decide_false,hE0,g9,reduceIte])
   all_goals rfl
 rw[hs]
 exact⟨_,rfl,⟨_,_,_,_,_,rfl,aK.nil ..,aK.nil ..,(fun _ _ _=>aK.nil ..),((ax y B (fun x hx=>(aa (fun e=>(aA (ak g) lr y) (e▸hx)) ay)) (bp.upd16 B (am (aQ H (by decide)) aG)))).rd,aK.nil ..,⟨(b8 (x:=20) (by omega)),(b8 (x:=0) (by omega)),(aB (x:=0) (by omega)),(aB (x:=0) (by omega)),(aB (x:=0) (by omega)),(aB (x:=0) (by omega)),(aB (x:=0) (by omega)),(aB (x:=0) (by omega)),(aB (x:=0) (by omega)),(aB (x:=0) (by omega)),(aB (x:=0) (by omega)),(aB (x:=0) (by omega)),(b8 (x:=0) (by omega)),(b8 (x:=0) (by omega)),(b8 (x:=0) (by omega)),(b8 (x:=0) (by omega)),(b8 (x:=0) (by omega))⟩⟩,(ud G B i)⟩
 refine L0<|Oc (args:=#[.int .i64 0,.int .u8 20,.slice u (((((b.getD 0 0)+1)).toNat)-1) (cp-1)])<|?_
 refine(ip (lc (F _ _ _ _ _ t) (by rw[List.length_drop,List.length_take];omega))).mono ?_
 rintro _ au ⟨av,aw,az,rfl,I⟩
 refine⟨_,rfl,?_⟩
 have hE1:(bo (aN cN (((b.take ((((b.getD 0 0)+1)).toNat)).drop 1)).length 0 ⟨((b.take ((((b.getD 0 0)+1)).toNat)).drop 1),false,0⟩ []).1.e != 0)=true:=by simpa using hE
 refine Pl 5<|nt<|sq<|sg<|Pl 2<|nt<|ct hE1<|sg<|Pl 2<|?_
 refine L0<|b6 (ub I g) mZ fun aC a7 a8=>Pl 1<|nt<|rt<|tr<|bF a7 (.int .i64 (bo (aN cN (((b.take ((((b.getD 0 0)+1)).toNat)).drop 1)).length 0 ⟨((b.take ((((b.getD 0 0)+1)).toNat)).drop 1),false,0⟩ []).1.e))<|?_
 have hE3:((aN cN (((b.take ((((b.getD 0 0)+1)).toNat)).drop 1)).length 0 ⟨((b.take ((((b.getD 0 0)+1)).toNat)).drop 1),false,0⟩ []).1.e != 0)=true:=iw hE
 have hs:bH cN ed 20 b=(aP.zero,bo (aN cN (((b.take ((((b.getD 0 0)+1)).toNat)).drop 1)).length 0 ⟨((b.take ((((b.getD 0 0)+1)).toNat)).drop 1),false,0⟩ []).1.e):=by
   unfold bH dn cQ ed
   (try simp only[a,d,f,k,q32naa,q32nab,r,h,hE1,bs,if_true,if_false,decide_true,decide_false,hE3,g9,reduceIte])
   all_goals rfl
 rw[hs]
 exact bt (ud j (uz I a8) i)
theorem rq{m:Md}{A:Option Addr}{cp:Nat}{b:List Int}{w:World}(hsl:b7 m w (.slice A b.length cp) b)(hb:b.length≤1048576) :
    Calls Tryz.prog 96 #[.int .i64 1,.int .u8 20,.slice A b.length cp] w (dc (.slice A b.length cp) b (bH bG eb 20 b) w):=by
 have hln:(b.length:Int)≤1048576:=by omega
 have hcp:b.length≤cp:=by obtain⟨_,_,hv,h1,_⟩:=aK.shape hsl;injection hv with _ _ h3;omega
 have hrb:=b7.range hsl
 refine en 101 Tryz.func96 rfl<|sg<|L0<|bI mZ fun a5 a6 i g j=>Pl 1<|nt<|sq<|sg<|Pl 6<|nt<|c0<|?_
 refine bq<|sq<|sg<|Pl 6<|nt<|c0<|bq<|sq<|sg<|?_
 refine Pl 3<|nt<|cb ((((b.length:Nat) : Int)==0)) (fun a=>?_) (fun a=>?_)
 have H:=al a
 refine sg<|Pl 1<|L0<|b6 g mZ fun a7 I J=>Pl 1<|nt<|rt<|tr<|bF I (.int .i64 2)<|?_
 have hs:bH bG eb 20 b=(aP.zero,2):=by
   unfold bH dn cQ eb
   (try simp only[a,bs,if_true,if_false,decide_true,decide_false,g9,reduceIte])
   all_goals rfl
 rw[hs]
 exact bt (ud j J i)
 have H:=ap a
 refine bq<|sg<|Pl 1<|?_
 have s:=b7.old hsl j
 refine fA (b7.at_ s 0 (by omega)) fun L M N O a8=>L0<|jO b.length 0 N (by omega)<|L0<|e8 (p:=⟨L,M+0,none⟩) (v:=.int .u8 (b.getD 0 0)) O<|L0<|Oi (b.getD 0 0)<|Pl 1<|ng<|Pl 3<|cu 3 [36] 39 (((decide (9≤(b.getD 0 0)))&&(decide ((b.getD 0 0)≤251)))) (fun K B=>?_) ?_
 refine bl 36 ((decide (9≤(b.getD 0 0)))) (fun k=>?_) (fun k=>?_)
 have Q:=of_decide_eq_true k
 exact Pl 3<|ce B (decide ((b.getD 0 0)≤251)) (by rw[k];rfl)
 have Q:=of_decide_eq_false k
 exact Pl 3<|ce B false (by rw[k];rfl)
 refine Pl 1<|nt<|sq<|sg<|Pl 6<|nt<|c0<|bq<|sq<|sq<|?_
 refine go<|Pl 6<|nt<|c1<|go<|Pl 3<|cu 3 [65] 68 (((decide (4≤(b.getD 0 0)))&&(decide ((b.getD 0 0)≤245)))) (fun K C=>?_) ?_
 refine bl 65 ((decide (4≤(b.getD 0 0)))) (fun l=>?_) (fun l=>?_)
 have R:=of_decide_eq_true l
 exact Pl 3<|ce C (decide ((b.getD 0 0)≤245)) (by rw[l];rfl)
 have R:=of_decide_eq_false l
 exact Pl 3<|ce C false (by rw[l];rfl)
 refine Pl 1<|nt<|sq<|sg<|Pl 2<|nt<|cb ((!((decide (4≤(b.getD 0 0)))&&(decide ((b.getD 0 0)≤245))))) (fun d=>?_) (fun d=>?_)
 have f:((decide (4≤(b.getD 0 0)))&&(decide ((b.getD 0 0)≤245)))=false:=by simpa only[Bool.not_eq_true',Bool.not_eq_false'] using d
 refine sg<|Pl 1<|L0<|b6 g mZ fun a9 S T=>Pl 1<|nt<|rt<|tr<|bF S (.int .i64 5)<|?_
 have hs:bH bG eb 20 b=(aP.zero,5):=by
   unfold bH dn cQ eb
   (try simp only[a,d,f,bs,if_true,if_false,decide_true,decide_false,g9,reduceIte])
   all_goals rfl
 rw[hs]
 exact bt (ud j T i)
 have f:((decide (4≤(b.getD 0 0)))&&(decide ((b.getD 0 0)≤245)))=true:=by simpa only[Bool.not_eq_true',Bool.not_eq_false'] using d
 have o:=(aS f).1
 have q:=(aS f).2
 have q30nap:=of_decide_eq_true o
 have q30nbp:=of_decide_eq_true q
 refine bq<|sq<|sg<|Pl 3<|L0<|Oi ((b.getD 0 0)+1)<|Pl 1<|nt<|cb ((decide (((b.length:Nat) : Int)<((b.getD 0 0)+1)))) (fun h=>?_) (fun h=>?_)
 have U:=of_decide_eq_true h
 refine sg<|Pl 1<|L0<|b6 g mZ fun ab V W=>Pl 1<|nt<|rt<|tr<|bF V (.int .i64 2)<|?_
 have hs:bH bG eb 20 b=(aP.zero,2):=by
   unfold bH dn cQ eb
   (try simp only[a,d,f,o,q,h,bs,if_true,if_false,decide_true,decide_false,g9,reduceIte])
   all_goals rfl
 rw[hs]
 exact bt (ud j W i)
 have U:=of_decide_eq_false h
 refine bq<|sg<|Pl 4<|L0<|Oi ((b.getD 0 0)+1)<|lh (gx (P:=Tryz.prog) 22 5 1 Tryz.underlying22 rfl rfl A b.length cp (lo:=1) (up:=((b.getD 0 0)+1)) 1 ((((b.getD 0 0)+1)).toNat) (by omega) (by omega) (by omega) (by omega) (by omega)) fun t hrun41 D=>L0<|ie (.slice t (((((b.getD 0 0)+1)).toNat)-1) (cp-1)) (eT (kl:=.i64) (kh:=.i64) (lo:=1) (hi:=((b.getD 0 0)+1)) (A:=A) (n:=b.length) (c:=cp) rfl Tryz.underlying22 (by kernel_rfl) (by kernel_rfl) (by kernel_rfl) (hrun41 _ _ _))<|?_
 by_cases hE:bo (aN bG (((b.take ((((b.getD 0 0)+1)).toNat)).drop 1)).length 0 ⟨((b.take ((((b.getD 0 0)+1)).toNat)).drop 1),false,0⟩ []).1.e=0
 refine L0<|Oc (args:=#[.int .i64 1,.int .u8 20,.slice t (((((b.getD 0 0)+1)).toNat)-1) (cp-1)])<|e2 (jm (lb (D _ _ _ _ _ s) (by rw[List.length_drop,List.length_take];omega)) hE) fun ac ad u y=>?_
 obtain⟨X,Y,rfl,ae,af⟩:=aK.shape u.rd
 refine Pl 5<|nt<|sq<|sg<|Pl 2<|nt<|c0<|bq<|sq<|sq<|?_
 refine go<|Pl 3<|L0<|Oi ((b.getD 0 0)+1)<|Pl 1<|nt<|?_
 have E:=aI j y
 refine cb ((decide (((b.getD 0 0)+1)<((b.length:Nat) : Int)))) (fun r=>?_) (fun r=>?_)
 have Z:=of_decide_eq_true r
 refine sg<|Pl 1<|?_
 refine L0<|b6 (ub y g) mZ fun ag a0 a1=>Pl 1<|nt<|rt<|tr<|bF a0 (.int .i64 3)<|?_
 have hE0:(aN bG (((b.take ((((b.getD 0 0)+1)).toNat)).drop 1)).length 0 ⟨((b.take ((((b.getD 0 0)+1)).toNat)).drop 1),false,0⟩ []).1.e=0:=fv hE
 have hs:bH bG eb 20 b=(aP.zero,3):=by
   unfold bH dn cQ eb
   (try simp only[a,d,f,o,q,h,r,bs,if_true,if_false,decide_true,decide_false,hE0,g9,reduceIte])
   all_goals rfl
 rw[hs]
 exact bt (ud E a1 i)
 have Z:=of_decide_eq_false r
 refine bq<|sg<|Pl 3<|?_
 have F:=ub y g
 refine L0<|b6 F (mG 20 0 0 0 0 0 0 0 0 0 0 0 nS nS nS (.slice X ((aN bG (((b.take ((((b.getD 0 0)+1)).toNat)).drop 1)).length 0 ⟨((b.take ((((b.getD 0 0)+1)).toNat)).drop 1),false,0⟩ []).2.length) Y) 0 0 0 0 0 nS) fun ah a2 z=>Pl 1<|nt<|rt<|bF a2 (.int .i64 0)<|?_
 have hE0:(aN bG (((b.take ((((b.getD 0 0)+1)).toNat)).drop 1)).length 0 ⟨((b.take ((((b.getD 0 0)+1)).toNat)).drop 1),false,0⟩ []).1.e=0:=fv hE
 have hs:bH bG eb 20 b=((aP.mk 20 0 0 0 0 0 0 0 0 0 0 0 [] [] [] (aN bG (((b.take ((((b.getD 0 0)+1)).toNat)).drop 1)).length 0 ⟨((b.take ((((b.getD 0 0)+1)).toNat)).drop 1),false,0⟩ []).2 0 0 0 0 0 []),0):=by
   unfold bH dn cQ eb
   (try simp only[a,d,f,o,q,h,r,bs,if_true,if_false,decide_true,decide_false,hE0,g9,reduceIte])
   all_goals rfl
 rw[hs]
 exact⟨_,rfl,⟨_,_,_,_,_,rfl,aK.nil ..,aK.nil ..,(fun _ _ _=>aK.nil ..),((ax u z (fun x hx=>(aa (fun e=>(aA (ak g) lr u) (e▸hx)) ay)) (bp.upd16 z (am (aQ F (by decide)) aG)))).rd,aK.nil ..,⟨(b8 (x:=20) (by omega)),(b8 (x:=0) (by omega)),(aB (x:=0) (by omega)),(aB (x:=0) (by omega)),(aB (x:=0) (by omega)),(aB (x:=0) (by omega)),(aB (x:=0) (by omega)),(aB (x:=0) (by omega)),(aB (x:=0) (by omega)),(aB (x:=0) (by omega)),(aB (x:=0) (by omega)),(aB (x:=0) (by omega)),(b8 (x:=0) (by omega)),(b8 (x:=0) (by omega)),(b8 (x:=0) (by omega)),(b8 (x:=0) (by omega)),(b8 (x:=0) (by omega))⟩⟩,(ud E z i)⟩
 refine L0<|Oc (args:=#[.int .i64 1,.int .u8 20,.slice t (((((b.getD 0 0)+1)).toNat)-1) (cp-1)])<|?_
 refine(ip (lb (D _ _ _ _ _ s) (by rw[List.length_drop,List.length_take];omega))).mono ?_
 rintro _ ai ⟨aj,an,ao,rfl,G⟩
 refine⟨_,rfl,?_⟩
 have hE1:(bo (aN bG (((b.take ((((b.getD 0 0)+1)).toNat)).drop 1)).length 0 ⟨((b.take ((((b.getD 0 0)+1)).toNat)).drop 1),false,0⟩ []).1.e != 0)=true:=by simpa using hE
 refine Pl 5<|nt<|sq<|sg<|Pl 2<|nt<|ct hE1<|sg<|Pl 2<|?_
 refine L0<|b6 (ub G g) mZ fun aq a3 a4=>Pl 1<|nt<|rt<|tr<|bF a3 (.int .i64 (bo (aN bG (((b.take ((((b.getD 0 0)+1)).toNat)).drop 1)).length 0 ⟨((b.take ((((b.getD 0 0)+1)).toNat)).drop 1),false,0⟩ []).1.e))<|?_
 have hE3:((aN bG (((b.take ((((b.getD 0 0)+1)).toNat)).drop 1)).length 0 ⟨((b.take ((((b.getD 0 0)+1)).toNat)).drop 1),false,0⟩ []).1.e != 0)=true:=iw hE
 have hs:bH bG eb 20 b=(aP.zero,bo (aN bG (((b.take ((((b.getD 0 0)+1)).toNat)).drop 1)).length 0 ⟨((b.take ((((b.getD 0 0)+1)).toNat)).drop 1),false,0⟩ []).1.e):=by
   unfold bH dn cQ eb
   (try simp only[a,d,f,o,q,h,hE1,bs,if_true,if_false,decide_true,decide_false,hE3,g9,reduceIte])
   all_goals rfl
 rw[hs]
 exact bt (ud j (uz G a4) i)
theorem s9{m:Md}{A:Option Addr}{cp:Nat}{b:List Int}{w:World}{dir:Int}(hd:dir=0∨dir=1)(hsl:b7 m w (.slice A b.length cp) b)(hb:b.length≤1048576) :
    Calls Tryz.prog 96 #[.int .i64 dir,.int .u8 21,.slice A b.length cp] w (dc (.slice A b.length cp) b (bH cK ee 21 b) w):=by
 have hln:(b.length:Int)≤1048576:=by omega
 have hcp:b.length≤cp:=by obtain⟨_,_,hv,h1,_⟩:=aK.shape hsl;injection hv with _ _ h3;omega
 have hrb:=b7.range hsl
 have g:((dir != 0)&&(dir != 1))=false:=by rcases hd with rfl | rfl<;>rfl
 refine en 101 Tryz.func96 rfl<|sg<|L0<|bI mZ fun a6 a7 j h k=>Pl 1<|nt<|sq<|sg<|Pl 3<|cu 3 [14] 17 (((dir != 0)&&(dir != 1))) (fun K C=>?_) ?_
 refine bl 14 ((dir != 0)) (fun l=>?_) (fun l=>?_)
 have I:=au l
 exact Pl 3<|ce C (dir != 1) (by rw[l];rfl)
 have I:=ai l
 exact Pl 3<|ce C false (by rw[l];rfl)
 refine nt<|cf g<|bq<|sq<|sg<|Pl 6<|nt<|c0<|bq<|?_
 refine sq<|sg<|Pl 3<|nt<|cb ((((b.length:Nat) : Int)==0)) (fun a=>?_) (fun a=>?_)
 have J:=al a
 refine sg<|Pl 1<|L0<|b6 h mZ fun a8 L M=>Pl 1<|nt<|rt<|tr<|bF L (.int .i64 2)<|?_
 have hs:bH cK ee 21 b=(aP.zero,2):=by
   unfold bH dn cQ ee
   (try simp only[g,a,bs,if_true,if_false,decide_true,decide_false,g9,reduceIte])
   all_goals rfl
 rw[hs]
 exact bt (ud k M j)
 have J:=ap a
 refine bq<|sg<|Pl 1<|?_
 have t:=b7.old hsl k
 refine fA (b7.at_ t 0 (by omega)) fun N O Q R a9=>L0<|jO b.length 0 Q (by omega)<|L0<|e8 (p:=⟨N,O+0,none⟩) (v:=.int .u8 (b.getD 0 0)) R<|L0<|Oi (b.getD 0 0)<|Pl 1<|ng<|Pl 3<|cu 3 [36] 39 (((decide (9≤(b.getD 0 0)))&&(decide ((b.getD 0 0)≤251)))) (fun K D=>?_) ?_
 refine bl 36 ((decide (9≤(b.getD 0 0)))) (fun o=>?_) (fun o=>?_)
 have S:=of_decide_eq_true o
 exact Pl 3<|ce D (decide ((b.getD 0 0)≤251)) (by rw[o];rfl)
 have S:=of_decide_eq_false o
 exact Pl 3<|ce D false (by rw[o];rfl)
 refine Pl 1<|nt<|sq<|sg<|Pl 6<|nt<|c0<|bq<|sq<|sq<|?_
 refine go<|Pl 6<|nt<|c0<|bq<|sq<|sg<|Pl 2<|nt<|cb ((!((decide (9≤(b.getD 0 0)))&&(decide ((b.getD 0 0)≤251))))) (fun d=>?_) (fun d=>?_)
 have f:((decide (9≤(b.getD 0 0)))&&(decide ((b.getD 0 0)≤251)))=false:=by simpa only[Bool.not_eq_true',Bool.not_eq_false'] using d
 refine sg<|Pl 1<|L0<|b6 h mZ fun ab T U=>Pl 1<|nt<|rt<|tr<|bF T (.int .i64 5)<|?_
 have hs:bH cK ee 21 b=(aP.zero,5):=by
   unfold bH dn cQ ee
   (try simp only[g,a,d,f,bs,if_true,if_false,decide_true,decide_false,g9,reduceIte])
   all_goals rfl
 rw[hs]
 exact bt (ud k U j)
 have f:((decide (9≤(b.getD 0 0)))&&(decide ((b.getD 0 0)≤251)))=true:=by simpa only[Bool.not_eq_true',Bool.not_eq_false'] using d
 have q:=(aS f).1
 have r:=(aS f).2
 have q30nap:=of_decide_eq_true q
 have q30nbp:=of_decide_eq_true r
 refine bq<|sq<|sg<|Pl 3<|L0<|Oi ((b.getD 0 0)+1)<|Pl 1<|nt<|cb ((decide (((b.length:Nat) : Int)<((b.getD 0 0)+1)))) (fun i=>?_) (fun i=>?_)
 have V:=of_decide_eq_true i
 refine sg<|Pl 1<|L0<|b6 h mZ fun ac W X=>Pl 1<|nt<|rt<|tr<|bF W (.int .i64 2)<|?_
 have hs:bH cK ee 21 b=(aP.zero,2):=by
   unfold bH dn cQ ee
   (try simp only[g,a,d,f,q,r,i,bs,if_true,if_false,decide_true,decide_false,g9,reduceIte])
   all_goals rfl
 rw[hs]
 exact bt (ud k X j)
 have V:=of_decide_eq_false i
 refine bq<|sg<|Pl 4<|L0<|Oi ((b.getD 0 0)+1)<|lh (gx (P:=Tryz.prog) 22 5 1 Tryz.underlying22 rfl rfl A b.length cp (lo:=1) (up:=((b.getD 0 0)+1)) 1 ((((b.getD 0 0)+1)).toNat) (by omega) (by omega) (by omega) (by omega) (by omega)) fun u hrun41 E=>L0<|ie (.slice u (((((b.getD 0 0)+1)).toNat)-1) (cp-1)) (eT (kl:=.i64) (kh:=.i64) (lo:=1) (hi:=((b.getD 0 0)+1)) (A:=A) (n:=b.length) (c:=cp) rfl Tryz.underlying22 (by kernel_rfl) (by kernel_rfl) (by kernel_rfl) (hrun41 _ _ _))<|?_
 by_cases hE:bo (aN cK (((b.take ((((b.getD 0 0)+1)).toNat)).drop 1)).length 0 ⟨((b.take ((((b.getD 0 0)+1)).toNat)).drop 1),false,0⟩ []).1.e=0
 refine L0<|Oc (args:=#[.int .i64 dir,.int .u8 21,.slice u (((((b.getD 0 0)+1)).toNat)-1) (cp-1)])<|e2 (jm (kz (E _ _ _ _ _ t) (by rw[List.length_drop,List.length_take];omega)) hE) fun ad ae y z=>?_
 obtain⟨Y,Z,rfl,af,ag⟩:=aK.shape y.rd
 refine Pl 5<|nt<|sq<|sg<|Pl 2<|nt<|c0<|bq<|sq<|sq<|?_
 refine go<|Pl 3<|L0<|Oi ((b.getD 0 0)+1)<|Pl 1<|nt<|?_
 have F:=aI k z
 refine cb ((decide (((b.getD 0 0)+1)<((b.length:Nat) : Int)))) (fun s=>?_) (fun s=>?_)
 have a0:=of_decide_eq_true s
 refine sg<|Pl 1<|?_
 refine L0<|b6 (ub z h) mZ fun ah a1 a2=>Pl 1<|nt<|rt<|tr<|bF a1 (.int .i64 3)<|?_
 have hE0:(aN cK (((b.take ((((b.getD 0 0)+1)).toNat)).drop 1)).length 0 ⟨((b.take ((((b.getD 0 0)+1)).toNat)).drop 1),false,0⟩ []).1.e=0:=fv hE
 have hs:bH cK ee 21 b=(aP.zero,3):=by
   unfold bH dn cQ ee
   (try simp only[g,a,d,f,q,r,i,s,bs,if_true,if_false,decide_true,decide_false,hE0,g9,reduceIte])
   all_goals rfl
 rw[hs]
 exact bt (ud F a2 j)
 have a0:=of_decide_eq_false s
 refine bq<|sg<|Pl 3<|?_
 have G:=ub z h
 refine L0<|b6 G (mG 21 0 0 0 0 0 0 0 0 0 0 0 nS nS nS (.slice Y ((aN cK (((b.take ((((b.getD 0 0)+1)).toNat)).drop 1)).length 0 ⟨((b.take ((((b.getD 0 0)+1)).toNat)).drop 1),false,0⟩ []).2.length) Z) 0 0 0 0 0 nS) fun aj a3 B=>Pl 1<|nt<|rt<|bF a3 (.int .i64 0)<|?_
 have hE0:(aN cK (((b.take ((((b.getD 0 0)+1)).toNat)).drop 1)).length 0 ⟨((b.take ((((b.getD 0 0)+1)).toNat)).drop 1),false,0⟩ []).1.e=0:=fv hE
 have hs:bH cK ee 21 b=((aP.mk 21 0 0 0 0 0 0 0 0 0 0 0 [] [] [] (aN cK (((b.take ((((b.getD 0 0)+1)).toNat)).drop 1)).length 0 ⟨((b.take ((((b.getD 0 0)+1)).toNat)).drop 1),false,0⟩ []).2 0 0 0 0 0 []),0):=by
   unfold bH dn cQ ee
   (try simp only[g,a,d,f,q,r,i,s,bs,if_true,if_false,decide_true,decide_false,hE0,g9,reduceIte])
   all_goals rfl
 rw[hs]
 exact⟨_,rfl,⟨_,_,_,_,_,rfl,aK.nil ..,aK.nil ..,(fun _ _ _=>aK.nil ..),((ax y B (fun x hx=>(aa (fun e=>(aA (ak h) lr y) (e▸hx)) ay)) (bp.upd16 B (am (aQ G (by decide)) aG)))).rd,aK.nil ..,⟨(b8 (x:=21) (by omega)),(b8 (x:=0) (by omega)),(aB (x:=0) (by omega)),(aB (x:=0) (by omega)),(aB (x:=0) (by omega)),(aB (x:=0) (by omega)),(aB (x:=0) (by omega)),(aB (x:=0) (by omega)),(aB (x:=0) (by omega)),(aB (x:=0) (by omega)),(aB (x:=0) (by omega)),(aB (x:=0) (by omega)),(b8 (x:=0) (by omega)),(b8 (x:=0) (by omega)),(b8 (x:=0) (by omega)),(b8 (x:=0) (by omega)),(b8 (x:=0) (by omega))⟩⟩,(ud F B j)⟩
 refine L0<|Oc (args:=#[.int .i64 dir,.int .u8 21,.slice u (((((b.getD 0 0)+1)).toNat)-1) (cp-1)])<|?_
 refine(ip (kz (E _ _ _ _ _ t) (by rw[List.length_drop,List.length_take];omega))).mono ?_
 rintro _ an ⟨ao,aq,ar,rfl,H⟩
 refine⟨_,rfl,?_⟩
 have hE1:(bo (aN cK (((b.take ((((b.getD 0 0)+1)).toNat)).drop 1)).length 0 ⟨((b.take ((((b.getD 0 0)+1)).toNat)).drop 1),false,0⟩ []).1.e != 0)=true:=by simpa using hE
 refine Pl 5<|nt<|sq<|sg<|Pl 2<|nt<|ct hE1<|sg<|Pl 2<|?_
 refine L0<|b6 (ub H h) mZ fun av a4 a5=>Pl 1<|nt<|rt<|tr<|bF a4 (.int .i64 (bo (aN cK (((b.take ((((b.getD 0 0)+1)).toNat)).drop 1)).length 0 ⟨((b.take ((((b.getD 0 0)+1)).toNat)).drop 1),false,0⟩ []).1.e))<|?_
 have hE3:((aN cK (((b.take ((((b.getD 0 0)+1)).toNat)).drop 1)).length 0 ⟨((b.take ((((b.getD 0 0)+1)).toNat)).drop 1),false,0⟩ []).1.e != 0)=true:=iw hE
 have hs:bH cK ee 21 b=(aP.zero,bo (aN cK (((b.take ((((b.getD 0 0)+1)).toNat)).drop 1)).length 0 ⟨((b.take ((((b.getD 0 0)+1)).toNat)).drop 1),false,0⟩ []).1.e):=by
   unfold bH dn cQ ee
   (try simp only[g,a,d,f,q,r,i,hE1,bs,if_true,if_false,decide_true,decide_false,hE3,g9,reduceIte])
   all_goals rfl
 rw[hs]
 exact bt (ud k (uz H a5) j)
theorem pF{A:Option Addr}{cp:Nat}{b:List Int}{w:World}{dir c:Int}(hd:dir=0∨dir=1)(hc:¬ c=20∧¬ c=21) :
    Calls Tryz.prog 96 #[.int .i64 dir,.int .u8 c,.slice A b.length cp] w (dc (.slice A b.length cp) b (aP.zero,4) w):=by
 have g:((dir != 0)&&(dir != 1))=false:=by rcases hd with rfl | rfl<;>rfl
 have e2:((c != 20)&&(c != 21))=true:=by simp[hc.1,hc.2]
 refine en 101 Tryz.func96 rfl<|sg<|L0<|bI mZ fun o p h i j=>Pl 1<|nt<|sq<|sg<|Pl 3<|cu 3 [14] 17 (((dir != 0)&&(dir != 1))) (fun K e=>?_) ?_
 refine bl 14 ((dir != 0)) (fun a=>?_) (fun a=>?_)
 have k:=au a
 exact Pl 3<|ce e (dir != 1) (by rw[a];rfl)
 have k:=ai a
 exact Pl 3<|ce e false (by rw[a];rfl)
 refine nt<|cf g<|bq<|sq<|sg<|Pl 3<|cu 3 [21] 24 (((c != 20)&&(c != 21))) (fun K f=>?_) ?_
 refine bl 21 ((c != 20)) (fun d=>?_) (fun d=>?_)
 have l:=au d
 exact Pl 3<|ce f (c != 21) (by rw[d];rfl)
 have l:=ai d
 exact Pl 3<|ce f false (by rw[d];rfl)
 refine nt<|ct e2<|sg<|Pl 1<|L0<|b6 i mZ fun q m n=>Pl 1<|nt<|rt<|tr<|bF m (.int .i64 4)<|?_
 exact bt (ud j n h)
theorem rU{A:Option Addr}{cp:Nat}{b:List Int}{w:World}{dir c:Int}(hd:¬ (dir=0∨dir=1)) :
    Calls Tryz.prog 96 #[.int .i64 dir,.int .u8 c,.slice A b.length cp] w (dc (.slice A b.length cp) b (aP.zero,1) w):=by
 have e:((dir != 0)&&(dir != 1))=true:=by simp;omega
 refine en 101 Tryz.func96 rfl<|sg<|L0<|bI mZ fun l m f g h=>Pl 1<|nt<|sq<|sg<|Pl 3<|cu 3 [14] 17 (((dir != 0)&&(dir != 1))) (fun K d=>?_) ?_
 refine bl 14 ((dir != 0)) (fun a=>?_) (fun a=>?_)
 have i:=au a
 exact Pl 3<|ce d (dir != 1) (by rw[a];rfl)
 have i:=ai a
 exact Pl 3<|ce d false (by rw[a];rfl)
 refine nt<|ct e<|sg<|Pl 1<|L0<|b6 g mZ fun n j k=>Pl 1<|nt<|rt<|tr<|bF j (.int .i64 1)<|?_
 exact bt (ud h k f)
theorem nV{dir c:Int}{b:List Int}(hd:dir=0∨dir=1)(hc:¬ c=20∧¬ c=21) : ae aY dir c b=(aP.zero,4):=by
  unfold ae aY
  rw[if_pos hd,if_neg (by simpa using hc.1),if_neg (by simpa using hc.2)]
theorem qj{form:Int→Int→ah→Option (ah × aP)}{dir c:Int}{b:List Int}(hd:¬ (dir=0∨dir=1)) : ae form dir c b=(aP.zero,1):=by
  unfold ae
  rw[if_neg hd]
theorem lS{m:Md}{v:Value}{b:List Int}{w:World}{dir c:Int}(hc:B8 c)(h:b7 m w v b)(hb:b.length≤1048576) :
    Calls Tryz.prog 96 #[.int .i64 dir,.int .u8 c,v] w (dc v b (ae aY dir c b) w):=by
  have hr:=b7.range h
  obtain⟨A,cp,rfl,_,_⟩:=h.shape
  by_cases hd:dir=0∨dir=1
  · by_cases a:c=20
    · subst a
      rcases hd with rfl|rfl
      · rw[ot hr];exact rG h hb
      · rw[nM hr];exact rq h hb
    · by_cases d:c=21
      · subst d
        rw[s6 hd hr];exact s9 hd h hb
      · rw[nV hd ⟨a,d⟩];exact pF hd ⟨a,d⟩
  · rw[qj hd];exact rU hd
open Go.RowKit
theorem rg{k i:Nat}{C:ah}{L:List Obj}{R:ah × List Obj}(h:ej (k-i) C L=R)(hk:k-i=0) : R=(C,L):=by
  rw[hk] at h
  exact h.symm
theorem kf{m:Md}{A:Option Addr}{cp:Nat}{b:List Int}{w:World}{c:Int}(hcode:B8 c)(hsl:b7 m w (.slice A b.length cp) b)(hb:b.length≤1048576) :
    Calls Tryz.prog 97 #[.int .i64 0,.int .u8 c,.slice A b.length cp] w (dc (.slice A b.length cp) b (ae bM 0 c b) w):=by
 obtain⟨hcode1,hcode2⟩:=hcode
 have hln:(b.length:Int)≤1048576:=by omega
 refine en 176 Tryz.func97 rfl<|sg<|L0<|bI mZ fun bB bC r k a=>Pl 1<|nt<|sq<|sg<|Pl 6<|nt<|c0<|?_
 refine bq<|sq<|sg<|Pl 2<|nt<|cb ((c != 43)) (fun j=>?_) (fun j=>?_)
 have aL:=au j
 refine sg<|Pl 1<|L0<|b6 k mZ fun bD aM aN=>Pl 1<|nt<|rt<|tr<|bF aM (.int .i64 4)<|?_
 have hs:ae bM 0 c b=(aP.zero,4):=by
   unfold ae bM da fF eO eM eo dV ef dq
   (try simp only[j,bs,if_true,if_false,decide_true,decide_false,eq_self,true_or,or_true,or_false,false_or,if_true,if_false,bZ,bX,cc,bY,reduceIte])
   all_goals rfl
 rw[hs]
 exact bt (ud a aN r)
 have aL:=ai j
 refine bq<|sg<|Pl 2<|L0<|dx #[.slice A b.length cp,.int .i64 0,.bool false,.int .i64 0] fun s bE d Y i=>Pl 1<|ng<|Pl 1<|L0<|bI mZ fun bG bH h aO aQ=>L0<|b6 aO (mC 43) fun aS aU aW=>?_
 refine ng<|Pl 1<|?_
 have Z:=ud aQ aW h
 have t:=aI i Z
 have a0:=aI a t
 have aX:RC w _ A cp b aS s (ah.mk b false 0):=⟨hsl,a0,(Nat.le_trans a.size d),⟨0,(ub Z Y),Nat.zero_le _,rfl⟩,by omega⟩
 refine L0<|Oc<|m3 (dI aX) fun bJ aY a1 bK=>Pl 1<|?_
 have f:=nb (ak Y) lr h
 refine L0<|bS (aT a1 (Ne.symm f) aU) 16 (mG 43 0 0 0 0 0 0 0 0 0 0 0 nS nS nS nS ((ah.mk b false 0).byteV) 0 0 0 0 nS) fun bL N a2=>ng<|Pl 2<|L0<|aR N 16<|Pl 2<|cu 4 [38] 42 (((((ah.mk b false 0).byteV)==13)||(((ah.mk b false 0).byteV)==14))) (fun K a3=>?_) ?_
 refine bl 38 ((((ah.mk b false 0).byteV)==13)) (fun y=>?_) (fun y=>?_)
 have aZ:=al y
 exact Pl 4<|ce a3 true (by rw[y];rfl)
 have aZ:=ap y
 exact Pl 1<|L1<|aR N 16<|Pl 2<|ce a3 (((ah.mk b false 0).byteV)==14) (by rw[y];rfl)
 have z:=us a1 a2
 have a4:=ut a0 z (ac (ni a.size d) (ac (ni (le a.size i.size) h) aq))
 refine L0<|Oc<|m2 (aV (((((ah.mk b false 0).byteV)==13)||(((ah.mk b false 0).byteV)==14))) 8 (RC.upd aY a2 (aa f ay) a4)) fun bN b0 q=>?_
 refine fd b0 fun x55 H B=>?_
 refine nt<|sq<|bk<|sg<|Pl 1<|?_
 have O:=aT q (Ne.symm f) N
 refine L0<|aR O 16<|Pl 2<|nt<|?_
 have a5:=ud a4 q (le a.size d)
 refine cb ((((ah.mk b false 0).byteV)==13)) (fun o=>?_) (fun o=>?_)
 have b1:=al o
 refine sg<|Pl 1<|L0<|Oc<|m1 (gF B) fun bO P=>?_
 have bP:=RC.clen B
 refine Pl 1<|ng<|Pl 3<|?_
 refine L0<|Oc<|m2 (aV ((decide (((x55.l.length:Nat) : Int)≤251))) 5 (RC.upd B P ay (aE.step (RC.u B) P))) fun bQ a6 b2=>nt<|go<|Pl 2<|L0<|Oc<|nk (f6 (n:=((x55.l.length:Nat) : Int)) (by omega) a6) fun a7 a8 bR b3 b4 b5=>?_
 have bT:=Nat.le_trans (ah.bytesR_le (x55.need (decide (((x55.l.length:Nat) : Int)≤251)) 5) ((x55.l.length:Nat) : Int)) (RC.clen a6)
 refine fd b4 fun iW a9 b9=>?_
 refine Pl 1<|?_
 have ab:=uz P (u1 b2 b5 im)
 refine L0<|bS (aT ab (Ne.symm f) O) 14 (mG 43 0 0 0 0 0 0 0 0 0 0 0 nS nS (.slice a7 (((x55.need (decide (((x55.l.length:Nat) : Int)≤251)) 5).bytesR ((x55.l.length:Nat) : Int)).length) a8) nS ((ah.mk b false 0).byteV) 0 0 0 0 nS) fun bU ba ad=>nl<|bn<|tn<|sg<|Pl 1<|?_
 have Q:=us ab ad
 have af:=ut a5 Q (ac (ni a.size d) (ac (ni (le a.size i.size) h) aq))
 refine L0<|Oc<|m2 (dX (RC.upd b9 ad (aa f ay) af)) fun bV R I=>nt<|sq<|sg<|Pl 3<|L0<|e8 (p:=⟨s,3,none⟩) (v:=.int .i64 iW.endC.e) (RC.fld R)<|Pl 1<|nt<|?_
 have ag:=ud af I (le a.size d)
 refine cb ((iW.endC.e != 0)) (fun C=>?_) (fun C=>?_)
 have S:=au C
 refine sq<|Rg 7 (fun w'=>w'.cell? ⟨s,3,none⟩=some (.int .i64 iW.endC.e)) fun bW J=>?_
 have aj:=RC.upd R J ay (aE.step (RC.u R) J)
 refine bh (RC.fld aj) fun D=>Rt 0 D<|Rt 1 D<|Rt 2 D<|Rt 3 D<|Rl 4 D (fun _ hs=>hs)<|?_
 refine R0 5 rfl<|b6 (ub (ut t (ut z (ui q (u1 Q (aI I J) im)) (ac im (ac im aq))) (ac (nr d) (ac (ni i.size h) aq))) k) mZ fun c2 bb am=>?_
 have an:=ud ag (uz J am) r
 refine bh (RC.fld (RC.upd aj am (aa (Ne.symm (nb (ak k) lr d)) ay) an)) fun bc=>Rt 6 bc<|re<|tn<|rt<|tr<|bF bb (.int .i64 iW.endC.e)<|?_
 have hs:ae bM 0 c b=aF (aP.mk 43 0 0 0 0 0 0 0 0 0 0 0 [] [] ((x55.need (decide (((x55.l.length:Nat) : Int)≤251)) 5).bytesR ((x55.l.length:Nat) : Int)) [] ((ah.mk b false 0).byteV) 0 0 0 0 []) iW:=by
   subst a9 H
   unfold ae bM da fF eO eM eo dV ef dq
   (try simp only[j,o,C,bs,if_true,if_false,decide_true,decide_false,eq_self,true_or,or_true,or_false,false_or,if_true,if_false,bZ,bX,cc,bY,reduceIte])
   all_goals rfl
 rw[hs]
 exact bg S an
 have S:=ai C
 refine bq<|sg<|?_
 refine L0<|ch (aT I (Ne.symm f) ba)<|?_
 refine L0<|b6 (ub (ut t (ut z (ui q (u1 Q I im)) (ac im (ac im aq))) (ac (nr d) (ac (ni i.size h) aq))) k) (mG 43 0 0 0 0 0 0 0 0 0 0 0 nS nS (.slice a7 (((x55.need (decide (((x55.l.length:Nat) : Int)≤251)) 5).bytesR ((x55.l.length:Nat) : Int)).length) a8) nS ((ah.mk b false 0).byteV) 0 0 0 0 nS) fun c3 bd be=>Pl 1<|nt<|rt<|bF bd (.int .i64 0)<|?_
 have hs:ae bM 0 c b=aF (aP.mk 43 0 0 0 0 0 0 0 0 0 0 0 [] [] ((x55.need (decide (((x55.l.length:Nat) : Int)≤251)) 5).bytesR ((x55.l.length:Nat) : Int)) [] ((ah.mk b false 0).byteV) 0 0 0 0 []) iW:=by
   subst a9 H
   unfold ae bM da fF eO eM eo dV ef dq
   (try simp only[j,o,C,bs,if_true,if_false,decide_true,decide_false,eq_self,true_or,or_true,or_false,false_or,if_true,if_false,bZ,bX,cc,bY,reduceIte])
   all_goals rfl
 rw[hs]
 exact bj S ⟨_,_,_,_,_,rfl,aK.nil ..,aK.nil ..,b3,aK.nil ..,aK.nil ..,⟨(b8 (x:=43) (by omega)),(b8 (x:=0) (by omega)),(aB (x:=0) (by omega)),(aB (x:=0) (by omega)),(aB (x:=0) (by omega)),(aB (x:=0) (by omega)),(aB (x:=0) (by omega)),(aB (x:=0) (by omega)),(aB (x:=0) (by omega)),(aB (x:=0) (by omega)),(aB (x:=0) (by omega)),(aB (x:=0) (by omega)),(b8 (x:=(ah.mk b false 0).byteV) (by omega)),(b8 (x:=0) (by omega)),(b8 (x:=0) (by omega)),(b8 (x:=0) (by omega)),(b8 (x:=0) (by omega))⟩⟩ (ud ag be r)
 have b1:=ap o
 refine sg<|Pl 3<|nt<|c1<|sg<|Pl 1<|L0<|Oc<|m3 (dI B) fun c4 bf ao c5=>Pl 1<|?_
 refine L0<|bS (aT ao (Ne.symm f) O) 17 (mG 43 0 0 0 0 0 0 0 0 0 0 0 nS nS nS nS ((ah.mk b false 0).byteV) x55.byteV 0 0 0 nS) fun c6 T ar=>ng<|Pl 2<|L0<|aR T 17<|Pl 2<|cu 4 [154] 158 (((decide (0<x55.byteV))&&(decide (x55.byteV<5)))) (fun K av=>?_) ?_
 refine bl 154 ((decide (0<x55.byteV))) (fun E=>?_) (fun E=>?_)
 have bi:=of_decide_eq_true E
 exact Pl 1<|L1<|aR T 17<|Pl 2<|ce av (decide (x55.byteV<5)) (by rw[E];rfl)
 have bi:=of_decide_eq_false E
 exact Pl 4<|ce av false (by rw[E];rfl)
 have U:=us ao ar
 have aw:=ut a5 U (ac (ni a.size d) (ac (ni (le a.size i.size) h) aq))
 refine L0<|Oc<|m2 (aV (((decide (0<x55.byteV))&&(decide (x55.byteV<5)))) 6 (RC.upd bf ar (aa f ay) aw)) fun c7 bm bo=>?_
 refine fd bm fun g ax bp=>?_
 refine nt<|go<|Pl 1<|L0<|Oc<|m3 (dI bp) fun c8 br bu c9=>Pl 1<|?_
 have az:=u1 bo bu im
 refine L0<|bS (aT az (Ne.symm f) T) 20 (mG 43 0 0 0 0 0 0 0 0 0 0 0 nS nS nS nS ((ah.mk b false 0).byteV) x55.byteV 0 0 g.byteV nS) fun ca bv aA=>nl<|bn<|tn<|sg<|Pl 1<|?_
 have V:=us az aA
 have aC:=ut aw V (ac (ni a.size d) (ac (ni (le a.size i.size) h) aq))
 refine L0<|Oc<|m2 (dX (RC.upd br aA (aa f ay) aC)) fun cd W L=>nt<|sq<|sg<|Pl 3<|L0<|e8 (p:=⟨s,3,none⟩) (v:=.int .i64 (((g.bytesC 1).endC).e)) (RC.fld W)<|Pl 1<|nt<|?_
 have aD:=ud aC L (le a.size d)
 refine cb (((((g.bytesC 1).endC).e)!=0)) (fun F=>?_) (fun F=>?_)
 have X:=au F
 refine sq<|Rg 7 (fun w'=>w'.cell? ⟨s,3,none⟩=some (.int .i64 (((g.bytesC 1).endC).e))) fun cf M=>?_
 have aG:=RC.upd W M ay (aE.step (RC.u W) M)
 refine bh (RC.fld aG) fun G=>Rt 0 G<|Rt 1 G<|Rt 2 G<|Rt 3 G<|Rl 4 G (fun _ hs=>hs)<|?_
 refine R0 5 rfl<|b6 (ub (ut t (ut z (ui q (ut U (u1 V (aI L M) im) (ac im (ac im aq)))) (ac im (ac im aq))) (ac (nr d) (ac (ni i.size h) aq))) k) mZ fun cg bw aH=>?_
 have aJ:=ud aD (uz M aH) r
 refine bh (RC.fld (RC.upd aG aH (aa (Ne.symm (nb (ak k) lr d)) ay) aJ)) fun bx=>Rt 6 bx<|re<|tn<|rt<|tr<|bF bw (.int .i64 (((g.bytesC 1).endC).e))<|?_
 have hs:ae bM 0 c b=aF (aP.mk 43 0 0 0 0 0 0 0 0 0 0 0 [] [] [] [] ((ah.mk b false 0).byteV) x55.byteV 0 0 g.byteV []) (g.bytesC 1):=by
   subst ax H
   unfold ae bM da fF eO eM eo dV ef dq
   (try simp only[j,o,F,bs,if_true,if_false,decide_true,decide_false,eq_self,true_or,or_true,or_false,false_or,if_true,if_false,bZ,bX,cc,bY,reduceIte])
   all_goals rfl
 rw[hs]
 exact bg X aJ
 have X:=ai F
 refine bq<|sg<|?_
 refine L0<|ch (aT L (Ne.symm f) bv)<|?_
 refine L0<|b6 (ub (ut t (ut z (ui q (ut U (u1 V L im) (ac im (ac im aq)))) (ac im (ac im aq))) (ac (nr d) (ac (ni i.size h) aq))) k) (mG 43 0 0 0 0 0 0 0 0 0 0 0 nS nS nS nS ((ah.mk b false 0).byteV) x55.byteV 0 0 g.byteV nS) fun ci bz bA=>Pl 1<|nt<|rt<|bF bz (.int .i64 0)<|?_
 have hs:ae bM 0 c b=aF (aP.mk 43 0 0 0 0 0 0 0 0 0 0 0 [] [] [] [] ((ah.mk b false 0).byteV) x55.byteV 0 0 g.byteV []) (g.bytesC 1):=by
   subst ax H
   unfold ae bM da fF eO eM eo dV ef dq
   (try simp only[j,o,F,bs,if_true,if_false,decide_true,decide_false,eq_self,true_or,or_true,or_false,false_or,if_true,if_false,bZ,bX,cc,bY,reduceIte])
   all_goals rfl
 rw[hs]
 exact bj X ⟨_,_,_,_,_,rfl,aK.nil ..,aK.nil ..,(fun _ _ _=>aK.nil ..),aK.nil ..,aK.nil ..,⟨(b8 (x:=43) (by omega)),(b8 (x:=0) (by omega)),(aB (x:=0) (by omega)),(aB (x:=0) (by omega)),(aB (x:=0) (by omega)),(aB (x:=0) (by omega)),(aB (x:=0) (by omega)),(aB (x:=0) (by omega)),(aB (x:=0) (by omega)),(aB (x:=0) (by omega)),(aB (x:=0) (by omega)),(aB (x:=0) (by omega)),(b8 (x:=(ah.mk b false 0).byteV) (by omega)),(b8 (x:=x55.byteV) (by omega)),(b8 (x:=0) (by omega)),(b8 (x:=0) (by omega)),(b8 (x:=g.byteV) (by omega))⟩⟩ (ud aD bA r)
theorem kq{m:Md}{A:Option Addr}{cp:Nat}{b:List Int}{w:World}{c:Int}(hcode:B8 c)(hsl:b7 m w (.slice A b.length cp) b)(hb:b.length≤1048576) :
    Calls Tryz.prog 97 #[.int .i64 1,.int .u8 c,.slice A b.length cp] w (dc (.slice A b.length cp) b (ae bM 1 c b) w):=by
 obtain⟨hcode1,hcode2⟩:=hcode
 have hln:(b.length:Int)≤1048576:=by omega
 refine en 176 Tryz.func97 rfl<|sg<|L0<|bI mZ fun a1 dL M y a=>Pl 1<|nt<|sq<|sg<|Pl 6<|nt<|c0<|?_
 refine bq<|sq<|sg<|Pl 2<|nt<|cb ((c != 43)) (fun z=>?_) (fun z=>?_)
 have cF:=au z
 refine sg<|Pl 1<|L0<|b6 y mZ fun dM cG cH=>Pl 1<|nt<|rt<|tr<|bF cG (.int .i64 4)<|?_
 have hs:ae bM 1 c b=(aP.zero,4):=by
   unfold ae bM da fF eO eM eo dV ef dq
   (try simp only[z,bs,if_true,if_false,decide_true,decide_false,eq_self,true_or,or_true,or_false,false_or,if_true,if_false,bZ,bX,cc,bY,reduceIte])
   all_goals rfl
 rw[hs]
 exact bt (ud a cH M)
 have cF:=ai z
 refine bq<|sg<|Pl 2<|L0<|dx #[.slice A b.length cp,.int .i64 0,.bool false,.int .i64 0] fun t dN f b2 o=>Pl 1<|ng<|Pl 1<|L0<|bI mZ fun G dO q cI b3=>L0<|b6 cI (mC 43) fun cJ cK b4=>?_
 refine ng<|Pl 1<|?_
 have b5:=ud b3 b4 q
 have a2:=aI o b5
 have b9:=aI a a2
 have cL:RC w _ A cp b cJ t (ah.mk b false 0):=⟨hsl,b9,(Nat.le_trans a.size f),⟨0,(ub b5 b2),Nat.zero_le _,rfl⟩,by omega⟩
 refine L0<|Oc<|m3 (dI cL) fun dP cM ab dQ=>Pl 1<|?_
 have g:=nb (ak b2) lr q
 refine L0<|bS (aT ab (Ne.symm g) cK) 16 (mG 43 0 0 0 0 0 0 0 0 0 0 0 nS nS nS nS ((ah.mk b false 0).byteV) 0 0 0 0 nS) fun dR ad af=>ng<|Pl 2<|L0<|aR ad 16<|Pl 2<|cu 4 [38] 42 (((((ah.mk b false 0).byteV)==13)||(((ah.mk b false 0).byteV)==14))) (fun K ba=>?_) ?_
 refine bl 38 ((((ah.mk b false 0).byteV)==13)) (fun N=>?_) (fun N=>?_)
 have cN:=al N
 exact Pl 4<|ce ba true (by rw[N];rfl)
 have cN:=ap N
 exact Pl 1<|L1<|aR ad 16<|Pl 2<|ce ba (((ah.mk b false 0).byteV)==14) (by rw[N];rfl)
 have a3:=us ab af
 have bb:=ut b9 a3 (ac (ni a.size f) (ac (ni (le a.size o.size) q) aq))
 refine L0<|Oc<|m2 (aV (((((ah.mk b false 0).byteV)==13)||(((ah.mk b false 0).byteV)==14))) 8 (RC.upd cM af (aa g ay) bb)) fun dS cO H=>?_
 refine fd cO fun x55 a4 O=>?_
 refine nt<|sq<|bk<|sg<|Pl 1<|?_
 have ag:=aT H (Ne.symm g) ad
 refine L0<|aR ag 16<|Pl 2<|nt<|?_
 have bc:=ud bb H (le a.size f)
 refine cb ((((ah.mk b false 0).byteV)==13)) (fun E=>?_) (fun E=>?_)
 have cP:=al E
 refine sg<|Pl 1<|L0<|Oc<|m1 (gF O) fun dT aj=>?_
 have dU:=RC.clen O
 refine Pl 1<|ng<|Pl 3<|?_
 refine L0<|Oc<|m2 (aV ((decide (((x55.l.length:Nat) : Int)≤251))) 5 (RC.upd O aj ay (aE.step (RC.u O) aj))) fun dW bd cQ=>nt<|go<|Pl 2<|L0<|Oc<|nk (f6 (n:=((x55.l.length:Nat) : Int)) (by omega) bd) fun bf bm dY cR cS cT=>?_
 have dZ:=Nat.le_trans (ah.bytesR_le (x55.need (decide (((x55.l.length:Nat) : Int)≤251)) 5) ((x55.l.length:Nat) : Int)) (RC.clen bd)
 refine fd cS fun iW bo cU=>?_
 refine Pl 1<|?_
 have bp:=uz aj (u1 cQ cT im)
 refine L0<|bS (aT bp (Ne.symm g) ag) 14 (mG 43 0 0 0 0 0 0 0 0 0 0 0 nS nS (.slice bf (((x55.need (decide (((x55.l.length:Nat) : Int)≤251)) 5).bytesR ((x55.l.length:Nat) : Int)).length) bm) nS ((ah.mk b false 0).byteV) 0 0 0 0 nS) fun e0 cV br=>nl<|bn<|tn<|sg<|Pl 1<|?_
 have am:=us bp br
 have bu:=ut bc am (ac (ni a.size f) (ac (ni (le a.size o.size) q) aq))
 refine L0<|Oc<|m2 (dX (RC.upd cU br (aa g ay) bu)) fun e1 an a5=>nt<|sq<|sg<|Pl 3<|L0<|e8 (p:=⟨t,3,none⟩) (v:=.int .i64 iW.endC.e) (RC.fld an)<|Pl 1<|nt<|?_
 have bv:=ud bu a5 (le a.size f)
 refine cb ((iW.endC.e != 0)) (fun P=>?_) (fun P=>?_)
 have ao:=au P
 refine sq<|Rg 7 (fun w'=>w'.cell? ⟨t,3,none⟩=some (.int .i64 iW.endC.e)) fun e2 a6=>?_
 have bw:=RC.upd an a6 ay (aE.step (RC.u an) a6)
 refine bh (RC.fld bw) fun Q=>Rt 0 Q<|Rt 1 Q<|Rt 2 Q<|Rt 3 Q<|Rl 4 Q (fun _ hs=>hs)<|?_
 refine R0 5 rfl<|b6 (ub (ut a2 (ut a3 (ui H (u1 am (aI a5 a6) im)) (ac im (ac im aq))) (ac (nr f) (ac (ni o.size q) aq))) y) mZ fun e3 cW bz=>?_
 have bA:=ud bv (uz a6 bz) M
 refine bh (RC.fld (RC.upd bw bz (aa (Ne.symm (nb (ak y) lr f)) ay) bA)) fun cX=>Rt 6 cX<|re<|tn<|rt<|tr<|bF cW (.int .i64 iW.endC.e)<|?_
 have hs:ae bM 1 c b=aF (aP.mk 43 0 0 0 0 0 0 0 0 0 0 0 [] [] ((x55.need (decide (((x55.l.length:Nat) : Int)≤251)) 5).bytesR ((x55.l.length:Nat) : Int)) [] ((ah.mk b false 0).byteV) 0 0 0 0 []) iW:=by
   subst bo a4
   unfold ae bM da fF eO eM eo dV ef dq
   (try simp only[z,E,P,bs,if_true,if_false,decide_true,decide_false,eq_self,true_or,or_true,or_false,false_or,if_true,if_false,bZ,bX,cc,bY,reduceIte])
   all_goals rfl
 rw[hs]
 exact bg ao bA
 have ao:=ai P
 refine bq<|sg<|?_
 refine L0<|ch (aT a5 (Ne.symm g) cV)<|?_
 refine L0<|b6 (ub (ut a2 (ut a3 (ui H (u1 am a5 im)) (ac im (ac im aq))) (ac (nr f) (ac (ni o.size q) aq))) y) (mG 43 0 0 0 0 0 0 0 0 0 0 0 nS nS (.slice bf (((x55.need (decide (((x55.l.length:Nat) : Int)≤251)) 5).bytesR ((x55.l.length:Nat) : Int)).length) bm) nS ((ah.mk b false 0).byteV) 0 0 0 0 nS) fun e4 cY cZ=>Pl 1<|nt<|rt<|bF cY (.int .i64 0)<|?_
 have hs:ae bM 1 c b=aF (aP.mk 43 0 0 0 0 0 0 0 0 0 0 0 [] [] ((x55.need (decide (((x55.l.length:Nat) : Int)≤251)) 5).bytesR ((x55.l.length:Nat) : Int)) [] ((ah.mk b false 0).byteV) 0 0 0 0 []) iW:=by
   subst bo a4
   unfold ae bM da fF eO eM eo dV ef dq
   (try simp only[z,E,P,bs,if_true,if_false,decide_true,decide_false,eq_self,true_or,or_true,or_false,false_or,if_true,if_false,bZ,bX,cc,bY,reduceIte])
   all_goals rfl
 rw[hs]
 exact bj ao ⟨_,_,_,_,_,rfl,aK.nil ..,aK.nil ..,cR,aK.nil ..,aK.nil ..,⟨(b8 (x:=43) (by omega)),(b8 (x:=0) (by omega)),(aB (x:=0) (by omega)),(aB (x:=0) (by omega)),(aB (x:=0) (by omega)),(aB (x:=0) (by omega)),(aB (x:=0) (by omega)),(aB (x:=0) (by omega)),(aB (x:=0) (by omega)),(aB (x:=0) (by omega)),(aB (x:=0) (by omega)),(aB (x:=0) (by omega)),(b8 (x:=(ah.mk b false 0).byteV) (by omega)),(b8 (x:=0) (by omega)),(b8 (x:=0) (by omega)),(b8 (x:=0) (by omega)),(b8 (x:=0) (by omega))⟩⟩ (ud bv cZ M)
 have cP:=ap E
 refine sg<|Pl 3<|nt<|c0<|sg<|Pl 1<|L0<|Oc<|m3 (dI O) fun e5 d0 ar e6=>Pl 1<|?_
 refine L0<|bS (aT ar (Ne.symm g) ag) 17 (mG 43 0 0 0 0 0 0 0 0 0 0 0 nS nS nS nS ((ah.mk b false 0).byteV) x55.byteV 0 0 0 nS) fun e7 aw az=>ng<|Pl 2<|L0<|aR aw 17<|Pl 2<|cu 4 [51] 55 (((decide (0<x55.byteV))&&(decide (x55.byteV<5)))) (fun K bB=>?_) ?_
 refine bl 51 ((decide (0<x55.byteV))) (fun S=>?_) (fun S=>?_)
 have d1:=of_decide_eq_true S
 exact Pl 1<|L1<|aR aw 17<|Pl 2<|ce bB (decide (x55.byteV<5)) (by rw[S];rfl)
 have d1:=of_decide_eq_false S
 exact Pl 4<|ce bB false (by rw[S];rfl)
 have bC:=us ar az
 have bD:=ut bc bC (ac (ni a.size f) (ac (ni (le a.size o.size) q) aq))
 refine L0<|Oc<|m2 (aV (((decide (0<x55.byteV))&&(decide (x55.byteV<5)))) 6 (RC.upd d0 az (aa g ay) bD)) fun e9 d2 bE=>?_
 refine fd d2 fun j bG d3=>?_
 refine ng<|Pl 1<|L0<|Oc<|m3 (dI d3) fun ea d4 bH eb=>Pl 1<|?_
 have bJ:=u1 bE bH im
 refine L0<|bS (aT bJ (Ne.symm g) aw) 18 (mG 43 0 0 0 0 0 0 0 0 0 0 0 nS nS nS nS ((ah.mk b false 0).byteV) x55.byteV j.byteV 0 0 nS) fun ec bK aA=>ng<|Pl 1<|L0<|aR bK 18<|L0<|Oe (.int .u8 (Int.tmod j.byteV 128)) (.int .u8 (j.byteV%128)) (congrArg (Value.int .u8) (Int.tmod_eq_emod_of_nonneg (by omega)))<|Pl 1<|ng<|Pl 4<|cu 3 [66] 69 (((decide (1≤(j.byteV%128)))&&(decide ((j.byteV%128)≤3)))) (fun K bL=>?_) ?_
 refine bl 66 ((decide (1≤(j.byteV%128)))) (fun T=>?_) (fun T=>?_)
 have d5:=of_decide_eq_true T
 exact Pl 3<|ce bL (decide ((j.byteV%128)≤3)) (by rw[T];rfl)
 have d5:=of_decide_eq_false T
 exact Pl 3<|ce bL false (by rw[T];rfl)
 have bN:=us bJ aA
 have bO:=ut bD bN (ac (ni a.size f) (ac (ni (le a.size o.size) q) aq))
 refine L0<|Oc<|m2 (aV (((decide (1≤(j.byteV%128)))&&(decide ((j.byteV%128)≤3)))) 6 (RC.upd d4 aA (aa g ay) bO)) fun ed d6 bP=>?_
 refine fd d6 fun k bQ d7=>?_
 refine ng<|Pl 1<|L0<|Oc<|m3 (dI d7) fun ee d8 bR eg=>Pl 1<|?_
 have bT:=u1 bP bR im
 refine L0<|bS (aT bT (Ne.symm g) bK) 19 (mG 43 0 0 0 0 0 0 0 0 0 0 0 nS nS nS nS ((ah.mk b false 0).byteV) x55.byteV j.byteV k.byteV 0 nS) fun eh aD aG=>ng<|Pl 2<|L0<|aR aD 19<|Pl 2<|cu 4 [78] 82 (((k.byteV==0)||(k.byteV==255))) (fun K bU=>?_) ?_
 refine bl 78 ((k.byteV==0)) (fun U=>?_) (fun U=>?_)
 have d9:=al U
 exact Pl 4<|ce bU true (by rw[U];rfl)
 have d9:=ap U
 exact Pl 1<|L1<|aR aD 19<|Pl 2<|ce bU (k.byteV==255) (by rw[U];rfl)
 have bV:=us bT aG
 have bW:=ut bO bV (ac (ni a.size f) (ac (ni (le a.size o.size) q) aq))
 refine L0<|Oc<|m2 (aV (((k.byteV==0)||(k.byteV==255))) 6 (RC.upd d8 aG (aa g ay) bW)) fun ei db c1=>?_
 refine fd db fun s c2 dd=>?_
 refine ng<|Pl 1<|L0<|Oc<|m3 (dI dd) fun ek de c3 el=>Pl 1<|?_
 have c4:=u1 c1 c3 im
 refine L0<|bS (aT c4 (Ne.symm g) aD) 20 (mG 43 0 0 0 0 0 0 0 0 0 0 0 nS nS nS nS ((ah.mk b false 0).byteV) x55.byteV j.byteV k.byteV s.byteV nS) fun em a7 aH=>ng<|Pl 2<|L0<|aR a7 20<|Pl 2<|cu 4 [91] 95 (((s.byteV==0)||(k.byteV==255))) (fun K c5=>?_) ?_
 refine bl 91 ((s.byteV==0)) (fun V=>?_) (fun V=>?_)
 have df:=al V
 exact Pl 4<|ce c5 true (by rw[V];rfl)
 have df:=ap V
 exact Pl 1<|L1<|aR a7 19<|Pl 2<|ce c5 (k.byteV==255) (by rw[V];rfl)
 have c6:=us c4 aH
 have c7:=ut bW c6 (ac (ni a.size f) (ac (ni (le a.size o.size) q) aq))
 refine L0<|Oc<|m2 (aV (((s.byteV==0)||(k.byteV==255))) 6 (RC.upd de aH (aa g ay) c7)) fun ep dg aJ=>?_
 refine fd dg fun d c8 dh=>?_
 refine ng<|Pl 1<|L0<|Oc<|m3 (dI dh) fun eq di aL er=>L0<|Oi d.byteV<|Pl 1<|ng<|Pl 4<|cu 4 [103] 107 (((d.byteV==1)||(x55.byteV != 4))) (fun K c9=>?_) ?_
 refine bl 103 ((d.byteV==1)) (fun W=>?_) (fun W=>?_)
 have dj:=al W
 exact Pl 4<|ce c9 true (by rw[W];rfl)
 have dj:=ap W
 refine Pl 1<|?_
 exact L1<|aR (aT (u1 aJ aL im) (Ne.symm g) a7) 17<|Pl 2<|ce c9 (x55.byteV != 4) (by rw[W];rfl)
 refine L0<|Oc<|m2 (aV (((d.byteV==1)||(x55.byteV != 4))) 5 di) fun dk dl ca=>?_
 refine fd dl fun F cd dn=>?_
 refine ng<|Pl 1<|nt<|bk<|?_
 have hKr:0≤d.byteV∧d.byteV<256:=by omega
 have aM:=u1 aJ (u1 aL ca im) im
 refine iu (fun x=>[(6,.pointer (some ⟨a1,0,none⟩)),(7,.int .i64 0),(8,.pointer (some ⟨t,0,none⟩)),(9,.pointer (some ⟨G,0,none⟩)),(12,.int .i64 d.byteV),(13,.int .i64 ((x.1:Nat) : Int))]) (fun(x:Nat × ah × List Obj × Option Addr × Nat) w'=>aE [] w w'∧dk.heap.size≤w'.heap.size∧w'.heap[a1]? = some (.cells mZ 30 (0,0))∧RC w m A cp b w' t x.2.1∧w'.heap[G]? = some (.cells (mG 43 0 0 0 0 0 0 0 0 0 0 0 nS nS nS nS ((ah.mk b false 0).byteV) x55.byteV j.byteV k.byteV s.byteV (.slice x.2.2.2.1 x.2.2.1.length x.2.2.2.2)) 30 (0,0))∧be w.heap.size 111 2 (na (.slice A b.length cp) b) w' (.slice x.2.2.2.1 x.2.2.1.length x.2.2.2.2) x.2.2.1∧(x.1≤d.byteV.toNat)∧(x.2.2.1.length=x.1)∧(ej (d.byteV.toNat-x.1) x.2.1 x.2.2.1=ej d.byteV.toNat F [])) (fun x=>d.byteV.toNat-x.1) (0,F,[],none,0) ⟨(ud c7 aM (le a.size f)),lr,(ub (ut a2 (ut a3 (ui H (ut bC (ut bN (ut bV (u1 c6 aM im) (ac im (ac im aq))) (ac im (ac im aq))) (ac im (ac im aq)))) (ac im (ac im aq))) (ac (nr f) (ac (ni o.size q) aq))) y),dn,(aT aM (Ne.symm g) a7),(be.nil w.heap.size _ _ (na (.slice A b.length cp) b) _),(by(try dsimp only);omega),rfl,rfl⟩ ?_
 rintro⟨i,C,L,B,cq⟩ a8 ⟨cf,cg,dp,dr,ds,dt,du,dv,dw⟩
 refine iv [(6,.pointer (some ⟨a1,0,none⟩)),(7,.int .i64 0),(8,.pointer (some ⟨t,0,none⟩)),(9,.pointer (some ⟨G,0,none⟩)),(12,.int .i64 d.byteV),(13,.int .i64 ((i:Nat) : Int))] ?_
 have I:a8.heap[a1]? = some (.cells mZ 30 (0,0)):=dp
 have D:RC w m A cp b a8 t C:=dr
 have hlC:=RC.clen D
 have hrC:i5 C:=RC.rng D
 have hbv:=gS hrC
 have hbv2:=gS (gC hrC (n:=1))
 have ci:a8.heap[G]? = some (.cells (mG 43 0 0 0 0 0 0 0 0 0 0 0 nS nS nS nS ((ah.mk b false 0).byteV) x55.byteV j.byteV k.byteV s.byteV (.slice B L.length cq)) 30 (0,0)):=ds
 have r:be w.heap.size 111 2 (na (.slice A b.length cp) b) a8 (.slice B L.length cq) L:=dt
 have es:i≤d.byteV.toNat:=du
 have et:L.length=i:=dv
 have cj:ej (d.byteV.toNat-i) C L=ej d.byteV.toNat F []:=dw
 refine sq<|sg<|Pl 3<|nt<|cb ((decide (((i:Nat) : Int)<d.byteV))) (fun X=>?_) (fun X=>?_)
 have dy:=of_decide_eq_true X
 refine bq<|sq<|bk<|sg<|Pl 1<|L0<|Oc<|m3 (dI D) fun eu dz aN ev=>Pl 1<|ng<|Pl 1<|L0<|Oc<|m3 (dI dz) fun ew ck aO ex=>?_
 refine L0<|Oi ((C.bytesC 1).byteV)<|Pl 1<|ng<|Pl 2<|L0<|Oc<|nk (f6 (n:=(C.bytesC 1).byteV) (by omega) ck) fun dB dC ey dD cl aQ=>?_
 have ez:=Nat.le_trans (ah.bytesR_le ((C.bytesC 1).bytesC 1) ((C.bytesC 1).byteV)) (RC.clen ck)
 refine Pl 1<|nt<|go<|Pl 1<|?_
 have aS:=u1 aN (u1 aO aQ im) im
 have aW:=aT aS (Ne.symm g) ci
 refine L0<|aR aW 21<|Pl 3<|L0<|dA (m:=1) (e:=111) #[.int .u8 C.byteV,.slice dB ((((C.bytesC 1).bytesC 1).bytesR ((C.bytesC 1).byteV)).length) dC] fun eA eB eC dE J=>?_
 have cm:=RC.upd cl J ay (aE.step (RC.u cl) J)
 have dF:=iQ (R:=na (.slice A b.length cp) b) (x:=(Obj.mk C.byteV (((C.bytesC 1).bytesC 1).bytesR ((C.bytesC 1).byteV)))) dE rfl ⟨_,_,_,rfl,dD,b8 (x:=C.byteV) (by omega)⟩
 have cn:=aI aS J
 have co:=ax r cn (fun x hx=>(aa (fun e=>(RC.nrow D r (by decide)) (e▸hx)) ay)) (fun _ _ h=>h)
 refine L0<|g8 (xs:=L) (ys:=([(Obj.mk C.byteV (((C.bytesC 1).bytesC 1).bytesR ((C.bytesC 1).byteV)))])) (.agg #[.int .u8 0,.slice none 0 0]) 2 32 co dF (by simp) na.ones (fun _ _ _ _ h=>h) (by(try simp only[List.length_append,List.length_cons,List.length_nil,aC]);omega) (le (le (le (le (le (le (le (le (le (le (le (le (le (le (le (le (le (le (le (le (le (le (le (le (le a.size o.size) b3.size) b4.size) ab.size) af.size) H.size) ar.size) az.size) bE.size) bH.size) aA.size) bP.size) bR.size) aG.size) c1.size) c3.size) aH.size) aJ.size) aL.size) ca.size) cg) aN.size) aO.size) aQ.size) J.size) fun cr cs eD ct aX=>Pl 1<|?_
 have cv:=aE.blk (ut (aE.mono (S':=(ob B++[])) J aq) aX (av il aq)) (bi (dm aW (ax r aS (fun x hx=>(aa (fun e=>(RC.nrow D r (by decide)) (e▸hx)) ay)) (fun _ _ h=>h)) (by decide)) ay) aW
 refine L0<|bS cv 21 (mG 43 0 0 0 0 0 0 0 0 0 0 0 nS nS nS nS ((ah.mk b false 0).byteV) x55.byteV j.byteV k.byteV s.byteV (.slice cr ((L++[(Obj.mk C.byteV (((C.bytesC 1).bytesC 1).bytesR ((C.bytesC 1).byteV)))]).length) cs)) fun eE dG aY=>nl<|bn<|tn<|go<|Pl 1<|L0<|Oi (((i:Nat) : Int)+1)<|Pl 1<|nl<|?_
 have cw:=u1 (aE.mono (S':=(ob B++(G :: []))) aX (av il aq)) aY im
 have cx:=ut (aE.mono (S':=(t :: (ob B++(G :: [])))) cn (ac im aq)) cw (av il (ac im aq))
 have cy:=ut cf cx (ac (ni a.size f) (av (aU r lr) (ac (ni (le a.size o.size) q) aq)))
 exact fU ((i+1),(((C.bytesC 1).bytesC 1).bytesC ((C.bytesC 1).byteV)),(L++[(Obj.mk C.byteV (((C.bytesC 1).bytesC 1).bytesR ((C.bytesC 1).byteV)))]),cr,cs) ⟨cy,(le (le (le (le (le (le cg aN.size) aO.size) aQ.size) J.size) aX.size) aY.size),(aE.blk cx (aa (nb (ak y) lr f) (bi (dm I r (by decide)) (aa (nb (ak y) o.size q) ay))) I),(RC.upd cm cw (bi (RC.nrow cm co (by decide)) (aa g ay)) cy),dG,(ax ct aY (fun x hx=>(aa (fun e=>(dm cv ct (by decide)) (e▸hx)) ay)) (fun _ _ h=>h)),(by(try dsimp only);omega),(by(try dsimp only);simp only[List.length_append,List.length_cons,List.length_nil];omega),(by(try dsimp only);rw[← cj,show d.byteV.toNat-i=(d.byteV.toNat-(i+1))+1 from by omega];rfl)⟩ (by omega)
 have dy:=of_decide_eq_false X
 refine xt<|tx<|tx<|bx<|bn<|tn<|sg<|Pl 1<|?_
 have hR:=rg cj (by omega)
 refine L0<|Oc<|m2 (dX D) fun eF aZ Y=>nt<|sq<|sg<|Pl 3<|L0<|e8 (p:=⟨t,3,none⟩) (v:=.int .i64 C.endC.e) (RC.fld aZ)<|Pl 1<|nt<|?_
 have cz:=ud cf Y (le a.size f)
 refine cb ((C.endC.e != 0)) (fun Z=>?_) (fun Z=>?_)
 have b0:=au Z
 refine sq<|Rg 7 (fun w'=>w'.cell? ⟨t,3,none⟩=some (.int .i64 C.endC.e)) fun eG a9=>?_
 have cA:=RC.upd aZ a9 ay (aE.step (RC.u aZ) a9)
 refine bh (RC.fld cA) fun a0=>Rt 0 a0<|Rt 1 a0<|Rt 2 a0<|Rt 3 a0<|Rl 4 a0 (fun _ hs=>hs)<|?_
 have cB:=aI Y a9
 have cC:=nb (ak y) lr f
 refine R0 5 rfl<|b6 (aT cB cC I) mZ fun eH dH b1=>?_
 have cD:=ud cz (uz a9 b1) M
 refine bh (RC.fld (RC.upd cA b1 (aa (Ne.symm cC) ay) cD)) fun dJ=>Rt 6 dJ<|re<|tn<|rt<|tr<|bF dH (.int .i64 C.endC.e)<|?_
 have eI:=ax r (us cB b1) (fun x hx=>(aa (fun e=>(RC.nrow D r (by decide)) (e▸hx)) (aa (fun e=>(dm I r (by decide)) (e▸hx)) ay))) (fun _ _ h=>h)
 have hs:ae bM 1 c b=aF (aP.mk 43 0 0 0 0 0 0 0 0 0 0 0 [] [] [] [] ((ah.mk b false 0).byteV) x55.byteV j.byteV k.byteV s.byteV (ej d.byteV.toNat F []).2) (ej d.byteV.toNat F []).1:=by
   subst cd c8 c2 bQ bG a4
   unfold ae bM da fF eO eM eo dV ef dq
   (try simp only[z,E,X,Z,bs,if_true,if_false,decide_true,decide_false,eq_self,true_or,or_true,or_false,false_or,if_true,if_false,bZ,bX,cc,bY,reduceIte])
   all_goals rfl
 rw[hR] at hs
 rw[hs]
 exact bg b0 cD
 have b0:=ai Z
 refine bq<|sg<|?_
 refine L0<|ch (aT Y (Ne.symm g) ci)<|?_
 refine L0<|b6 (aT Y (nb (ak y) lr f) I) (mG 43 0 0 0 0 0 0 0 0 0 0 0 nS nS nS nS ((ah.mk b false 0).byteV) x55.byteV j.byteV k.byteV s.byteV (.slice B L.length cq)) fun eJ dK cE=>Pl 1<|nt<|rt<|bF dK (.int .i64 0)<|?_
 have hs:ae bM 1 c b=aF (aP.mk 43 0 0 0 0 0 0 0 0 0 0 0 [] [] [] [] ((ah.mk b false 0).byteV) x55.byteV j.byteV k.byteV s.byteV (ej d.byteV.toNat F []).2) (ej d.byteV.toNat F []).1:=by
   subst cd c8 c2 bQ bG a4
   unfold ae bM da fF eO eM eo dV ef dq
   (try simp only[z,E,X,Z,bs,if_true,if_false,decide_true,decide_false,eq_self,true_or,or_true,or_false,false_or,if_true,if_false,bZ,bX,cc,bY,reduceIte])
   all_goals rfl
 rw[hR] at hs
 rw[hs]
 exact bj b0 ⟨_,_,_,_,_,rfl,aK.nil ..,aK.nil ..,(fun _ _ _=>aK.nil ..),aK.nil ..,((ax r (us Y cE) (fun x hx=>(aa (fun e=>(RC.nrow D r (by decide)) (e▸hx)) (aa (fun e=>(dm I r (by decide)) (e▸hx)) ay))) (fun _ _ h=>h))).rd,⟨(b8 (x:=43) (by omega)),(b8 (x:=0) (by omega)),(aB (x:=0) (by omega)),(aB (x:=0) (by omega)),(aB (x:=0) (by omega)),(aB (x:=0) (by omega)),(aB (x:=0) (by omega)),(aB (x:=0) (by omega)),(aB (x:=0) (by omega)),(aB (x:=0) (by omega)),(aB (x:=0) (by omega)),(aB (x:=0) (by omega)),(b8 (x:=(ah.mk b false 0).byteV) (by omega)),(b8 (x:=x55.byteV) (by omega)),(b8 (x:=j.byteV) (by omega)),(b8 (x:=k.byteV) (by omega)),(b8 (x:=s.byteV) (by omega))⟩⟩ (ud cz cE M)
theorem kk{m:Md}{A:Option Addr}{cp:Nat}{b:List Int}{w:World}{dir c:Int}(hcode:B8 c)(hsl:b7 m w (.slice A b.length cp) b)(hb:b.length≤1048576)(hd:¬ (dir=0∨dir=1)) :
    Calls Tryz.prog 97 #[.int .i64 dir,.int .u8 c,.slice A b.length cp] w (dc (.slice A b.length cp) b (ae bM dir c b) w):=by
 obtain⟨hcode1,hcode2⟩:=hcode
 have hln:(b.length:Int)≤1048576:=by omega
 have e0:(dir != 0)=true:=by simp;omega
 have e1:(dir != 1)=true:=by simp;omega
 refine en 176 Tryz.func97 rfl<|sg<|L0<|bI mZ fun g h a d e=>Pl 1<|nt<|sq<|sg<|Pl 3<|sy 19 e0<|Pl 3<|nl<|?_
 refine tn<|ct e1<|sg<|Pl 1<|L0<|b6 d mZ fun i dy f=>Pl 1<|nt<|rt<|tr<|bF dy (.int .i64 1)<|?_
 have hs:ae bM dir c b=(aP.zero,1):=by
   unfold ae bM da fF eO eM eo dV ef dq
   (try simp only[e0,e1,bs,if_true,if_false,decide_true,decide_false,eq_self,true_or,or_true,or_false,false_or,if_true,if_false,bZ,bX,cc,bY,reduceIte,hd])
   all_goals rfl
 rw[hs]
 exact bt (ud e f a)
theorem oc{m:Md}{v:Value}{b:List Int}{w:World}{dir c:Int}(hc:B8 c)(h:b7 m w v b)(hb:b.length≤1048576) :
    Calls Tryz.prog 97 #[.int .i64 dir,.int .u8 c,v] w (dc v b (ae bE dir c b) w):=by
  rw[← ms (b7.range h)]
  obtain⟨A,cp,rfl,_,_⟩:=h.shape
  by_cases h0:dir=0
  · subst h0;exact kf hc h hb
  by_cases h1:dir=1
  · subst h1;exact kq hc h hb
  exact kk hc h hb (by omega)
open Go.RowKit
theorem rA{x:Int}{w:World}:Calls Tryz.prog 148 #[.int .u8 x] w (cT (.bool (lG x)) w):=by
 refine en 37 Tryz.func148 rfl<|sg<|Pl 1<|ng<|Pl 3<|cu 3 [5] 8 (((decide (1≤x))&&(decide (x≤8)))) (fun K i=>?_) ?_
 refine bl 5 ((decide (1≤x))) (fun a=>?_) (fun a=>?_)
 have v:=of_decide_eq_true a
 exact Pl 3<|ce i (decide (x≤8)) (by rw[a];rfl)
 have v:=of_decide_eq_false a
 exact Pl 3<|ce i false (by rw[a];rfl)
 refine Pl 1<|cu 3 [9] 12 ((((decide (1≤x))&&(decide (x≤8)))||(x==11))) (fun K j=>?_) ?_
 refine bl 9 (((decide (1≤x))&&(decide (x≤8)))) (fun b=>?_) (fun b=>?_)
 have y:=(aS b).1
 have z:=(aS b).2
 have G:=of_decide_eq_true y
 have H:=of_decide_eq_true z
 exact Pl 3<|ce j true (by rw[b];rfl)
 exact Pl 3<|ce j (x==11) (by rw[b];rfl)
 refine Pl 1<|cu 3 [13] 16 (((((decide (1≤x))&&(decide (x≤8)))||(x==11))||(x==12))) (fun K k=>?_) ?_
 refine bl 13 ((((decide (1≤x))&&(decide (x≤8)))||(x==11))) (fun c=>?_) (fun c=>?_)
 exact Pl 3<|ce k true (by rw[c];rfl)
 have I:=(aJ c).1
 have A:=(aJ c).2
 have J:=ap A
 exact Pl 3<|ce k (x==12) (by rw[c];rfl)
 refine Pl 1<|cu 7 [17] 24 ((((((decide (1≤x))&&(decide (x≤8)))||(x==11))||(x==12))||((decide (15≤x))&&(decide (x≤17))))) (fun K l=>?_) ?_
 refine bl 17 (((((decide (1≤x))&&(decide (x≤8)))||(x==11))||(x==12))) (fun d=>?_) (fun d=>?_)
 exact Pl 7<|ce l true (by rw[d];rfl)
 have m:=(aJ d).1
 have B:=(aJ d).2
 have L:=(aJ m).1
 have C:=(aJ m).2
 have q16abp:=ap C
 have M:=ap B
 refine Pl 3<|cu 3 [20] 23 (((decide (15≤x))&&(decide (x≤17)))) (fun K n=>?_) ?_
 refine bl 20 ((decide (15≤x))) (fun e=>?_) (fun e=>?_)
 have D:=of_decide_eq_true e
 exact Pl 3<|ce n (decide (x≤17)) (by rw[e];rfl)
 have D:=of_decide_eq_false e
 exact Pl 3<|ce n false (by rw[e];rfl)
 exact Pl 1<|ce l ((decide (15≤x))&&(decide (x≤17))) (by rw[d];rfl)
 refine Pl 1<|cu 7 [25] 32 (((((((decide (1≤x))&&(decide (x≤8)))||(x==11))||(x==12))||((decide (15≤x))&&(decide (x≤17))))||((decide (20≤x))&&(decide (x≤24))))) (fun K o=>?_) ?_
 refine bl 25 ((((((decide (1≤x))&&(decide (x≤8)))||(x==11))||(x==12))||((decide (15≤x))&&(decide (x≤17))))) (fun f=>?_) (fun f=>?_)
 exact Pl 7<|ce o true (by rw[f];rfl)
 have p:=(aJ f).1
 have N:=(aJ f).2
 have q:=(aJ p).1
 have E:=(aJ p).2
 have q20aaa:=(aJ q).1
 have q20aab:=(aJ q).2
 have q20aabp:=ap q20aab
 have q20abp:=ap E
 refine Pl 3<|cu 3 [28] 31 (((decide (20≤x))&&(decide (x≤24)))) (fun K r=>?_) ?_
 refine bl 28 ((decide (20≤x))) (fun g=>?_) (fun g=>?_)
 have F:=of_decide_eq_true g
 exact Pl 3<|ce r (decide (x≤24)) (by rw[g];rfl)
 have F:=of_decide_eq_false g
 exact Pl 3<|ce r false (by rw[g];rfl)
 exact Pl 1<|ce o ((decide (20≤x))&&(decide (x≤24))) (by rw[f];rfl)
 refine Pl 1<|cu 3 [33] 36 ((((((((decide (1≤x))&&(decide (x≤8)))||(x==11))||(x==12))||((decide (15≤x))&&(decide (x≤17))))||((decide (20≤x))&&(decide (x≤24))))||(x==43))) (fun K s=>?_) ?_
 refine bl 33 (((((((decide (1≤x))&&(decide (x≤8)))||(x==11))||(x==12))||((decide (15≤x))&&(decide (x≤17))))||((decide (20≤x))&&(decide (x≤24))))) (fun h=>?_) (fun h=>?_)
 exact Pl 3<|ce s true (by rw[h];rfl)
 have t:=(aJ h).1
 have O:=(aJ h).2
 have u:=(aJ t).1
 have P:=(aJ t).2
 have q24aaa:=(aJ u).1
 have q24aab:=(aJ u).2
 have q24aaaa:=(aJ q24aaa).1
 have q24aaab:=(aJ q24aaa).2
 have q24aaabp:=ap q24aaab
 have q24aabp:=ap q24aab
 exact Pl 3<|ce s (x==43) (by rw[h];rfl)
 refine Pl 1<|nt<|rt<|rr (.bool (((((((decide (1≤x))&&(decide (x≤8)))||(x==11))||(x==12))||((decide (15≤x))&&(decide (x≤17))))||((decide (20≤x))&&(decide (x≤24))))||(x==43)))<|?_
 have hs:lG x=(((((((decide (1≤x))&&(decide (x≤8)))||(x==11))||(x==12))||((decide (15≤x))&&(decide (x≤17))))||((decide (20≤x))&&(decide (x≤24))))||(x==43)):=by
   unfold lG
   (try simp only[bs,if_true,if_false,decide_true,decide_false])
 rw[hs]
 exact⟨rfl,(aE.refl [] _)⟩
open Go.RowKit
def eB (b:List Int) : aP × Int :=
  if decide ((b.length:Int)<1) then (aP.zero,2)
  else if decide (b.getD 0 0-128<0) then (aP.zero,4)
  else if !(lG ((b.getD 0 0-128)%256)) then (aP.zero,4)
  else if decide ((b.length:Int)<2) then (aP.zero,2)
  else if !(d9 (b.getD 1 0)) then (aP.zero,6)
  else if decide (2<(b.length:Int)) then (aP.zero,3)
  else (nY ((b.getD 0 0-128)%256) (b.getD 1 0),0)
theorem tR{x:Int}:lG x=eR x:=by
  unfold lG eR
  rw[Bool.eq_iff_iff]
  simp only[decide_eq_true_eq,List.mem_cons,List.not_mem_nil,or_false,Bool.or_eq_true,Bool.and_eq_true,beq_iff_eq]
  omega
theorem rO(b:List Int) : eB b=eF b:=by
  unfold eB eF
  rw[tR,show decide ((b.length:Int)<1)=((b.length:Int)==0) from by rw[Bool.eq_iff_iff];simp only[decide_eq_true_eq,beq_iff_eq];omega,show decide (b.getD 0 0-128<0)=decide (b.getD 0 0<128) from by rw[Bool.eq_iff_iff];simp only[decide_eq_true_eq];omega]
  by_cases h:b.length=0
  · rw[show((b.length:Int)==0)=true from by rw[beq_iff_eq];omega];rfl
  · rw[show decide ((b.length:Int)<2)=((b.length:Int)==1) from by rw[Bool.eq_iff_iff];simp only[decide_eq_true_eq,beq_iff_eq];omega]
theorem mH{m:Md}{A:Option Addr}{cp:Nat}{b:List Int}{w:World}(hsl:b7 m w (.slice A b.length cp) b)(hb:b.length≤1048576) :
    Calls Tryz.prog 92 #[.slice A b.length cp] w (dc (.slice A b.length cp) b (eB b) w):=by
 have hln:(b.length:Int)≤1048576:=by omega
 refine en 46 Tryz.func92 rfl<|sg<|L0<|bI mZ fun a2 a3 e f n=>Pl 1<|nt<|sq<|sg<|Pl 3<|nt<|cb ((decide (((b.length:Nat) : Int)<1))) (fun a=>?_) (fun a=>?_)
 have u:=of_decide_eq_true a
 refine sg<|Pl 1<|L0<|b6 f mZ fun a4 y z=>Pl 1<|nt<|rt<|tr<|bF y (.int .i64 2)<|?_
 have hs:eB b=(aP.zero,2):=by
   unfold eB
   (try simp only[a,bs,if_true,if_false,decide_true,decide_false,Bool.not_eq_true,reduceIte])
   all_goals rfl
 rw[hs]
 exact bt (ud n z e)
 have u:=of_decide_eq_false a
 refine bq<|sg<|Pl 1<|?_
 have s:=b7.old hsl n
 refine fA (b7.at_ s 0 (by omega)) fun B C D E a5=>L0<|jO b.length 0 D (by omega)<|L0<|e8 (p:=⟨B,C+0,none⟩) (v:=.int .u8 (b.getD 0 0)) E<|L0<|Oi (b.getD 0 0)<|L0<|Oi ((b.getD 0 0)-128)<|Pl 1<|nt<|sq<|sg<|Pl 2<|nt<|?_
 refine cb ((decide (((b.getD 0 0)-128)<0))) (fun c=>?_) (fun c=>?_)
 have F:=of_decide_eq_true c
 refine sg<|Pl 1<|L0<|b6 f mZ fun a6 G H=>Pl 1<|nt<|rt<|tr<|bF G (.int .i64 4)<|?_
 have hs:eB b=(aP.zero,4):=by
   unfold eB
   (try simp only[a,c,bs,if_true,if_false,decide_true,decide_false,Bool.not_eq_true,reduceIte])
   all_goals rfl
 rw[hs]
 exact bt (ud n H e)
 have F:=of_decide_eq_false c
 refine bq<|sg<|Pl 2<|L0<|Oc<|m1 (rA (x:=(((b.getD 0 0)-128)%256))) fun a7 g=>Pl 1<|nt<|sq<|sg<|Pl 2<|nl<|?_
 refine tn<|?_
 have q:=aI n g
 refine cb ((!(lG (((b.getD 0 0)-128)%256)))) (fun d=>?_) (fun d=>?_)
 have i:(lG (((b.getD 0 0)-128)%256))=false:=by simpa using d
 refine sg<|Pl 1<|?_
 refine L0<|b6 (ub g f) mZ fun a8 I J=>Pl 1<|nt<|rt<|tr<|bF I (.int .i64 4)<|?_
 have hs:eB b=(aP.zero,4):=by
   unfold eB
   (try simp only[a,c,d,i,bs,if_true,if_false,decide_true,decide_false,Bool.not_eq_true,reduceIte])
   all_goals rfl
 rw[hs]
 exact bt (ud q J e)
 have i:(lG (((b.getD 0 0)-128)%256))=true:=by simpa using d
 refine bq<|sq<|sg<|Pl 3<|nt<|cb ((decide (((b.length:Nat) : Int)<2))) (fun h=>?_) (fun h=>?_)
 have K:=of_decide_eq_true h
 refine sg<|Pl 1<|?_
 refine L0<|b6 (ub g f) mZ fun a9 L M=>Pl 1<|nt<|rt<|tr<|bF L (.int .i64 2)<|?_
 have hs:eB b=(aP.zero,2):=by
   unfold eB
   (try simp only[a,c,d,i,h,bs,if_true,if_false,decide_true,decide_false,Bool.not_eq_true,reduceIte])
   all_goals rfl
 rw[hs]
 exact bt (ud q M e)
 have K:=of_decide_eq_false h
 refine bq<|sg<|Pl 1<|?_
 have t:=b7.old s g
 refine fA (b7.at_ t 1 (by omega)) fun N O P Q aa=>L0<|jO b.length 1 P (by omega)<|L0<|e8 (p:=⟨N,O+1,none⟩) (v:=.int .u8 (b.getD 1 0)) Q<|L0<|Oc<|m1 (qV (x:=(b.getD 1 0)) (by omega)) fun ab k=>Pl 1<|nt<|sq<|sg<|Pl 2<|nt<|?_
 have r:=aI q k
 refine cb ((!(d9 (b.getD 1 0)))) (fun j=>?_) (fun j=>?_)
 have o:(d9 (b.getD 1 0))=false:=by simpa using j
 refine sg<|Pl 1<|?_
 refine L0<|b6 (ub (aI g k) f) mZ fun ac R S=>Pl 1<|nt<|rt<|tr<|bF R (.int .i64 6)<|?_
 have hs:eB b=(aP.zero,6):=by
   unfold eB
   (try simp only[a,c,d,i,h,j,o,bs,if_true,if_false,decide_true,decide_false,Bool.not_eq_true,reduceIte])
   all_goals rfl
 rw[hs]
 exact bt (ud r S e)
 have o:(d9 (b.getD 1 0))=true:=by simpa using j
 refine bq<|sq<|sg<|Pl 3<|nt<|cb ((decide (2<((b.length:Nat) : Int)))) (fun l=>?_) (fun l=>?_)
 have T:=of_decide_eq_true l
 refine sg<|Pl 1<|?_
 refine L0<|b6 (ub (aI g k) f) mZ fun ad U V=>Pl 1<|nt<|rt<|tr<|bF U (.int .i64 3)<|?_
 have hs:eB b=(aP.zero,3):=by
   unfold eB
   (try simp only[a,c,d,i,h,j,o,l,bs,if_true,if_false,decide_true,decide_false,Bool.not_eq_true,reduceIte])
   all_goals rfl
 rw[hs]
 exact bt (ud r V e)
 have T:=of_decide_eq_false l
 refine bq<|sg<|Pl 3<|?_
 refine fA (b7.at_ (b7.old t k) 1 (by omega)) fun W X Y Z ae=>L0<|jO b.length 1 Y (by omega)<|L0<|e8 (p:=⟨W,X+1,none⟩) (v:=.int .u8 (b.getD 1 0)) Z<|Pl 1<|?_
 refine L0<|b6 (ub (aI g k) f) (mG (((b.getD 0 0)-128)%256) (b.getD 1 0) 0 0 0 0 0 0 0 0 0 0 nS nS nS nS 0 0 0 0 0 nS) fun af a0 a1=>Pl 1<|nt<|rt<|bF a0 (.int .i64 0)<|?_
 have hs:eB b=((aP.mk (((b.getD 0 0)-128)%256) (b.getD 1 0) 0 0 0 0 0 0 0 0 0 0 [] [] [] [] 0 0 0 0 0 []),0):=by
   unfold eB
   (try simp only[a,c,d,i,h,j,o,l,bs,if_true,if_false,decide_true,decide_false,Bool.not_eq_true,reduceIte])
   all_goals rfl
 rw[hs]
 exact⟨_,rfl,⟨_,_,_,_,_,rfl,aK.nil ..,aK.nil ..,(fun _ _ _=>aK.nil ..),aK.nil ..,aK.nil ..,⟨(b8 (x:=(((b.getD 0 0)-128)%256)) (by omega)),(b8 (x:=(b.getD 1 0)) (by omega)),(aB (x:=0) (by omega)),(aB (x:=0) (by omega)),(aB (x:=0) (by omega)),(aB (x:=0) (by omega)),(aB (x:=0) (by omega)),(aB (x:=0) (by omega)),(aB (x:=0) (by omega)),(aB (x:=0) (by omega)),(aB (x:=0) (by omega)),(aB (x:=0) (by omega)),(b8 (x:=0) (by omega)),(b8 (x:=0) (by omega)),(b8 (x:=0) (by omega)),(b8 (x:=0) (by omega)),(b8 (x:=0) (by omega))⟩⟩,(ud r a1 e)⟩
theorem nF{m:Md}{v:Value}{b:List Int}{w:World}(h:b7 m w v b)(hb:b.length≤1048576) : Calls Tryz.prog 92 #[v] w (dc v b (eF b) w):=by
  obtain⟨A,cp,rfl,_,_⟩:=h.shape
  rw[← rO]
  exact mH h hb
open Go.RowKit
theorem fL{x y:aP × Int}(h:x=y){w:World}{e:Ending}{w':World}{v0:Value}{b:List Int}(k:dc v0 b y w e w') : dc v0 b x w e w':=by rw[h];exact k
theorem lx{m:Md}{v:Value}{b:List Int}{w:World}{dir c:Int}(hc:B8 c)(h:b7 m w v b)(hb:b.length≤1048576) :
    Calls Tryz.prog 93 #[.int .i64 dir,.int .u8 c,v] w (dc v b (ae aD dir c b) w):=by
  obtain⟨A,cp,rfl,_,_⟩:=h.shape
  by_cases h0:dir=0
  · subst h0;exact jr hc h hb
  by_cases h1:dir=1
  · subst h1;exact j9 hc h hb
  exact jx hc h hb (by omega)
theorem m9{m:Md}{v:Value}{b:List Int}{w:World}{dir c:Int}(hc:B8 c)(h:b7 m w v b)(hb:b.length≤1048576) :
    Calls Tryz.prog 94 #[.int .i64 dir,.int .u8 c,v] w (dc v b (ae aH dir c b) w):=by
  obtain⟨A,cp,rfl,_,_⟩:=h.shape
  by_cases h0:dir=0
  · subst h0;exact jS hc h hb
  by_cases h1:dir=1
  · subst h1;exact jX hc h hb
  exact km hc h hb (by omega)
theorem m8{m:Md}{v:Value}{b:List Int}{w:World}{dir c:Int}(hc:B8 c)(h:b7 m w v b)(hb:b.length≤1048576) :
    Calls Tryz.prog 95 #[.int .i64 dir,.int .u8 c,v] w (dc v b (ae aM dir c b) w):=by
  obtain⟨A,cp,rfl,_,_⟩:=h.shape
  rw[← lK]
  by_cases h0:dir=0
  · subst h0;exact jR hc h hb
  by_cases h1:dir=1
  · subst h1;exact kj hc h hb
  exact ke hc h hb (by omega)
theorem my{m:Md}{A:Option Addr}{cp:Nat}{b:List Int}{w:World}{dir:Int}(hsl:b7 m w (.slice A b.length cp) b)(hb:b.length≤1048576) :
    Calls Tryz.prog 25 #[.int .i64 dir,.slice A b.length cp] w (dc (.slice A b.length cp) b (dB dir b) w):=by
 have hln:(b.length:Int)≤1048576:=by omega
 refine en 87 Tryz.func25 rfl<|sg<|L0<|bI mZ fun bN bO u d i=>Pl 1<|nt<|sq<|sg<|Pl 3<|cu 3 [11] 14 (((dir != 0)&&(dir != 1))) (fun K W=>?_) ?_
 refine bl 11 ((dir != 0)) (fun F=>?_) (fun F=>?_)
 have aZ:=au F
 exact Pl 3<|ce W (dir != 1) (by rw[F];rfl)
 have aZ:=ai F
 exact Pl 3<|ce W false (by rw[F];rfl)
 refine nt<|cb (((dir != 0)&&(dir != 1))) (fun f=>?_) (fun f=>?_)
 have X:=(aS f).1
 have Y:=(aS f).2
 have bP:=au X
 have bQ:=au Y
 refine sg<|Pl 1<|L0<|b6 d mZ fun bR b0 b1=>Pl 1<|nt<|rt<|tr<|bF b0 (.int .i64 1)<|?_
 have hs:ft dir b=(aP.zero,1):=by
   unfold ft
   (try simp only[f,X,Y,bs,if_true,if_false,decide_true,decide_false,eH,reduceIte])
   all_goals rfl
 rw[← eP]
 refine fL hs ?_
 exact bt (ud i b1 u)
 refine bq<|sq<|sg<|Pl 3<|nt<|cb ((((b.length:Nat) : Int)==0)) (fun g=>?_) (fun g=>?_)
 have b2:=al g
 refine sg<|Pl 1<|L0<|b6 d mZ fun bS b3 b4=>Pl 1<|nt<|rt<|tr<|bF b3 (.int .i64 2)<|?_
 have hs:ft dir b=(aP.zero,2):=by
   unfold ft
   (try simp only[f,g,bs,if_true,if_false,decide_true,decide_false,eH,reduceIte])
   all_goals rfl
 rw[← eP]
 refine fL hs ?_
 exact bt (ud i b4 u)
 have b2:=ap g
 refine bq<|sq<|sg<|Pl 3<|nt<|cb ((decide (253<((b.length:Nat) : Int)))) (fun j=>?_) (fun j=>?_)
 have b5:=of_decide_eq_true j
 refine sg<|Pl 1<|L0<|b6 d mZ fun bT b9 ba=>Pl 1<|nt<|rt<|tr<|bF b9 (.int .i64 3)<|?_
 have hs:ft dir b=(aP.zero,3):=by
   unfold ft
   (try simp only[f,g,j,bs,if_true,if_false,decide_true,decide_false,eH,reduceIte])
   all_goals rfl
 rw[← eP]
 refine fL hs ?_
 exact bt (ud i ba u)
 have b5:=of_decide_eq_false j
 refine bq<|sg<|Pl 1<|?_
 have G:=b7.old hsl i
 refine fA (b7.at_ G 0 (by omega)) fun bb bc bd be bU=>L0<|jO b.length 0 bd (by omega)<|L0<|e8 (p:=⟨bb,bc+0,none⟩) (v:=.int .u8 (b.getD 0 0)) be<|Pl 1<|nt<|sq<|sg<|Pl 3<|cu 3 [29] 32 (((decide (128≤(b.getD 0 0)))&&(dir==1))) (fun K Z=>?_) ?_
 refine bl 29 ((decide (128≤(b.getD 0 0)))) (fun H=>?_) (fun H=>?_)
 have bf:=of_decide_eq_true H
 exact Pl 3<|ce Z (dir==1) (by rw[H];rfl)
 have bf:=of_decide_eq_false H
 exact Pl 3<|ce Z false (by rw[H];rfl)
 refine nt<|cb (((decide (128≤(b.getD 0 0)))&&(dir==1))) (fun x=>?_) (fun x=>?_)
 have a0:=(aS x).1
 have a1:=(aS x).2
 have bV:=of_decide_eq_true a0
 have bW:=al a1
 refine sg<|Pl 1<|L0<|Oc<|e2 (nF G (by omega)) fun bg bX I S=>?_
 refine Pl 2<|?_
 have a2:=ub S d
 refine L0<|b6 (hz:=(by rw[I.size];exact aO)) (hv:=I.size) (h1:=(d8.one I (b7.old G S))) a2 (bg) fun bY bh a3=>Pl 1<|nt<|rt<|tr<|eg 22 I.size bh (.int .i64 (((eF b)).2))<|?_
 have hs:ft dir b=(eF b):=by
   unfold ft
   (try simp only[f,g,j,x,a0,a1,bs,if_true,if_false,decide_true,decide_false,eH,reduceIte])
   all_goals rfl
 rw[← eP]
 refine fL hs ?_
 exact⟨_,rfl,(d8.upd I a3 (am (aQ a2 (by decide)) aG)),(ud i (uz S a3) u)⟩
 refine bq<|sg<|Pl 3<|lh (dC (P:=Tryz.prog) 22 5 1 Tryz.underlying22 rfl rfl A b.length cp 1 (by omega)) fun bi hrun54 a4=>L0<|ie (.slice bi (b.length-1) (cp-1)) (dK (kl:=.i64) (k:=((1:Nat) : Int)) (A:=A) (n:=b.length) (c:=cp) rfl Tryz.underlying22 (by kernel_rfl) (by kernel_rfl) (hrun54 _ _))<|L0<|Oc<|e2 (lx (dir:=dir) (c:=(b.getD 0 0)) (b8 (by omega)) (a4 _ _ _ _ _ G) (by(try simp only[List.length_drop]);omega)) fun a5 bZ bj e=>?_
 have L:=b7.old G e
 have l:=d8.sub bj (fun m' w' q=>(a4 _ _ _ _ _ q))
 refine Pl 3<|L0<|bI mZ fun c0 c1 a bk bm=>L0<|b6 (hz:=(by rw[l.size];exact aO)) (hv:=l.size) (h1:=(d8.one l hsl)) bk (a5) fun c2 a6 bn=>Pl 1<|nt<|sq<|sg<|Pl 2<|nt<|?_
 have M:=ud bm bn a
 have o:=aI e M
 have a7:=aI i o
 refine cb (((((ae aD dir (b.getD 0 0) (b.drop 1))).2)==4)) (fun h=>?_) (fun h=>?_)
 have bo:=al h
 refine go<|Pl 3<|lh (dC (P:=Tryz.prog) 22 5 1 Tryz.underlying22 rfl rfl A b.length cp 1 (by omega)) fun bp hrun75 a8=>L0<|ie (.slice bp (b.length-1) (cp-1)) (dK (kl:=.i64) (k:=((1:Nat) : Int)) (A:=A) (n:=b.length) (c:=cp) rfl Tryz.underlying22 (by kernel_rfl) (by kernel_rfl) (hrun75 _ _))<|?_
 have a9:=b7.old L M
 refine L0<|Oc<|e2 (m9 (dir:=dir) (c:=(b.getD 0 0)) (b8 (by omega)) (a8 _ _ _ _ _ a9) (by(try simp only[List.length_drop]);omega)) fun aa c3 br N=>?_
 have c4:=b7.old a9 N
 have r:=d8.sub br (fun m' w' q=>(a8 _ _ _ _ _ q))
 refine Pl 3<|?_
 have ab:=ub N a6
 refine L0<|b6 (hz:=(by rw[r.size];exact aO)) (hv:=(Eq.trans r.size (Eq.symm l.size))) (h1:=(d8.one r hsl)) ab (aa) fun c5 ad T=>Pl 1<|nt<|sq<|sg<|Pl 2<|nt<|?_
 have D:=uz N T
 have af:=ud a7 D (le (le i.size e.size) a)
 refine cb (((((ae aH dir (b.getD 0 0) (b.drop 1))).2)==4)) (fun y=>?_) (fun y=>?_)
 have bu:=al y
 refine go<|Pl 3<|lh (dC (P:=Tryz.prog) 22 5 1 Tryz.underlying22 rfl rfl A b.length cp 1 (by omega)) fun bv hrun92 ag=>L0<|ie (.slice bv (b.length-1) (cp-1)) (dK (kl:=.i64) (k:=((1:Nat) : Int)) (A:=A) (n:=b.length) (c:=cp) rfl Tryz.underlying22 (by kernel_rfl) (by kernel_rfl) (hrun92 _ _))<|?_
 have ah:=ud M D a
 have aj:=b7.old L ah
 refine L0<|Oc<|e2 (m8 (dir:=dir) (c:=(b.getD 0 0)) (b8 (by omega)) (ag _ _ _ _ _ aj) (by(try simp only[List.length_drop]);omega)) fun ak c6 bw O=>?_
 have c7:=b7.old aj O
 have s:=d8.sub bw (fun m' w' q=>(ag _ _ _ _ _ q))
 refine Pl 3<|?_
 have an:=ub O ad
 refine L0<|b6 (hz:=(by rw[s.size];exact aO)) (hv:=(Eq.trans s.size (Eq.symm r.size))) (h1:=(d8.one s hsl)) an (ak) fun c8 ao U=>Pl 1<|nt<|sq<|sg<|Pl 2<|nt<|?_
 have E:=uz O U
 have ar:=ud af E (le (le i.size e.size) a)
 refine cb (((((ae aM dir (b.getD 0 0) (b.drop 1))).2)==4)) (fun B=>?_) (fun B=>?_)
 have bx:=al B
 refine go<|Pl 3<|lh (dC (P:=Tryz.prog) 22 5 1 Tryz.underlying22 rfl rfl A b.length cp 1 (by omega)) fun bz hrun110 av=>L0<|ie (.slice bz (b.length-1) (cp-1)) (dK (kl:=.i64) (k:=((1:Nat) : Int)) (A:=A) (n:=b.length) (c:=cp) rfl Tryz.underlying22 (by kernel_rfl) (by kernel_rfl) (hrun110 _ _))<|?_
 have V:=u1 D E im
 have aw:=ud ah E a
 have ax:=b7.old L aw
 refine L0<|Oc<|e2 (lS (dir:=dir) (c:=(b.getD 0 0)) (b8 (by omega)) (av _ _ _ _ _ ax) (by(try simp only[List.length_drop]);omega)) fun ay c9 bA Q=>?_
 have ca:=b7.old ax Q
 have t:=d8.sub bA (fun m' w' q=>(av _ _ _ _ _ q))
 refine Pl 3<|?_
 have az:=ub Q ao
 refine L0<|b6 (hz:=(by rw[t.size];exact aO)) (hv:=(Eq.trans t.size (Eq.symm s.size))) (h1:=(d8.one t hsl)) az (ay) fun cc aA aB=>Pl 1<|nt<|sq<|sg<|Pl 2<|nt<|?_
 have C:=uz Q aB
 have aC:=ud ar C (le (le i.size e.size) a)
 refine cb (((((ae aY dir (b.getD 0 0) (b.drop 1))).2)==4)) (fun J=>?_) (fun J=>?_)
 have bB:=al J
 refine go<|Pl 3<|lh (dC (P:=Tryz.prog) 22 5 1 Tryz.underlying22 rfl rfl A b.length cp 1 (by omega)) fun bC hrun130 aE=>L0<|ie (.slice bC (b.length-1) (cp-1)) (dK (kl:=.i64) (k:=((1:Nat) : Int)) (A:=A) (n:=b.length) (c:=cp) rfl Tryz.underlying22 (by kernel_rfl) (by kernel_rfl) (hrun130 _ _))<|?_
 have cd:=u1 U C im
 have cg:=u1 E C im
 have ci:=u1 (u1 T E im) C im
 have aF:=u1 V C im
 have aJ:=b7.old L (ud aw C a)
 refine L0<|Oc<|e2 (oc (dir:=dir) (c:=(b.getD 0 0)) (b8 (by omega)) (aE _ _ _ _ _ aJ) (by(try simp only[List.length_drop]);omega)) fun aK cj bD R=>?_
 have ck:=b7.old aJ R
 have z:=d8.sub bD (fun m' w' q=>(aE _ _ _ _ _ q))
 refine Pl 3<|?_
 have aL:=ub R aA
 refine L0<|b6 (hz:=(by rw[z.size];exact aO)) (hv:=(Eq.trans z.size (Eq.symm t.size))) (h1:=(d8.one z hsl)) aL (aK) fun cl bG aN=>Pl 1<|ng<|L0<|ch (hz:=(by rw[z.size];exact aO)) bG<|Pl 1<|?_
 have aR:=uz R aN
 refine L0<|b6 (hz:=(by rw[z.size];exact aO)) (hv:=z.size) (h1:=(d8.one z hsl)) (ub (ud o (u1 aF aR im) (le e.size a)) d) (aK) fun cm bH aT=>Pl 1<|nt<|rt<|eg 22 z.size bH (.int .i64 (((ae bE dir (b.getD 0 0) (b.drop 1))).2))<|?_
 have hs:ft dir b=(ae bE dir (b.getD 0 0) (b.drop 1)):=by
   unfold ft
   (try simp only[f,g,j,x,h,y,B,J,bs,if_true,if_false,decide_true,decide_false,eH,reduceIte])
   all_goals rfl
 rw[← eP]
 refine fL hs ?_
 exact⟨_,rfl,(d8.upd z (us aN aT) (am (aQ aL (by decide)) (am (aQ (ub (ud o (aI aF R) (le e.size a)) d) (by decide)) aG))),(ut aC (us aR aT) (ac (ni (le i.size e.size) a) (ac (nr u) aq)))⟩
 have bB:=ap J
 refine bq<|sg<|L0<|ch (hz:=(by rw[t.size];exact aO)) aA<|Pl 1<|?_
 refine L0<|b6 (hz:=(by rw[t.size];exact aO)) (hv:=t.size) (h1:=(d8.one t hsl)) (ub (ud o (u1 V C im) (le e.size a)) d) (ay) fun cn bJ aU=>Pl 1<|nt<|rt<|eg 22 t.size bJ (.int .i64 (((ae aY dir (b.getD 0 0) (b.drop 1))).2))<|?_
 have hs:ft dir b=(ae aY dir (b.getD 0 0) (b.drop 1)):=by
   unfold ft
   (try simp only[f,g,j,x,h,y,B,J,bs,if_true,if_false,decide_true,decide_false,eH,reduceIte])
   all_goals rfl
 rw[← eP]
 refine fL hs ?_
 exact⟨_,rfl,(d8.upd t (us aB aU) (am (aQ az (by decide)) (am (aQ (ub (ud o (aI V Q) (le e.size a)) d) (by decide)) aG))),(ud aC aU u)⟩
 have bx:=ap B
 refine bq<|sq<|sg<|Pl 2<|nt<|cf B<|bq<|sg<|L0<|ch (hz:=(by rw[s.size];exact aO)) ao<|?_
 refine Pl 1<|?_
 refine L0<|b6 (hz:=(by rw[s.size];exact aO)) (hv:=s.size) (h1:=(d8.one s hsl)) (ub (ud o (u1 D E im) (le e.size a)) d) (ak) fun co bK aV=>Pl 1<|nt<|rt<|eg 22 s.size bK (.int .i64 (((ae aM dir (b.getD 0 0) (b.drop 1))).2))<|?_
 have hs:ft dir b=(ae aM dir (b.getD 0 0) (b.drop 1)):=by
   unfold ft
   (try simp only[f,g,j,x,h,y,B,bs,if_true,if_false,decide_true,decide_false,eH,reduceIte])
   all_goals rfl
 rw[← eP]
 refine fL hs ?_
 exact⟨_,rfl,(d8.upd s (us U aV) (am (aQ an (by decide)) (am (aQ (ub (ud o (aI D O) (le e.size a)) d) (by decide)) aG))),(ud ar aV u)⟩
 have bu:=ap y
 refine bq<|sq<|sg<|Pl 2<|nt<|cf y<|bq<|sq<|sg<|?_
 refine Pl 2<|nt<|cf y<|bq<|sg<|L0<|ch (hz:=(by rw[r.size];exact aO)) ad<|Pl 1<|?_
 refine L0<|b6 (hz:=(by rw[r.size];exact aO)) (hv:=r.size) (h1:=(d8.one r hsl)) (ub (ud o D (le e.size a)) d) (aa) fun cq bL aW=>Pl 1<|nt<|rt<|eg 22 r.size bL (.int .i64 (((ae aH dir (b.getD 0 0) (b.drop 1))).2))<|?_
 have hs:ft dir b=(ae aH dir (b.getD 0 0) (b.drop 1)):=by
   unfold ft
   (try simp only[f,g,j,x,h,y,bs,if_true,if_false,decide_true,decide_false,eH,reduceIte])
   all_goals rfl
 rw[← eP]
 refine fL hs ?_
 exact⟨_,rfl,(d8.upd r (us T aW) (am (aQ ab (by decide)) (am (aQ (ub (aI o N) d) (by decide)) aG))),(ud af aW u)⟩
 have bo:=ap h
 refine bq<|sq<|sg<|Pl 2<|nt<|cf h<|bq<|sq<|sg<|?_
 refine Pl 2<|nt<|cf h<|bq<|sq<|sg<|Pl 2<|nt<|cf h<|sk<|?_
 refine tn<|sg<|L0<|ch (hz:=(by rw[l.size];exact aO)) a6<|Pl 1<|?_
 refine L0<|b6 (hz:=(by rw[l.size];exact aO)) (hv:=l.size) (h1:=(d8.one l hsl)) (ub o d) (a5) fun cr bM aX=>Pl 1<|nt<|rt<|eg 22 l.size bM (.int .i64 (((ae aD dir (b.getD 0 0) (b.drop 1))).2))<|?_
 have hs:ft dir b=(ae aD dir (b.getD 0 0) (b.drop 1)):=by
   unfold ft
   (try simp only[f,g,j,x,h,bs,if_true,if_false,decide_true,decide_false,eH,reduceIte])
   all_goals rfl
 rw[← eP]
 refine fL hs ?_
 exact⟨_,rfl,(d8.upd l (uz M aX) (am (aQ (ub e d) (by decide)) aG)),(ud a7 aX u)⟩
theorem oq{m:Md}{v:Value}{b:List Int}{w:World}{dir:Int}(h:b7 m w v b)(hb:b.length≤1048576) : Calls Tryz.prog 25 #[.int .i64 dir,v] w (dc v b (dB dir b) w):=by
  obtain⟨A,cp,rfl,_,_⟩:=h.shape
  exact my h hb
open Go.RowKit
def mF (v0:Value)(b:List Int)(res:gZ × Int)(w:World)(e:Ending)(w':World) : Prop:=∃ x,e = .returned (.tuple #[.agg (tW res.1.unit res.1.tid res.1.msg x),.int .i64 res.2])∧(d8 v0 b w' (se res.1.msg x).toList res.1.msg∧(0≤res.1.unit∧res.1.unit<256)∧(0≤res.1.tid∧res.1.tid<65536))∧aE [] w w'
theorem iC{x y:gZ × Int}(h:x=y){w:World}{e:Ending}{w':World}{v0:Value}{b:List Int}(k:mF v0 b y w e w') : mF v0 b x w e w':=by rw[h];exact k
def wN:SL:=⟨none,0,none,0,none,0,none,0,none,0⟩
theorem gg{v0:Value}{b:List Int}{x:Int}{w W:World}(hu:aE [] w W) : mF v0 b (gZ.zero,x) w (.returned (.tuple #[.agg vu,.int .i64 x])) W:=⟨wN,(by kernel_rfl),⟨d8.zero v0 b W,(show(0:Int)≤0∧(0:Int)<256 from by decide),(show(0:Int)≤0∧(0:Int)<65536 from by decide)⟩,hu⟩
theorem lD{m:Md}{v:Value}{b:List Int}{w:World}{dir:Int}{M:aP}{E:Int}(hX:dB dir b=(M,E))(h:b7 m w v b)(hb:b.length≤1048576) : Calls Tryz.prog 25 #[.int .i64 dir,v] w (fun e w'=>∃ x,e = .returned (.tuple #[.agg (se M x),.int .i64 E])∧d8 v b w' (se M x).toList M∧aE [] w w'):=by
  refine(oq h hb).mono ?_
  rintro e w' ⟨cs,rfl,h1,h2⟩
  rw[hX] at h1 ⊢
  obtain⟨x,rfl⟩:=rW (h1.rd (b7.old h h2))
  exact⟨x,rfl,h1,h2⟩
end Go.Proofs.YtogbnemojakcpaaGreat
namespace Go.Proofs.YtogbnemojakcpaaGreat
theorem oE(a b k:Nat) : (a ^^^ b)/2 ^ k=(a/2 ^ k) ^^^ (b/2 ^ k):=by
  rw[← Nat.shiftRight_eq_div_pow,Nat.shiftRight_xor_distrib,Nat.shiftRight_eq_div_pow,Nat.shiftRight_eq_div_pow]
theorem s5(x z:Nat) : hH (x ^^^ 2*z)=hH x ^^^ z:=by
  unfold hH
  have h1:(x ^^^ 2*z)/2=(x/2) ^^^ z:=by
    have:=oE x (2*z) 1
    rw[show(2:Nat) ^ 1=2 from rfl] at this
    rw[this,show 2*z/2=z from by omega]
  have h2:(x ^^^ 2*z)%2=x%2:=by
    have:=Nat.xor_mod_two_pow (a:=x) (b:=2*z) (n:=1)
    rw[show(2:Nat) ^ 1=2 from rfl] at this
    rw[this,show 2*z%2=0 from by omega,Nat.xor_zero]
  rw[h1,h2,Nat.xor_assoc,Nat.xor_comm z,← Nat.xor_assoc]
theorem mY(x:Nat) : ∀ (k h:Nat),eG k (x ^^^ 2 ^ k*h)=eG k x ^^^ h
  | 0,h=>by show x ^^^ 2 ^ 0*h=x ^^^ h;rw[Nat.pow_zero,Nat.one_mul]
  | k+1,h=>by
    show hH (eG k (x ^^^ 2 ^ (k+1)*h))=hH (eG k x) ^^^ h
    rw[Nat.pow_succ,Nat.mul_assoc,mY x k (2*h),s5]
theorem qE(s:Nat) : (s%256) ^^^ (2 ^ 8*(s/256))=s:=by
  have h1:=Nat.xor_mod_two_pow (a:=s%256) (b:=2 ^ 8*(s/256)) (n:=8)
  have h2:=oE (s%256) (2 ^ 8*(s/256)) 8
  rw[show(2:Nat) ^ 8=256 from rfl] at *
  rw[show 256*(s/256)%256=0 from by omega,Nat.xor_zero] at h1
  rw[show s%256/256=0 from by omega,Nat.zero_xor] at h2
  omega
theorem oo(s c:Nat) : eG 8 (s ^^^ c)=oS s c:=by
  have h:=mY ((s%256) ^^^ c) 8 (s/256)
  rw[Nat.xor_assoc,Nat.xor_comm c,← Nat.xor_assoc,qE] at h
  rw[h,Nat.xor_comm]
  rfl
theorem mS{n:Nat}(hn:n<65536) : (if n%2=1 then (n/2) ^^^ 40961 else n/2)=hH n:=by
  unfold hH
  split
  · rename_i h;rw[h]
  · rename_i h;rw[show n%2=0 from by omega,Nat.zero_mul,Nat.xor_zero]
open Go.RowKit
theorem rj{c:Int}{n:Nat}(h:c=(n:Int))(hn:n<65536)(q:(c%2==1)=true) : xi (c/2) 40961=((hH n:Nat) : Int):=by
  have q2:c%2=1:=by simpa using q
  rw[← mS hn,if_pos (by omega)]
  unfold xi
  rw[show(c/2).toNat=n/2 from by omega]
  rfl
theorem ru{c:Int}{n:Nat}(h:c=(n:Int))(hn:n<65536)(q:(c%2==1)=false) : c/2=((hH n:Nat) : Int):=by
  have q2:¬ c%2=1:=by simpa using q
  rw[← mS hn,if_neg (by omega)]
  omega
theorem qk{s:Int}{b:List Int}{i:Nat}(hs:0≤dE s b i∧dE s b i<65536)(hb:0≤b.getD i 0∧b.getD i 0<256){c:Int}(h:c=((eG 8 ((dE s b i).toNat ^^^ (b.getD i 0).toNat) : Nat) : Int)) : c=dE s b (i+1):=by
  rw[h,oo,← ma hs hb]
  rfl
theorem sR{a c:Int}(ha:0≤a∧a<65536)(hc:0≤c∧c<256) : a.toNat ^^^ c.toNat<65536:=jq (by omega) (by omega)
theorem pG{l:List Int}{i:Nat}(h:i<l.length) : l.getD i 0∈l:=by
  rw[List.getD_eq_getElem?_getD,List.getElem?_eq_getElem h]
  exact List.getElem_mem h
theorem uv{m:Md}{A:Option Addr}{cp:Nat}{b:List Int}{w:World}{s:Int}(hsl:b7 m w (.slice A b.length cp) b)(hs:0≤s∧s<65536) :
    Calls Tryz.prog 179 #[.int .u16 s,.slice A b.length cp] w (cT (.int .u16 (cG s b)) w):=by
 have hln:=aK.len hsl
 have hb:=b7.range hsl
 refine en 34 Tryz.func179 rfl<|sg<|Pl 1<|nt<|sq<|sg<|Pl 1<|nt<|bk<|?_
 refine iu (fun x=>[(0,.int .u16 x.2),(1,.slice A b.length cp),(4,.int .u16 0),(5,.int .i64 ((x.1:Nat) : Int))]) (fun(x:Nat × Int) w'=>aE [] w w'∧(x.1≤b.length)∧(x.2=dE s b x.1)∧(0≤x.2∧x.2<65536)) (fun x=>b.length-x.1) (0,s) ⟨aE.refl _ _,(by(try dsimp only);omega),rfl,hs⟩ ?_
 rintro⟨i,c⟩ r ⟨f,t,u,y⟩
 refine iv [(0,.int .u16 c),(1,.slice A b.length cp),(4,.int .u16 0),(5,.int .i64 ((i:Nat) : Int))] ?_
 have H:i≤b.length:=t
 have q:c=dE s b i:=u
 have I:0≤c∧c<65536:=y
 have hcr:0≤dE s b i∧dE s b i<65536:=i2 hs hb _
 refine sq<|sg<|Pl 4<|nt<|cb ((decide (((i:Nat) : Int)<((b.length:Nat) : Int)))) (fun g=>?_) (fun g=>?_)
 have z:=of_decide_eq_true g
 refine bq<|sq<|bk<|sg<|Pl 3<|?_
 refine fA (b7.at_ (b7.old hsl f) i (by omega)) fun h j B C J=>L0<|jO b.length i B (by omega)<|L0<|e8 (p:=⟨h,j+i,none⟩) (v:=.int .u8 (b.getD i 0)) C<|L0<|uw (b.getD i 0)<|?_
 have K:=uU (a:=c) (b:=(b.getD i 0)) (by omega) (by omega)
 refine L0<|Oe (.int .u16 (bits .xor .u16 c (b.getD i 0))) (.int .u16 (xi c (b.getD i 0))) (congrArg (Value.int .u16) (lA (by omega) (by omega)))<|Pl 1<|ng<|Pl 1<|nt<|bk<|?_
 have hbr:0≤b.getD i 0∧b.getD i 0<256:=hb _ (pG (by omega))
 have hxl:=sR hcr hbr
 refine iu (fun x=>[(0,.int .u16 x.2),(1,.slice A b.length cp),(4,.int .u16 0),(5,.int .i64 ((i:Nat) : Int)),(6,.int .i64 ((x.1:Nat) : Int)),(8,.int .i64 ((i:Nat) : Int)),(9,.slice A b.length cp),(10,.int .i64 ((b.length:Nat) : Int)),(11,.bool (decide (((i:Nat) : Int)<((b.length:Nat) : Int)))),(14,.int .u16 c),(15,.slice A b.length cp),(16,.int .i64 ((i:Nat) : Int)),(17,.pointer (some (⟨h,j+i,none⟩))),(18,.int .u8 (b.getD i 0)),(19,.int .u16 (b.getD i 0)),(20,.int .u16 (xi c (b.getD i 0)))]) (fun(x:Nat × Int) w'=>aE [] r w'∧(x.1≤8)∧(x.2=((eG x.1 ((dE s b i).toNat ^^^ (b.getD i 0).toNat) : Nat) : Int))) (fun x=>8-x.1) (0,(xi c (b.getD i 0))) ⟨aE.refl _ _,(by(try dsimp only);omega),(by(try dsimp only);rw[q];rfl)⟩ ?_
 rintro⟨k,d⟩ L ⟨l,D,E⟩
 refine iv [(0,.int .u16 d),(1,.slice A b.length cp),(4,.int .u16 0),(5,.int .i64 ((i:Nat) : Int)),(6,.int .i64 ((k:Nat) : Int)),(8,.int .i64 ((i:Nat) : Int)),(9,.slice A b.length cp),(10,.int .i64 ((b.length:Nat) : Int)),(11,.bool (decide (((i:Nat) : Int)<((b.length:Nat) : Int)))),(14,.int .u16 c),(15,.slice A b.length cp),(16,.int .i64 ((i:Nat) : Int)),(17,.pointer (some (⟨h,j+i,none⟩))),(18,.int .u8 (b.getD i 0)),(19,.int .u16 (b.getD i 0)),(20,.int .u16 (xi c (b.getD i 0)))] ?_
 have M:k≤8:=D
 have n:d=((eG k ((dE s b i).toNat ^^^ (b.getD i 0).toNat) : Nat) : Int):=E
 have hkl:=gr hxl k
 refine sq<|sg<|Pl 2<|nt<|?_
 refine cb ((decide (((k:Nat) : Int)<8))) (fun o=>?_) (fun o=>?_)
 have F:=of_decide_eq_true o
 refine bq<|sq<|bk<|sg<|Pl 1<|L0<|Oe (.int .u16 (Int.tmod d 2)) (.int .u16 (d%2)) (congrArg (Value.int .u16) (Int.tmod_eq_emod_of_nonneg (by omega)))<|Pl 2<|ng<|Pl 1<|L0<|Oe (.int .u16 (IntKind.u16.wrap (Int.tdiv d 2))) (.int .u16 (d/2)) (congrArg (Value.int .u16) (oJ (by omega) (by omega)))<|?_
 refine Pl 1<|ng<|Pl 1<|nt<|cb (((d%2)==1)) (fun e=>?_) (fun e=>?_)
 have G:=al e
 refine go<|Pl 1<|?_
 have N:=uU (a:=(d/2)) (b:=40961) (by omega) (by omega)
 exact L0<|Oe (.int .u16 (bits .xor .u16 (d/2) 40961)) (.int .u16 (xi (d/2) 40961)) (congrArg (Value.int .u16) (lA (by omega) (by omega)))<|Pl 1<|nl<|bn<|tn<|go<|Pl 1<|L0<|Oi (((k:Nat) : Int)+1)<|Pl 1<|nl<|fU ((k+1),(xi (d/2) 40961)) ⟨l,(by(try dsimp only);omega),(rj n (gr hxl k) e)⟩ (by omega)
 have G:=ap e
 exact sk<|bn<|tn<|go<|Pl 1<|L0<|Oi (((k:Nat) : Int)+1)<|Pl 1<|nl<|fU ((k+1),(d/2)) ⟨l,(by(try dsimp only);omega),(ru n (gr hxl k) e)⟩ (by omega)
 have F:=of_decide_eq_false o
 refine xt<|tx<|tx<|bx<|bn<|tn<|go<|Pl 1<|L0<|Oi (((i:Nat) : Int)+1)<|Pl 1<|nl<|?_
 have hc8:d=dE s b (i+1):=qk hcr hbr (by rw[n,show k=8 from by omega])
 exact fU ((i+1),d) ⟨(aI f l),(by(try dsimp only);omega),hc8,(by(try dsimp only);rw[hc8];exact i2 hs hb _)⟩ (by omega)
 have z:=of_decide_eq_false g
 refine xt<|tx<|tx<|bx<|tn<|sg<|Pl 2<|nt<|rt<|rr (.int .u16 c)<|?_
 have hk:c=cG s b:=by rw[q];exact mV (by omega)
 rw[← hk]
 exact⟨rfl,f⟩
theorem v4{m:Md}{v:Value}{b:List Int}{w:World}(h:b7 m w v b) : Calls Tryz.prog 179 #[.int .u16 65535,v] w (cT (.int .u16 (cG 65535 b)) w):=by
  obtain⟨A,cp,rfl,_,_⟩:=h.shape
  exact uv h (by decide)
theorem oO{b:List Int}(h:2≤b.length)(hb:∀ x,x∈b→0≤x∧x<256) : dt b=((b.getD (((b.length:Nat) : Int)-2).toNat 0==(cG 65535 (b.take (((b.length:Nat) : Int)-2).toNat)%256)%256)&&(b.getD (((b.length:Nat) : Int)-1).toNat 0==(cG 65535 (b.take (((b.length:Nat) : Int)-2).toNat)/256)%256)):=by
  unfold dt cn
  rw[decide_eq_true h,Bool.true_and,show(((b.length:Nat) : Int)-2).toNat=b.length-2 from by omega,show(((b.length:Nat) : Int)-1).toNat=b.length-2+1 from by omega]
  have e:b.drop (b.length-2)=[b.getD (b.length-2) 0,b.getD (b.length-2+1) 0]:=by
    apply List.ext_getElem
    · simp;omega
    · intro i h1 h2
      simp only[List.length_cons,List.length_nil] at h2
      rw[List.getElem_drop]
      rcases i with _|_|i
      · simp[List.getD_eq_getElem?_getD,List.getElem?_eq_getElem (show b.length-2<b.length by omega)]
      · simp[List.getD_eq_getElem?_getD,List.getElem?_eq_getElem (show b.length-2+1<b.length by omega)]
      · omega
  rw[e,Bool.eq_iff_iff]
  simp only[decide_eq_true_eq,List.cons.injEq,and_true,Bool.and_eq_true,beq_iff_eq]
  constructor
  · rintro⟨h1,h2⟩
    exact⟨by rw[← h1];omega,by rw[← h2]⟩
  · rintro⟨h1,h2⟩
    exact⟨by rw[h1];omega,by rw[h2]⟩
theorem wc{m:Md}{A:Option Addr}{cp:Nat}{b:List Int}{w:World}(hsl:b7 m w (.slice A b.length cp) b)(hl:b.length≤1048576)(hcp:b.length≤cp) :
    Calls Tryz.prog 117 #[.slice A b.length cp] w (cT (.bool (dt b)) w):=by
 have hln:=aK.len hsl
 have hb:=b7.range hsl
 refine en 34 Tryz.func117 rfl<|sg<|Pl 1<|ng<|Pl 3<|nt<|sq<|sg<|?_
 refine Pl 2<|nt<|cb ((decide (((b.length:Nat) : Int)<2))) (fun a=>?_) (fun a=>?_)
 have i:=of_decide_eq_true a
 refine sg<|Pl 1<|nt<|rt<|tr<|rr (.bool false)<|?_
 have hs:dt b=false:=by unfold dt;rw[decide_eq_false (by omega)];rfl
 rw[hs]
 exact⟨rfl,(aE.refl [] _)⟩
 have i:=of_decide_eq_false a
 refine bq<|sg<|Pl 2<|L0<|Oi (((b.length:Nat) : Int)-2)<|lh (tH (P:=Tryz.prog) 22 5 1 Tryz.underlying22 rfl rfl A b.length cp (k:=(((b.length:Nat) : Int)-2)) (((((b.length:Nat) : Int)-2)).toNat) (by omega) (by omega) (by omega)) fun f hrun12 g=>L0<|ie (.slice f (((((b.length:Nat) : Int)-2)).toNat) cp) (n9 (kl:=.i64) (k:=(((b.length:Nat) : Int)-2)) (A:=A) (n:=b.length) (c:=cp) rfl Tryz.underlying22 (by kernel_rfl) (by kernel_rfl) (hrun12 _ _))<|L0<|Oc (args:=#[.int .u16 65535,.slice f (((((b.length:Nat) : Int)-2)).toNat) cp])<|m1 (v4 (g _ _ _ _ _ hsl)) fun z e=>?_
 have B:=gh (b.take (((((b.length:Nat) : Int)-2)).toNat)) (s:=65535) (by decide) (b7.range (g _ _ _ _ _ hsl))
 refine Pl 1<|ng<|Pl 2<|L0<|Oi (((b.length:Nat) : Int)-2)<|?_
 have h:=b7.old hsl e
 refine fA (b7.at_ h (((((b.length:Nat) : Int)-2)).toNat) (by omega)) fun j l o q C=>L0<|sB b.length (((((b.length:Nat) : Int)-2)).toNat) (((b.length:Nat) : Int)-2) (by omega) o (by omega)<|L0<|e8 (p:=⟨j,l+(((((b.length:Nat) : Int)-2)).toNat),none⟩) (v:=.int .u8 (b.getD (((((b.length:Nat) : Int)-2)).toNat) 0)) q<|Pl 1<|L0<|Oe (.int .u16 (Int.tmod (cG 65535 (b.take (((((b.length:Nat) : Int)-2)).toNat))) 256)) (.int .u16 ((cG 65535 (b.take (((((b.length:Nat) : Int)-2)).toNat)))%256)) (congrArg (Value.int .u16) (Int.tmod_eq_emod_of_nonneg (by omega)))<|Pl 3<|bl 23 (((b.getD (((((b.length:Nat) : Int)-2)).toNat) 0)==(((cG 65535 (b.take (((((b.length:Nat) : Int)-2)).toNat)))%256)%256))) (fun d=>?_) (fun d=>?_)
 have r:=al d
 refine Pl 2<|L1<|Oi (((b.length:Nat) : Int)-1)<|fA (b7.at_ h (((((b.length:Nat) : Int)-1)).toNat) (by omega)) fun t u x y D=>L1<|sB b.length (((((b.length:Nat) : Int)-1)).toNat) (((b.length:Nat) : Int)-1) (by omega) x (by omega)<|L1<|e8 (p:=⟨t,u+(((((b.length:Nat) : Int)-1)).toNat),none⟩) (v:=.int .u8 (b.getD (((((b.length:Nat) : Int)-1)).toNat) 0)) y<|Pl 1<|L1<|Oe (.int .u16 (IntKind.u16.wrap (Int.tdiv (cG 65535 (b.take (((((b.length:Nat) : Int)-2)).toNat))) 256))) (.int .u16 ((cG 65535 (b.take (((((b.length:Nat) : Int)-2)).toNat)))/256)) (congrArg (Value.int .u16) (oJ (by omega) (by omega)))<|Pl 4<|nt<|rt<|rr (.bool ((b.getD (((((b.length:Nat) : Int)-1)).toNat) 0)==(((cG 65535 (b.take (((((b.length:Nat) : Int)-2)).toNat)))/256)%256)))<|?_
 have hs:dt b=((b.getD (((((b.length:Nat) : Int)-1)).toNat) 0)==(((cG 65535 (b.take (((((b.length:Nat) : Int)-2)).toNat)))/256)%256)):=by rw[oO (by omega) hb];(try simp only[a,d,bs,if_true,if_false,decide_true,decide_false]);all_goals rfl
 rw[hs]
 exact⟨rfl,e⟩
 have r:=ap d
 refine Pl 11<|nt<|rt<|rr (.bool false)<|?_
 have hs:dt b=false:=by rw[oO (by omega) hb];(try simp only[a,d,bs,if_true,if_false,decide_true,decide_false]);all_goals rfl
 rw[hs]
 exact⟨rfl,e⟩
theorem wL{m:Md}{v:Value}{b:List Int}{w:World}(h:b7 m w v b)(hb:b.length≤1048576) : Calls Tryz.prog 117 #[v] w (cT (.bool (dt b)) w):=by
  obtain⟨A,cp,rfl,hc,_⟩:=h.shape
  exact wc h hb hc
open Go.RowKit
theorem mT{m:Md}{A:Option Addr}{cp:Nat}{b:List Int}{w:World}{dir:Int}(hsl:b7 m w (.slice A b.length cp) b)(hb:b.length≤1048576)(hcp:b.length≤cp) :
    Calls Tryz.prog 51 #[.int .i64 dir,.slice A b.length cp] w (mF (.slice A b.length cp) b (dU dir b) w):=by
 have hln:(b.length:Int)≤1048576:=by omega
 have hrb:=b7.range hsl
 refine en 49 Tryz.func51 rfl<|sg<|L0<|bI #[.int .u8 0,.int .u16 0,.int .u8 0,.int .u8 0,.int .u16 0,.int .u16 0,.int .u16 0,.int .u16 0,.int .u16 0,.int .u16 0,.int .u16 0,.int .u16 0,.int .u16 0,.int .u16 0,.slice none 0 0,.slice none 0 0,.slice none 0 0,.slice none 0 0,.int .u8 0,.int .u8 0,.int .u8 0,.int .u8 0,.int .u8 0,.slice none 0 0] fun av ax j e o=>Pl 1<|ng<|Pl 3<|nt<|sq<|sq<|?_
 refine go<|Pl 3<|cu 3 [14] 17 (((dir != 0)&&(dir != 1))) (fun K C=>?_) ?_
 refine bl 14 ((dir != 0)) (fun p=>?_) (fun p=>?_)
 have V:=au p
 exact Pl 3<|ce C (dir != 1) (by rw[p];rfl)
 have V:=ai p
 exact Pl 3<|ce C false (by rw[p];rfl)
 refine nt<|cb (((dir != 0)&&(dir != 1))) (fun d=>?_) (fun d=>?_)
 have D:=(aS d).1
 have E:=(aS d).2
 have ay:=au D
 have az:=au E
 refine sg<|Pl 1<|L0<|b6 e #[.int .u8 0,.int .u16 0,.int .u8 0,.int .u8 0,.int .u16 0,.int .u16 0,.int .u16 0,.int .u16 0,.int .u16 0,.int .u16 0,.int .u16 0,.int .u16 0,.int .u16 0,.int .u16 0,.slice none 0 0,.slice none 0 0,.slice none 0 0,.slice none 0 0,.int .u8 0,.int .u8 0,.int .u8 0,.int .u8 0,.int .u8 0,.slice none 0 0] fun aA W X=>Pl 1<|nt<|rt<|tr<|bF W (.int .i64 1)<|?_
 have hs:dU dir b=(gZ.zero,1):=by
   unfold dU
   (try simp only[d,D,E,bs,if_true,if_false,decide_true,decide_false,fC,reduceIte])
   all_goals rfl
 refine iC hs ?_
 exact gg (ud o X j)
 refine bq<|sq<|sg<|Pl 2<|nt<|cb ((decide (((b.length:Nat) : Int)<4))) (fun f=>?_) (fun f=>?_)
 have Y:=of_decide_eq_true f
 refine sg<|Pl 1<|L0<|b6 e #[.int .u8 0,.int .u16 0,.int .u8 0,.int .u8 0,.int .u16 0,.int .u16 0,.int .u16 0,.int .u16 0,.int .u16 0,.int .u16 0,.int .u16 0,.int .u16 0,.int .u16 0,.int .u16 0,.slice none 0 0,.slice none 0 0,.slice none 0 0,.slice none 0 0,.int .u8 0,.int .u8 0,.int .u8 0,.int .u8 0,.int .u8 0,.slice none 0 0] fun aC Z a0=>Pl 1<|nt<|rt<|tr<|bF Z (.int .i64 2)<|?_
 have hs:dU dir b=(gZ.zero,2):=by
   unfold dU
   (try simp only[d,f,bs,if_true,if_false,decide_true,decide_false,fC,reduceIte])
   all_goals rfl
 refine iC hs ?_
 exact gg (ud o a0 j)
 have Y:=of_decide_eq_false f
 refine bq<|sq<|sg<|Pl 2<|nt<|cb ((decide (256<((b.length:Nat) : Int)))) (fun h=>?_) (fun h=>?_)
 have a1:=of_decide_eq_true h
 refine sg<|Pl 1<|L0<|b6 e #[.int .u8 0,.int .u16 0,.int .u8 0,.int .u8 0,.int .u16 0,.int .u16 0,.int .u16 0,.int .u16 0,.int .u16 0,.int .u16 0,.int .u16 0,.int .u16 0,.int .u16 0,.int .u16 0,.slice none 0 0,.slice none 0 0,.slice none 0 0,.slice none 0 0,.int .u8 0,.int .u8 0,.int .u8 0,.int .u8 0,.int .u8 0,.slice none 0 0] fun aD a2 a3=>Pl 1<|nt<|rt<|tr<|bF a2 (.int .i64 3)<|?_
 have hs:dU dir b=(gZ.zero,3):=by
   unfold dU
   (try simp only[d,f,h,bs,if_true,if_false,decide_true,decide_false,fC,reduceIte])
   all_goals rfl
 refine iC hs ?_
 exact gg (ud o a3 j)
 have a1:=of_decide_eq_false h
 refine bq<|sg<|Pl 1<|?_
 have F:=b7.old hsl o
 refine L0<|Oc (args:=#[.slice A b.length cp])<|m1 (wL F (by omega)) fun aE i=>Pl 1<|nt<|sq<|sg<|Pl 2<|nt<|?_
 have G:=aI o i
 refine cb ((!(dt b))) (fun k=>?_) (fun k=>?_)
 have t:(dt b)=false:=by simpa using k
 refine sg<|Pl 1<|?_
 refine L0<|b6 (ub i e) #[.int .u8 0,.int .u16 0,.int .u8 0,.int .u8 0,.int .u16 0,.int .u16 0,.int .u16 0,.int .u16 0,.int .u16 0,.int .u16 0,.int .u16 0,.int .u16 0,.int .u16 0,.int .u16 0,.slice none 0 0,.slice none 0 0,.slice none 0 0,.slice none 0 0,.int .u8 0,.int .u8 0,.int .u8 0,.int .u8 0,.int .u8 0,.slice none 0 0] fun aF a4 a5=>Pl 1<|nt<|rt<|tr<|bF a4 (.int .i64 10)<|?_
 have hs:dU dir b=(gZ.zero,10):=by
   unfold dU
   (try simp only[d,f,h,k,t,bs,if_true,if_false,decide_true,decide_false,fC,reduceIte])
   all_goals rfl
 refine iC hs ?_
 exact gg (ud G a5 j)
 have t:(dt b)=true:=by simpa using k
 refine bq<|sg<|Pl 3<|L0<|Oi (((b.length:Nat) : Int)-2)<|lh (gx (P:=Tryz.prog) 22 5 1 Tryz.underlying22 rfl rfl A b.length cp (lo:=1) (up:=(((b.length:Nat) : Int)-2)) 1 (((((b.length:Nat) : Int)-2)).toNat) (by omega) (by omega) (by omega) (by omega) (by omega)) fun a6 hrun43 H=>L0<|ie (.slice a6 ((((((b.length:Nat) : Int)-2)).toNat)-1) (cp-1)) (eT (kl:=.i64) (kh:=.i64) (lo:=1) (hi:=(((b.length:Nat) : Int)-2)) (A:=A) (n:=b.length) (c:=cp) rfl Tryz.underlying22 (by kernel_rfl) (by kernel_rfl) (by kernel_rfl) (hrun43 _ _ _))<|?_
 have I:=b7.old F i
 refine pr (dB dir ((b.take (((((b.length:Nat) : Int)-2)).toNat)).drop 1)) fun a r z=>?_
 refine L0<|Oc<|e2 (lD z (H _ _ _ _ _ I) (by rw[List.length_drop,List.length_take];omega)) fun x49 aH a7 B=>?_
 have a8:=d8.sub a7 (fun m' w' q=>(H _ _ _ _ _ q))
 refine Pl 3<|L0<|bI mZ fun J aJ L a9 aa=>L0<|b6 a9 (se a x49) fun aK ac ae=>Pl 1<|nt<|sq<|sg<|Pl 2<|nt<|?_
 have M:=ud aa ae L
 have u:=aI B M
 have N:=aI G u
 refine cb ((r != 0)) (fun s=>?_) (fun s=>?_)
 have af:=au s
 refine sg<|Pl 2<|?_
 refine L0<|b6 (ub (aI i u) e) #[.int .u8 0,.int .u16 0,.int .u8 0,.int .u8 0,.int .u16 0,.int .u16 0,.int .u16 0,.int .u16 0,.int .u16 0,.int .u16 0,.int .u16 0,.int .u16 0,.int .u16 0,.int .u16 0,.slice none 0 0,.slice none 0 0,.slice none 0 0,.slice none 0 0,.int .u8 0,.int .u8 0,.int .u8 0,.int .u8 0,.int .u8 0,.slice none 0 0] fun aL ag ah=>Pl 1<|nt<|rt<|tr<|bF ag (.int .i64 r)<|?_
 have hX2:dB dir (fR b)=(a,r):=(congrArg (dB dir) (fV b)).trans z
 have hs:dU dir b=(gZ.zero,r):=by
   unfold dU
   (try simp only[d,f,h,k,t,s,bs,if_true,if_false,decide_true,decide_false,fC,hX2,reduceIte])
   all_goals rfl
 refine iC hs ?_
 exact gg (ud N ah j)
 have af:=ai s
 refine bq<|sq<|?_
 refine fA (b7.at_ (b7.old I u) 0 (by omega)) fun aj al O an aM=>Rg 8 (fun w'=>w'.cell? ⟨aj,al+0,none⟩=some (.int .u8 (b.getD 0 0))∧w'.heap[J]? = some (.cells (se a x49) 30 (0,0))) fun aN v=>?_
 have Q:=ub v ac
 refine bh ⟨(uc v an),Q⟩ fun l=>Rt 0 l<|oh 1 l b.length 0 0 rfl O (by omega)<|Rl 2 l (fun _ hs=>hs.1)<|Rt 3 l<|Rr 4 l (.agg (se a x49)) (fun w' hs=>jj (g:=J) (off:=0) [.int .u8 a.code,.int .u8 a.fail,.int .u16 a.addr,.int .u16 a.count,.int .u16 a.value,.int .u16 a.and_,.int .u16 a.or_,.int .u16 a.addr2,.int .u16 a.sub,.int .u16 a.status,.int .u16 a.events,.int .u16 a.messages,.slice x49.aw a.words.length x49.kw,.slice x49.ab a.bits.length x49.kb,.slice x49.ad a.data.length x49.kd,.slice x49.ar a.recs.length x49.kr,.int .u8 a.mei,.int .u8 a.kind,.int .u8 a.level,.int .u8 a.more,.int .u8 a.next,.slice x49.ao a.objects.length x49.ko] rfl (by kernel_rfl) hs.2 (by kernel_rfl) (by kernel_rfl) rfl)<|Rt 5 l<|?_
 have R:=aI u v
 have S:=aI i R
 refine R0 6 rfl<|b6 (ub S e) (tW (b.getD 0 0) 0 a x49) fun aO ap y=>?_
 have T:=uz v y
 have aP:=uz R y
 have aR:=uz S y
 have U:=ud N T j
 refine bh ⟨(cB (b7.old hsl U) O 0 (by omega)),(aT y (Ne.symm (nb (ak e) (le i.size B.size) L)) Q)⟩ fun aq=>Rt 7 aq<|re<|tn<|rt<|bF ap (.int .i64 0)<|?_
 have hX2:dB dir (fR b)=(a,r):=(congrArg (dB dir) (fV b)).trans z
 have hs:dU dir b=(⟨(b.getD 0 0),0,a⟩,0):=by
   unfold dU
   (try simp only[d,f,h,k,t,s,bs,if_true,if_false,decide_true,decide_false,fC,hX2,reduceIte])
   all_goals rfl
 refine iC hs ?_
 exact⟨x49,rfl,⟨(d8.upd a8 (uz M T) (am (aQ (ub (aI i B) e) (by decide)) aG)),b8 (x:=(b.getD 0 0)) (by omega),aB (x:=0) (by omega)⟩,U⟩
theorem o5{m:Md}{v:Value}{b:List Int}{w:World}{dir:Int}(h:b7 m w v b)(hb:b.length≤1048576) : Calls Tryz.prog 51 #[.int .i64 dir,v] w (mF v b (dU dir b) w):=by
  obtain⟨A,cp,rfl,hc,_⟩:=h.shape
  exact mT h hb hc
theorem lq{m:Md}{v:Value}{b:List Int}{w:World}{dir:Int}{F:gZ}{E:Int}(hX:dU dir b=(F,E))(h:b7 m w v b)(hb:b.length≤1048576) : Calls Tryz.prog 51 #[.int .i64 dir,v] w (fun e w'=>∃ x,e = .returned (.tuple #[.agg (tW F.unit F.tid F.msg x),.int .i64 E])∧(d8 v b w' (se F.msg x).toList F.msg∧(0≤F.unit∧F.unit<256)∧(0≤F.tid∧F.tid<65536))∧aE [] w w'):=by
  refine(o5 h hb).mono ?_
  rintro e w' ⟨x,rfl,h1,h2⟩
  rw[hX] at h1 ⊢
  exact⟨x,rfl,h1,h2⟩
open Go.RowKit
theorem ly{w:World}{dir:Int}{mA:Md}{A:Option Addr}{cpA:Nat}{b:List Int}(hb:b7 mA w (.slice A b.length cpA) b) :
    Calls Tryz.prog 9 #[.int .i64 dir,.slice A b.length cpA] w (cT (.bool true) w):=by
 refine en 47 Tryz.func9 rfl<|sg<|Pl 1<|ng<|L0<|Oc<|m1 (@tb _) fun U e=>Pl 1<|nt<|sq<|sq<|?_
 refine go<|Pl 3<|nt<|cb ((decide (700<((b.length:Nat) : Int)))) (fun f=>?_) (fun f=>?_)
 have C:=of_decide_eq_true f
 refine sg<|Pl 2<|nt<|rt<|tr<|rr (.bool true)<|?_
 exact⟨rfl,e⟩
 have C:=of_decide_eq_false f
 refine bq<|sg<|Pl 2<|?_
 have n:=b7.old hb e
 refine pr (dU dir b) fun a g h=>?_
 refine L0<|Oc<|e2 (iL h n (by omega)) fun x17 V D E=>?_
 obtain⟨F,W,X⟩:=D
 refine Pl 3<|L0<|bI #[.int .u8 0,.int .u16 0,.int .u8 0,.int .u8 0,.int .u16 0,.int .u16 0,.int .u16 0,.int .u16 0,.int .u16 0,.int .u16 0,.int .u16 0,.int .u16 0,.int .u16 0,.int .u16 0,.slice none 0 0,.slice none 0 0,.slice none 0 0,.slice none 0 0,.int .u8 0,.int .u8 0,.int .u8 0,.int .u8 0,.int .u8 0,.slice none 0 0] fun Y Z G H I=>L0<|b6 H (tW a.unit a.tid a.msg x17) fun a0 o J=>Pl 1<|ng<|Pl 2<|?_
 have p:=ud I J G
 have q:=aI E p
 have r:=b7.old n q
 refine pr (dU dir b) fun c i j=>?_
 refine L0<|Oc<|e2 (lq j r (by omega)) fun x38 a1 L k=>?_
 obtain⟨M,a2,a3⟩:=L
 have N:=d8.rd M (b7.old r k)
 refine Pl 3<|L0<|bI #[.int .u8 0,.int .u16 0,.int .u8 0,.int .u8 0,.int .u16 0,.int .u16 0,.int .u16 0,.int .u16 0,.int .u16 0,.int .u16 0,.int .u16 0,.int .u16 0,.int .u16 0,.int .u16 0,.slice none 0 0,.slice none 0 0,.slice none 0 0,.slice none 0 0,.int .u8 0,.int .u8 0,.int .u8 0,.int .u8 0,.int .u8 0,.slice none 0 0] fun a4 a5 s O t=>L0<|b6 O (tW c.unit c.tid c.msg x38) fun a6 u v=>Pl 1<|ng<|Pl 7<|cu 6 [33] 39 (((g==i)&&((a.unit==c.unit)&&(a.tid==c.tid)))) (fun K x=>?_) ?_
 refine bl 33 ((g==i)) (fun d=>?_) (fun d=>?_)
 have P:=al d
 refine Pl 1<|?_
 exact L1<|uO (ub (aI k (ud t v s)) o) 0 2<|Pl 1<|L1<|uO u 0 2<|L1<|ie (.bool ((a.unit==c.unit)&&(a.tid==c.tid))) (nH a.unit a.tid c.unit c.tid rfl (by kernel_rfl) (by kernel_rfl) rfl)<|Pl 1<|ce x ((a.unit==c.unit)&&(a.tid==c.tid)) (by rw[d];rfl)
 have P:=ap d
 exact Pl 6<|ce x false (by rw[d];rfl)
 refine Pl 1<|?_
 have y:=ud t v s
 have l:=aI k y
 have z:=aI e (aI q l)
 refine bl 40 (((g==i)&&((a.unit==c.unit)&&(a.tid==c.tid)))) (fun m=>?_) (fun m=>?_)
 have Q:=(aS m).1
 have B:=(aS m).2
 have a7:=al Q
 have R:=(aS B).1
 have S:=(aS B).2
 have q64bap:=al R
 have q64bbp:=al S
 refine Pl 1<|?_
 refine L1<|uO (ub l o) 2 22<|Pl 1<|L1<|uO u 2 22<|?_
 refine L1<|Oc<|m1 (pX (aW.upd F (aI p l) aG) (aW.upd N y aG)) fun a8 T=>Pl 2<|nt<|rt<|rr (.bool (decide (a.msg=c.msg)))<|?_
 have hs:(decide (a.msg=c.msg))=true:=by obtain⟨rfl,rfl⟩:=Prod.mk.inj (h.symm.trans j);first | (simp;done) | (exfalso;simp_all)
 rw[hs]
 exact⟨rfl,(aI z T)⟩
 refine Pl 7<|nt<|rt<|rr (.bool false)<|?_
 have hs:false=true:=by obtain⟨rfl,rfl⟩:=Prod.mk.inj (h.symm.trans j);first | (simp;done) | (exfalso;simp_all)
 rw[hs]
 exact⟨rfl,z⟩
theorem kn{w:World}{dir:Int}{mA:Md}{vA:Value}{b:List Int}(hb:b7 mA w vA b) : Calls Tryz.prog 9 #[.int .i64 dir,vA] w (cT (.bool true) w):=by
  obtain⟨AA,cpA,rfl,_,_⟩:=hb.shape
  exact ly (dir:=dir) hb
open Go.RowKit
section
variable {H:Type}{enc:TypeId × Value→H}{P:Program}{w:World}{base:Nat}{spare:Nat→Bool}{held:Bool}
theorem mw(b off:Nat)(sp:Option Nat)(n:Nat)(h:sp=none) : (⟨b,off,sp⟩ : Addr).add n=⟨b,off+n,none⟩:=gM b off n sp h
theorem pE{b off:Nat}{sp:Option Nat}{v:Value}(h:w.cell? ⟨b,off,sp⟩=some v) : sp=none:=by
  cases sp with
  | none=>rfl
  | some s =>
    unfold World.cell? at h
    simp at h
    split at h<;>cases h
theorem rC{α:Type}{Pd:DataW H→Prop}{R:World→α→List Value→Prop}{t e:TypeId}{sz fuel:Nat}{cs:List Value}{x:DataW H × List MemPlace}(ht:P.underlying t=some (.slice e))(hsz:P.cellsOf e=sz)(hp:0<sz)
    (hel:∀ n cs' y,cs'.length=sz→DataW.trod enc P w base spare held n e cs'=some y→Pd y.1→∃ x,R w x cs') (hP:∀ elems spare,x.1 = .slice elems spare→∀ d,d∈elems→Pd d) (h:DataW.trod enc P w base spare held fuel t cs=some x) : ∃ v xs,cs=[v]∧aK false e sz R w v xs:=by
  rcases Go.Deep.open_slice ht h with⟨rfl,_⟩|⟨a,len,cap,m,n,D,Pl,rfl,_,hl,hm,hmm,hxe,hx⟩
  · exact⟨_,[],rfl,aK.nil ..⟩
  have hlm:len≤m:=by rw[hmm];split<;>omega
  have key:∀ i:Fin len,∃ y:α × List Value,w.cells? base (a.add (i*sz)) sz=some y.2∧y.2.length=sz∧R w y.1 y.2:=fun i=>by
    obtain⟨cs',h1,h2⟩:=hx i (by omega)
    rw[hsz] at h1
    obtain⟨_,hlen,_⟩:=World.cells?_some h1
    obtain⟨y,hy⟩:=hel n cs' _ hlen h2 (hP _ _ (by rw[hxe]) _ (List.mem_map.2 ⟨i.1,List.mem_range.2 i.2,rfl⟩))
    exact⟨(y,cs'),h1,hlen,hy⟩
  obtain⟨f,hf⟩:=Classical.axiomOfChoice key
  refine⟨_,List.ofFn fun i=>(f i).1,rfl,some a,cap,by simp,by simpa using hl,hm,(fun h=>by cases h),fun hpos=>?_⟩
  have hpos':0<len:=by simpa using hpos
  obtain⟨b,off,sp⟩:=a
  have hsp:sp=none:=by
    obtain⟨h1,h2,_⟩:=hf ⟨0,hpos'⟩
    obtain⟨_,_,h3⟩:=World.cells?_some h1
    have h4:=h3 0 hp
    rw[List.getElem?_eq_getElem (by omega)] at h4
    cases sp with
    | none=>rfl
    | some s =>
      simp[Addr.add] at h4
      exact pE h4
  subst hsp
  have hc:∀ i:Fin len,∀ k u,(f i).2[k]? = some u→w.cell? ⟨b,off+i*sz+k,none⟩=some u:=fun i k u hu=>by
    obtain⟨h1,h2,_⟩:=hf i
    obtain⟨_,_,h3⟩:=World.cells?_some h1
    have hk:k<sz:=by have:=(List.getElem?_eq_some_iff.1 hu).1;omega
    have h4:=h3 k hk
    rw[mw _ _ _ _ rfl,mw _ _ _ _ rfl] at h4
    rw[h4,hu]
  have h0:∃ u,w.cell? ⟨b,off+0*sz+0,none⟩=some u:=by
    obtain⟨_,h2,_⟩:=hf ⟨0,hpos'⟩
    exact⟨_,hc ⟨0,hpos'⟩ 0 _ (List.getElem?_eq_getElem (by omega))⟩
  obtain⟨u,hu⟩:=h0
  unfold World.cell? at hu
  split at hu
  · rename_i cells t' fr hb
    refine⟨b,off,cells,t',fr,rfl,hb,fun h=>(by cases h),fun j y hj=>?_⟩
    have hjl:j<len:=by have:=(List.getElem?_eq_some_iff.1 hj).1;simpa using this
    have hy:(f ⟨j,hjl⟩).1=y:=by
      rw[List.getElem?_ofFn] at hj
      simpa [hjl] using hj
    obtain⟨_,h2,h3⟩:=hf ⟨j,hjl⟩
    refine⟨(f ⟨j,hjl⟩).2,h2,by rw[← hy];exact h3,fun i u hi=>?_⟩
    have:=hc ⟨j,hjl⟩ i u hi
    rw[bu hb] at this
    exact this
  · cases hu
theorem sF{α:Type}{R:World→α→List Value→Prop}{t e:TypeId}{sz fuel:Nat}{cs:List Value}{x:DataW H × List MemPlace}(ht:P.underlying t=some (.slice e))(hsz:P.cellsOf e=sz)(hp:0<sz)
    (hel:∀ n cs' y,cs'.length=sz→DataW.trod enc P w base spare held n e cs'=some y→∃ x,R w x cs') (h:DataW.trod enc P w base spare held fuel t cs=some x) : ∃ v xs,cs=[v]∧aK false e sz R w v xs :=
  rC (Pd:=fun _=>True) ht hsz hp (fun n cs' y h1 h2 _=>hel n cs' y h1 h2) (fun _ _ _ _ _=>trivial) h
end
section
variable {H:Type}{enc:TypeId × Value→H}{w:World}{base:Nat}{spare:Nat→Bool}{held:Bool}{n:Nat}{y:DataW H × List MemPlace}
theorem ve{cs:List Value}(h:DataW.trod enc Tryz.prog w base spare held n 5 cs=some y) : ∃ x,sY w x cs:=by
  obtain⟨k,rfl,_,hw⟩:=DataW.trod_int Tryz.underlying5 h
  exact⟨k,rfl,p5 hw⟩
theorem vl{cs:List Value}(h:DataW.trod enc Tryz.prog w base spare held n 22 cs=some y) : ∃ v xs,cs=[v]∧b7 false w v xs:=sF Tryz.underlying22 (by kernel_rfl) (by decide) (fun _ _ _ _ h=>ve h) h
end
open Go.RowKit
section
variable {H:Type}{enc:TypeId × Value→H}{w:World}{base:Nat}{spare:Nat→Bool}{held:Bool}{n:Nat}{y:DataW H × List MemPlace}
end
open Go.RowKit
section
variable {H:Type}{enc:TypeId × Value→H}{w:World}{base:Nat}{spare:Nat→Bool}{held:Bool}{n:Nat}{y:DataW H × List MemPlace}
end
end Go.Proofs.YtogbnemojakcpaaGreat
