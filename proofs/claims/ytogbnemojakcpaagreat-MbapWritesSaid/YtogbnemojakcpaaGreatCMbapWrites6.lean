/- Contracts of functions, part CMbapWrites6. -/
import Derived.Test.YtogbnemojakcpaaGreatCMbapWrites1
import Derived.Test.YtogbnemojakcpaaGreatCMbapWrites2
import Derived.Test.YtogbnemojakcpaaGreatCMbapWrites3
import Derived.Test.YtogbnemojakcpaaGreatCMbapWrites4
import Derived.Test.YtogbnemojakcpaaGreatCMbapWrites5
import Derived.Lib.ConvBytes
import Derived.Lib.OthersKept
import Derived.Laws.BitsAllLaws
import Derived.Shelf.Strings.Builder1
set_option linter.unusedVariables false
set_option linter.unusedSimpArgs false
set_option maxRecDepth 100000
set_option maxHeartbeats 4000000
namespace Go.Proofs.YtogbnemojakcpaaGreat
open Go.RowKit
theorem RC.safe{w0:World}{m:Md}{A:Option Addr}{cp:Nat}{full:List Int}{w:World}{g:Nat}{C:aj}(h:RC w0 m A cp full w g C)(D:List TypeId)(hD:159∉D) : dm true D [g] w:=by
  obtain⟨k,h1,_⟩:=h.cell
  exact dm.one h1 hD
theorem RC.nrow{α:Type}{base sz n c:Nat}{e:TypeId}{R:World→α→List Value→Prop}{B:Option Addr}{xs:List α}{w0:World}{m:Md}{A:Option Addr}{cp:Nat}{full:List Int}{w:World}{g:Nat}{C:aj}(h:RC w0 m A cp full w g C)(ho:aW base e sz R w (.slice B n c) xs)(ht:(159==e)=false) : g∉ob B:=by
  obtain⟨k,h1,_⟩:=h.cell
  exact dI h1 ho ht
theorem RC.fld2{w0:World}{m:Md}{A:Option Addr}{cp:Nat}{full:List Int}{w:World}{g:Nat}{C:aj}(h:RC w0 m A cp full w g C) : w.cell? ⟨g,2,none⟩=some (.bool C.sh):=by
  obtain⟨k,h1,_⟩:=h.cell
  rw[bB h1]
  rfl
def vO (w0:World)(m:Md)(A:Option Addr)(cp:Nat)(full:List Int)(g:Nat)(C':aj)(r:dr)(w:World)(e:Ending)(w':World) : Prop:=e = .returned (.agg #[.int .u16 r.file,.int .u16 r.record,.int .u16 r.count,.slice none 0 0])∧dB r.file∧dB r.record∧dB r.count∧RC w0 m A cp full w' g C'∧aF [g] w w'
theorem ml{x:Int}(h : -1≤x∧x≤255) : 0≤Int.tdiv x 2∧Int.tdiv x 2≤127:=by
  by_cases h0:x = -1
  · subst h0;decide
  · rw[Int.tdiv_eq_ediv_of_nonneg (by omega)]
    omega
theorem ig{one:Int→aj→Int × aj × dr}{n:Nat}{s:Int}{C:aj}{L:List dr}{R:aj × List dr}(h3:(C.e=0∧C.l.length≤n∧aU one n s C L=R)∨(C.e≠0∧R.1=C))(hc:0<C.l.length)(he:C.e=0)(hlt:(one s C).2.1.l.length<C.l.length) :
    ((one s C).2.1.e=0∧(one s C).2.1.l.length≤n-1∧aU one (n-1) (one s C).1 (one s C).2.1 (L++[(one s C).2.2])=R)∨((one s C).2.1.e≠0∧R.1=(one s C).2.1):=by
  rcases h3 with⟨_,hn,hR⟩|⟨h,_⟩
  · obtain⟨k,rfl⟩ : ∃ k,n=k+1:=⟨n-1,by omega⟩
    unfold aU at hR
    rw[if_pos (by rw[he];simpa using hc)] at hR
    by_cases hz:(one s C).2.1.e=0
    · rw[if_neg (by rw[hz];decide)] at hR
      exact .inl ⟨hz,by omega,hR⟩
    · rw[if_pos (by simpa using hz)] at hR
      exact .inr ⟨hz,by rw[← hR]⟩
  · exact absurd he h
theorem fA{one:Int→aj→Int × aj × dr}{n:Nat}{s:Int}{C:aj}{L:List dr}{R:aj × List dr}(h3:(C.e=0∧C.l.length≤n∧aU one n s C L=R)∨(C.e≠0∧R.1=C))(hq:(decide (0<((C.l.length:Nat) : Int))&&C.e==0)=false) : R.1.e=C.e∧(C.e=0→R.2=L):=by
  rcases h3 with⟨he,hn,hR⟩|⟨h,h2⟩
  · rw[gH one n s C L hq] at hR
    rw[← hR]
    exact⟨rfl,fun _=>rfl⟩
  · rw[h2]
    exact⟨rfl,fun h3=>absurd h3 h⟩
def fZ (R:aj × List dr)(w:World)(e:Ending)(w':World) : Prop:=∃ A2 n2 c2,e = .returned (.tuple #[.slice A2 n2 c2,.int .i64 (bq R.1.e)])∧(bq R.1.e=0→aW w.heap.size 109 4 (bv true) w' (.slice A2 n2 c2) R.2)∧aF [] w w'
theorem kK{f:FuncId}{args:Array Value}{R:aj × List dr}{w:World}(h:Calls Tryz.prog f args w (fZ R w))(h0:bq R.1.e=0) : Calls Tryz.prog f args w (fun e w'=>∃ v,e = .returned (.tuple #[v,.int .i64 0])∧aW w.heap.size 109 4 (bv true) w' v R.2∧aF [] w w'):=by
  refine h.mono ?_
  rintro e w' ⟨A2,n2,c2,rfl,h1,h2⟩
  exact⟨_,by rw[h0],h1 h0,h2⟩
theorem jr{f:FuncId}{args:Array Value}{R:aj × List dr}{w:World}(h:Calls Tryz.prog f args w (fZ R w)) : Calls Tryz.prog f args w (fun e w'=>∃ A2 n2 c2,e = .returned (.tuple #[.slice A2 n2 c2,.int .i64 (bq R.1.e)])∧aF [] w w'):=by
  refine h.mono ?_
  rintro e w' ⟨A2,n2,c2,rfl,h1,h2⟩
  exact⟨A2,n2,c2,rfl,h2⟩
theorem vM{w0:World}{m:Md}{A:Option Addr}{cp:Nat}{full:List Int}{w:World}{g:Nat}{C:aj}(hC:RC w0 m A cp full w g C) : Calls Tryz.prog 218 #[.pointer (some ⟨g,0,none⟩)] w (vO w0 m A cp full g (dF C) (aT C) w):=by
 have hr:eN C:=RC.rng hC
 refine en 42 Tryz.func218 rfl<|sg<|L0<|bO #[.int .u16 0,.int .u16 0,.int .u16 0,.slice none 0 0] fun N O b i a=>ng<|Pl 1<|?_
 refine L0<|Oc<|m3 (ee (RC.upd hC a aA (aF.step (RC.u hC) a))) fun P c j Q=>Pl 1<|ng<|Pl 4<|L0<|ez (p:=⟨g,2,none⟩) (v:=.bool ((C.bytesC 1).sh)) (RC.fld2 c)<|Pl 1<|L0<|Oc<|m2 (b7 ((!((C.bytesC 1).sh))) 5 c) fun R k l=>ng<|?_
 refine Pl 3<|L0<|Oc<|m2 (b7 ((C.byteV==6)) 9 k) fun S n o=>?_
 refine fR n fun x26 q r=>?_
 refine ng<|Pl 1<|L0<|Oc<|m3 (d7 r) fun T s t U=>Pl 1<|ng<|Pl 3<|L0<|Oc<|m2 (b7 ((decide (0<x26.wordV))) 6 s) fun V y z=>nl<|?_
 refine tn<|sg<|Pl 1<|L0<|Oc<|m3 (d7 y) fun W B D X=>Pl 1<|ng<|Pl 3<|L0<|Oc<|m2 (b7 ((decide ((((x26.wordsC 1).need (decide (0<x26.wordV)) 6).wordV)≤9999))) 7 B) fun Y E F=>?_
 refine fR E fun x43 G H=>?_
 refine ng<|Pl 1<|L0<|Oc<|m3 (d7 H) fun Z I J a0=>Pl 1<|ng<|Pl 3<|L0<|Oc<|m2 (b7 ((decide (0<x43.wordV))) 5 I) fun a1 K L=>nl<|?_
 refine tn<|sg<|Pl 4<|?_
 have d:=u1 j (u1 l (u1 o (u1 t (u1 z (u1 D (u1 F (u1 J L im) im) im) im) im) im) im) im
 have e:=nb (RC.lt hC) lr b
 refine L0<|be (b6 d (Ne.symm e) i) #[.int .u16 x26.wordV,.int .u16 (((x26.wordsC 1).need (decide (0<x26.wordV)) 6).wordV),.int .u16 x43.wordV,.slice none 0 0] fun a2 M f=>nt<|rt<|xi M<|?_
 subst G q
 have e1:dF C=(((((((((C.bytesC 1).need (!((C.bytesC 1).sh)) 5).need (C.byteV==6) 9).wordsC 1).need (decide (0<(((C.bytesC 1).need (!((C.bytesC 1).sh)) 5).need (C.byteV==6) 9).wordV)) 6).wordsC 1).need (decide (((((((C.bytesC 1).need (!((C.bytesC 1).sh)) 5).need (C.byteV==6) 9).wordsC 1).need (decide (0<(((C.bytesC 1).need (!((C.bytesC 1).sh)) 5).need (C.byteV==6) 9).wordV)) 6).wordV)≤9999)) 7).wordsC 1).need (decide (0<(((((((C.bytesC 1).need (!((C.bytesC 1).sh)) 5).need (C.byteV==6) 9).wordsC 1).need (decide (0<(((C.bytesC 1).need (!((C.bytesC 1).sh)) 5).need (C.byteV==6) 9).wordV)) 6).wordsC 1).need (decide (((((((C.bytesC 1).need (!((C.bytesC 1).sh)) 5).need (C.byteV==6) 9).wordsC 1).need (decide (0<(((C.bytesC 1).need (!((C.bytesC 1).sh)) 5).need (C.byteV==6) 9).wordV)) 6).wordV)≤9999)) 7).wordV)) 5):=by rw[← rL hr];rfl
 have e2:(aT C).file=(((C.bytesC 1).need (!((C.bytesC 1).sh)) 5).need (C.byteV==6) 9).wordV:=by show(eu C).wordV=_;rw[← sH];rfl
 have e3:(aT C).record=(((((C.bytesC 1).need (!((C.bytesC 1).sh)) 5).need (C.byteV==6) 9).wordsC 1).need (decide (0<(((C.bytesC 1).need (!((C.bytesC 1).sh)) 5).need (C.byteV==6) 9).wordV)) 6).wordV:=by show(iw C).wordV=_;rw[← sM hr];rfl
 have e4:(aT C).count=(((((((C.bytesC 1).need (!((C.bytesC 1).sh)) 5).need (C.byteV==6) 9).wordsC 1).need (decide (0<(((C.bytesC 1).need (!((C.bytesC 1).sh)) 5).need (C.byteV==6) 9).wordV)) 6).wordsC 1).need (decide (((((((C.bytesC 1).need (!((C.bytesC 1).sh)) 5).need (C.byteV==6) 9).wordsC 1).need (decide (0<(((C.bytesC 1).need (!((C.bytesC 1).sh)) 5).need (C.byteV==6) 9).wordV)) 6).wordV)≤9999)) 7).wordV:=by show(lx C).wordV=_;rw[← ss hr];rfl
 have h:=ue a (us d f) b
 unfold vO
 rw[e1,e2,e3,e4]
 exact⟨rfl,aD (by omega),aD (by omega),aD (by omega),(RC.upd K f (aa e aA) (hC.u.trans' h (fun x hx=>.inr (by simp at hx;subst hx;exact hC.new)))),h⟩
theorem t8{m:Md}{A:Option Addr}{cp:Nat}{b:List Int}{w:World}(hsl:bh m w (.slice A b.length cp) b)(hb:b.length≤1048576) :
    Calls Tryz.prog 163 #[.int .i64 0,.int .u8 20,.slice A b.length cp] w (fZ (aU cX b.length 0 ⟨b,false,0⟩ []) w):=by
 have hln:(b.length:Int)≤1048576:=by omega
 refine en 108 Tryz.func163 rfl<|sg<|Pl 2<|ng<|Pl 2<|L0<|dv #[.slice A b.length cp,.int .i64 0,.bool false,.int .i64 0] fun d U E a8 F=>Pl 1<|nt<|sq<|?_
 refine go<|Pl 1<|ng<|Pl 1<|nt<|sq<|bk<|?_
 have V:RC w _ A cp b U d (aj.mk b false 0):=⟨hsl,F,E,⟨0,a8,Nat.zero_le _,rfl⟩,by omega⟩
 refine js (fun x=>[(0,.int .i64 0),(1,.int .u8 20),(6,.slice none 0 0),(7,.int .i64 0),(8,.pointer (some ⟨d,0,none⟩)),(9,.slice x.2.2.2.1 x.2.2.1.length x.2.2.2.2.1),(10,.int .i64 x.2.2.2.2.2)]) (fun(x:Nat × aj × List dr × Option Addr × Nat × Int) w'=>aF [] w w'∧U.heap.size≤w'.heap.size∧RC w m A cp b w' d x.2.1∧aW w.heap.size 109 4 (bv true) w' (.slice x.2.2.2.1 x.2.2.1.length x.2.2.2.2.1) x.2.2.1∧(0≤x.2.2.2.2.2)∧(x.2.1.e=0→x.2.2.2.2.2≤245)∧(x.2.2.1.length+x.2.1.l.length≤b.length)∧((x.2.1.e=0∧x.2.1.l.length≤x.1∧aU cX x.1 x.2.2.2.2.2 x.2.1 x.2.2.1=aU cX b.length 0 ⟨b,false,0⟩ [])∨(x.2.1.e≠0∧(aU cX b.length 0 ⟨b,false,0⟩ []).1=x.2.1))) (fun x=>x.2.1.l.length) (b.length,(aj.mk b false 0),[],none,0,0) ⟨F,lr,V,(aW.nil w.heap.size _ _ (bv true) _),(by(try dsimp only);omega),(fun _=>(show(0:Int)≤245 from by decide)),(by(try dsimp only);simp),.inl ⟨rfl,Nat.le_refl _,rfl⟩⟩ ?_
 rintro⟨n,C,L,B,cq,s⟩ W ⟨a9,G,ab,ad,af,ag,ah,ai⟩
 refine ju [(0,.int .i64 0),(1,.int .u8 20),(6,.slice none 0 0),(7,.int .i64 0),(8,.pointer (some ⟨d,0,none⟩)),(9,.slice B L.length cq),(10,.int .i64 s)] ?_
 have a:RC w m A cp b W d C:=ab
 have hlC:=RC.clen a
 have hrC:eN C:=RC.rng a
 have i:aW w.heap.size 109 4 (bv true) W (.slice B L.length cq) L:=ad
 have aN:0≤s:=af
 have aO:C.e=0→s≤245:=ag
 have aQ:L.length+C.l.length≤b.length:=ah
 have H:(C.e=0∧C.l.length≤n∧aU cX n s C L=aU cX b.length 0 ⟨b,false,0⟩ [])∨(C.e≠0∧(aU cX b.length 0 ⟨b,false,0⟩ []).1=C):=ai
 refine sq<|sg<|Pl 1<|L0<|Oc<|m1 (iy a) fun aR c=>?_
 have aV:=RC.clen a
 refine Pl 2<|cu 6 [20] 26 (((decide (0<((C.l.length:Nat) : Int)))&&(C.e==0))) (fun K X=>?_) ?_
 refine bl 20 ((decide (0<((C.l.length:Nat) : Int)))) (fun j=>?_) (fun j=>?_)
 have am:=of_decide_eq_true j
 refine Pl 3<|?_
 exact L1<|ez (p:=⟨d,3,none⟩) (v:=.int .i64 C.e) (RC.fld (RC.upd a c aA (aF.step (RC.u a) c)))<|Pl 2<|ce X (C.e==0) (by rw[j];rfl)
 have am:=of_decide_eq_false j
 exact Pl 6<|ce X false (by rw[j];rfl)
 refine nt<|?_
 have I:=aG a9 c
 refine cb (((decide (0<((C.l.length:Nat) : Int)))&&(C.e==0))) (fun f=>?_) (fun f=>?_)
 have J:=(aZ f).1
 have M:=(aZ f).2
 have aX:=of_decide_eq_true J
 have aY:=ae M
 refine bp<|bk<|sg<|Pl 1<|L0<|bO #[.int .u16 0,.int .u16 0,.int .u16 0,.slice none 0 0] fun b0 b1 k an N=>L0<|be an #[.int .u16 0,.int .u16 0,.int .u16 0,.slice none 0 0] fun b2 ao O=>nt<|sq<|sg<|Pl 6<|nl<|?_
 refine tn<|c0<|sg<|Pl 1<|?_
 have Y:=ud N O k
 have r:=aG c Y
 refine L0<|Oc<|m5 (vM (RC.upd a r aA (aF.step (RC.u a) r))) fun b3 ap ar au aw t=>?_
 obtain⟨b4,b5⟩:=ap
 obtain⟨b8,b9⟩:=ar
 obtain⟨ba,bb⟩:=au
 have P:=nb (RC.lt V) (le G c.size) k
 refine L0<|be (b6 t (Ne.symm P) ao) #[.int .u16 ((aT C).file),.int .u16 ((aT C).record),.int .u16 ((aT C).count),.slice none 0 0] fun bc Z y=>ng<|Pl 2<|nt<|c0<|sg<|Pl 1<|L0<|Oi (s+2)<|Pl 1<|L0<|aP Z 2<|?_
 refine L0<|Oi ((aT C).count)<|L0<|Oi (2*((aT C).count))<|L0<|Oi ((s+2)+(2*((aT C).count)))<|Pl 1<|nt<|go<|Pl 3<|?_
 have Q:=us t y
 have a0:=ud I (ue Y Q k) E
 refine L0<|Oc<|m2 (b7 ((decide (((s+2)+(2*((aT C).count)))≤245))) 5 (RC.upd aw y (aa P aA) a0)) fun bd az o=>?_
 refine fR az fun x68 aB a1=>?_
 refine nt<|go<|Pl 1<|?_
 refine L0<|bS (b6 o (Ne.symm P) Z)<|L0<|cK (m:=1) (e:=109) #[.int .u16 ((aT C).file),.int .u16 ((aT C).record),.int .u16 ((aT C).count),.slice none 0 0] fun bg bi bm aC z=>?_
 have aE:=kg (R:=bv true) (x:=(dr.mk ((aT C).file) ((aT C).record) ((aT C).count) ([]))) aC rfl ⟨_,rfl,(aS.nil true _ _ _ _),aD (x:=(aT C).file) (by omega),aD (x:=(aT C).record) (by omega),aD (x:=(aT C).count) (by omega)⟩
 have a2:=aG o z
 have a3:=ue r (u1 Q a2 im) (le c.size k)
 have a4:=aq i a3 (fun x hx=>(aa (fun e=>(RC.nrow a i (by decide)) (e▸hx)) aA)) (bv.upd16 a3 (ax (RC.safe a _ (by decide)) aK))
 refine L0<|gX (xs:=L) (ys:=([(dr.mk ((aT C).file) ((aT C).record) ((aT C).count) ([]))])) (.agg #[.int .u16 0,.int .u16 0,.int .u16 0,.slice none 0 0]) 4 32 a4 aE (by simp) bv.ones (fun w' hv=>bv.upd16 hv (d9 (dC _ a4 (by decide)) aK)) (by(try simp only[List.length_append,List.length_cons,List.length_nil,ay]);omega) (le (le (le (le (le (le (le (le F.size G) c.size) N.size) O.size) t.size) y.size) o.size) z.size) fun aH aI bo aJ S=>Pl 1<|nl<|bn<|?_
 subst aB
 have hC2:(cX s C).2.1=((dF C).need (decide (((s+2)+(2*((aT C).count)))≤245)) 5):=by show eC s C=_;(try simp only[eC,eM,← Int.add_assoc,f,J,M,bs,if_true,if_false,decide_true,decide_false]);all_goals rfl
 have hM2:[(cX s C).2.2]=[(dr.mk ((aT C).file) ((aT C).record) ((aT C).count) ([]))]:=by show[aT C]=_;(try simp only[eC,eM,← Int.add_assoc,f,J,M,bs,if_true,if_false,decide_true,decide_false]);all_goals rfl
 have hS2:(cX s C).1=((s+2)+(2*((aT C).count))):=by(try (show eM s C=_));(try simp only[eM,← Int.add_assoc]);all_goals rfl
 have hlt:=mV s C (by omega)
 have h9:=ig (one:=cX) H (by omega) (by omega) hlt
 rw[hC2,hM2,hS2] at h9
 rw[hC2] at hlt
 have a5:=ut a0 (ut (aF.mono (S':=(d :: (ob B++[]))) a2 (ac im av)) S (al il av)) (ac (nr E) (al (aM i lr) av))
 have a6:=ue r (u1 Q o im) (le c.size k)
 exact gM ((n-1),((dF C).need (decide (((s+2)+(2*((aT C).count)))≤245)) 5),(L++[(dr.mk ((aT C).file) ((aT C).record) ((aT C).count) ([]))]),aH,aI,((s+2)+(2*((aT C).count)))) ⟨a5,(le (le (le (le (le (le (le (le G c.size) N.size) O.size) t.size) y.size) o.size) z.size) S.size),(RC.upd a1 (ut (aF.mono (S':=(ob B++[])) z av) S (al il av)) (bf (RC.nrow a1 (aq i a6 (fun x hx=>(aa (fun e=>(RC.nrow a i (by decide)) (e▸hx)) aA)) (bv.upd16 a6 (ax (RC.safe a _ (by decide)) aK))) (by decide)) aA) a5),aJ,(by(try dsimp only);omega),(by(try dsimp only);intro he;have hk:=(fW (by decide) he).2;simp only[decide_eq_true_eq] at hk;omega),(by(try dsimp only);simp only[List.length_append,List.length_cons,List.length_nil];omega),h9⟩ (by omega)
 refine xt<|tx<|tx<|bx<|tn<|sq<|sg<|Pl 3<|?_
 have T:=RC.upd a c aA (aF.step (RC.u a) c)
 refine L0<|ez (p:=⟨d,3,none⟩) (v:=.int .i64 C.e) (RC.fld T)<|Pl 1<|nt<|cb ((C.e==2)) (fun q=>?_) (fun q=>?_)
 have aL:=ae q
 refine sg<|Pl 2<|nt<|rt<|tr<|rr (.tuple #[.slice none 0 0,.int .i64 5])<|?_
 obtain⟨eu,iw⟩:=fA H f
 have hw:bq (aU cX b.length 0 ⟨b,false,0⟩ []).1.e=5:=by unfold bq;rw[eu,if_pos q]
 refine⟨none,0,0,by rw[hw],fun h=>absurd (hw.symm.trans h) (by decide),I⟩
 have aL:=ak q
 refine bp<|sq<|Rg 7 (fun w'=>w'.cell? ⟨d,3,none⟩=some (.int .i64 C.e)) fun br D=>?_
 refine bj (RC.fld (RC.upd T D aA (aF.step (RC.u T) D))) fun g=>Rt 0 g<|Rt 1 g<|Rt 2 g<|Rt 3 g<|Rl 4 g (fun _ hs=>hs)<|Rt 5 g<|Rt 6 g<|re<|tn<|rt<|rr (.tuple #[.slice B L.length cq,.int .i64 C.e])<|?_
 obtain⟨eu,iw⟩:=fA H f
 have hw:bq (aU cX b.length 0 ⟨b,false,0⟩ []).1.e=C.e:=by unfold bq;rw[eu,if_neg (by rw[q];decide)]
 have a7:=aG c D
 refine⟨_,_,_,by rw[hw],fun h=>by rw[iw (hw.symm.trans h)];exact(aq i a7 (fun x hx=>aA) (bv.upd16 a7 aK)),(aG I D)⟩
theorem sr{m:Md}{A:Option Addr}{cp:Nat}{b:List Int}{w:World}(hsl:bh m w (.slice A b.length cp) b)(hb:b.length≤1048576) :
    Calls Tryz.prog 163 #[.int .i64 1,.int .u8 20,.slice A b.length cp] w (fZ (aU bH b.length 0 ⟨b,false,0⟩ []) w):=by
 have hln:(b.length:Int)≤1048576:=by omega
 refine en 108 Tryz.func163 rfl<|sg<|Pl 2<|ng<|Pl 2<|L0<|dv #[.slice A b.length cp,.int .i64 0,.bool false,.int .i64 0] fun f ah M b9 N=>Pl 1<|nt<|sq<|?_
 refine go<|Pl 1<|ng<|Pl 1<|nt<|sq<|bk<|?_
 have Z:RC w _ A cp b ah f (aj.mk b false 0):=⟨hsl,N,M,⟨0,b9,Nat.zero_le _,rfl⟩,by omega⟩
 refine js (fun x=>[(0,.int .i64 1),(1,.int .u8 20),(6,.slice none 0 0),(7,.int .i64 0),(8,.pointer (some ⟨f,0,none⟩)),(9,.slice x.2.2.2.1 x.2.2.1.length x.2.2.2.2.1),(10,.int .i64 x.2.2.2.2.2)]) (fun(x:Nat × aj × List dr × Option Addr × Nat × Int) w'=>aF [] w w'∧ah.heap.size≤w'.heap.size∧RC w m A cp b w' f x.2.1∧aW w.heap.size 109 4 (bv true) w' (.slice x.2.2.2.1 x.2.2.1.length x.2.2.2.2.1) x.2.2.1∧(0≤x.2.2.2.2.2)∧(x.2.1.e=0→x.2.2.2.2.2≤245)∧(x.2.2.1.length+x.2.1.l.length≤b.length)∧((x.2.1.e=0∧x.2.1.l.length≤x.1∧aU bH x.1 x.2.2.2.2.2 x.2.1 x.2.2.1=aU bH b.length 0 ⟨b,false,0⟩ [])∨(x.2.1.e≠0∧(aU bH b.length 0 ⟨b,false,0⟩ []).1=x.2.1))) (fun x=>x.2.1.l.length) (b.length,(aj.mk b false 0),[],none,0,0) ⟨N,lr,Z,(aW.nil w.heap.size _ _ (bv true) _),(by(try dsimp only);omega),(fun _=>(show(0:Int)≤245 from by decide)),(by(try dsimp only);simp),.inl ⟨rfl,Nat.le_refl _,rfl⟩⟩ ?_
 rintro⟨n,C,L,B,cq,s⟩ ai ⟨ba,r,bb,bc,bd,bg,bi,bm⟩
 refine ju [(0,.int .i64 1),(1,.int .u8 20),(6,.slice none 0 0),(7,.int .i64 0),(8,.pointer (some ⟨f,0,none⟩)),(9,.slice B L.length cq),(10,.int .i64 s)] ?_
 have a:RC w m A cp b ai f C:=bb
 have hlC:=RC.clen a
 have hrC:eN C:=RC.rng a
 have d:aW w.heap.size 109 4 (bv true) ai (.slice B L.length cq) L:=bc
 have bY:0≤s:=bd
 have bZ:C.e=0→s≤245:=bg
 have c0:L.length+C.l.length≤b.length:=bi
 have O:(C.e=0∧C.l.length≤n∧aU bH n s C L=aU bH b.length 0 ⟨b,false,0⟩ [])∨(C.e≠0∧(aU bH b.length 0 ⟨b,false,0⟩ []).1=C):=bm
 refine sq<|sg<|Pl 1<|L0<|Oc<|m1 (iy a) fun c2 c=>?_
 have c3:=RC.clen a
 refine Pl 2<|cu 6 [20] 26 (((decide (0<((C.l.length:Nat) : Int)))&&(C.e==0))) (fun K am=>?_) ?_
 refine bl 20 ((decide (0<((C.l.length:Nat) : Int)))) (fun z=>?_) (fun z=>?_)
 have bo:=of_decide_eq_true z
 refine Pl 3<|?_
 exact L1<|ez (p:=⟨f,3,none⟩) (v:=.int .i64 C.e) (RC.fld (RC.upd a c aA (aF.step (RC.u a) c)))<|Pl 2<|ce am (C.e==0) (by rw[z];rfl)
 have bo:=of_decide_eq_false z
 exact Pl 6<|ce am false (by rw[z];rfl)
 refine nt<|?_
 have D:=aG ba c
 refine cb (((decide (0<((C.l.length:Nat) : Int)))&&(C.e==0))) (fun g=>?_) (fun g=>?_)
 have E:=(aZ g).1
 have F:=(aZ g).2
 have c4:=of_decide_eq_true E
 have c5:=ae F
 refine bp<|bk<|sg<|Pl 1<|L0<|bO #[.int .u16 0,.int .u16 0,.int .u16 0,.slice none 0 0] fun P c6 j a0 G=>L0<|be a0 #[.int .u16 0,.int .u16 0,.int .u16 0,.slice none 0 0] fun c7 an k=>nt<|sq<|sg<|Pl 6<|nl<|?_
 refine tn<|c1<|sg<|Pl 1<|?_
 have ao:=ud G k j
 have t:=aG c ao
 refine L0<|Oc<|m3 (ee (RC.upd a t aA (aF.step (RC.u a) t))) fun c8 H i c9=>L0<|Oi C.byteV<|Pl 1<|ng<|Pl 2<|L0<|Oe (.int .i64 (Int.tmod C.byteV 2)) (.int .i64 (C.byteV%2)) (congrArg (Value.int .i64) (Int.tmod_eq_emod_of_nonneg (by omega)))<|Pl 2<|cu 3 [41] 44 ((((C.byteV%2)==1)&&(decide (3≤C.byteV)))) (fun K ap=>?_) ?_
 refine bl 41 (((C.byteV%2)==1)) (fun I=>?_) (fun I=>?_)
 have br:=ae I
 exact Pl 3<|ce ap (decide (3≤C.byteV)) (by rw[I];rfl)
 have br:=ak I
 exact Pl 3<|ce ap false (by rw[I];rfl)
 refine Pl 1<|?_
 have ar:=ud D (uz ao i) M
 refine bl 45 ((((C.byteV%2)==1)&&(decide (3≤C.byteV)))) (fun o=>?_) (fun o=>?_)
 have a1:=(aZ o).1
 have a2:=(aZ o).2
 have ca:=ae a1
 have cc:=of_decide_eq_true a2
 refine Pl 2<|L1<|Oc<|m1 (iy H) fun cd y=>?_
 have cf:=RC.clen H
 refine Pl 2<|?_
 refine L0<|Oc<|m2 (b7 ((decide (C.byteV≤(((C.bytesC 1).l.length:Nat) : Int)))) 5 (RC.upd H y aA (aF.step (RC.u H) y))) fun cg bt Q=>?_
 refine fR bt fun x66 bu bw=>?_
 refine ng<|Pl 1<|L0<|Oc<|m3 (ee bw) fun ch bz S ci=>Pl 1<|ng<|Pl 3<|L0<|Oc<|m2 (b7 ((x66.byteV==6)) 9 bz) fun ck bA T=>nl<|?_
 refine tn<|go<|Pl 2<|L0<|Oi (C.byteV-1)<|?_
 have cl:=ml (x:=(C.byteV-1)) (by omega)
 refine L0<|Oe (.int .i64 (IntKind.i64.wrap (Int.tdiv (C.byteV-1) 2))) (.int .i64 (Int.tdiv (C.byteV-1) 2)) (congrArg (Value.int .i64) (kx (by omega) (by omega)))<|L0<|Oc<|mS (gc (n:=(Int.tdiv (C.byteV-1) 2)) (by omega) bA) fun aw az cm aC cn co bB a3=>?_
 refine fR bB fun x82 bC aE=>?_
 refine Pl 1<|?_
 have aH:=uz y (u1 Q (u1 S (u1 T a3 im) im) im)
 have a4:=u1 i aH im
 have aI:=nb (RC.lt Z) (le r c.size) j
 refine L0<|cj (b6 a4 (Ne.symm aI) an) 3 #[.int .u16 0,.int .u16 0,.int .u16 0,.slice aw ((((x66.bytesC 1).need (x66.byteV==6) 9).wordsR (Int.tdiv (C.byteV-1) 2)).length) az] fun cr bD a5=>nt<|go<|Pl 1<|L0<|bS bD<|L0<|cK (m:=1) (e:=109) #[.int .u16 0,.int .u16 0,.int .u16 0,.slice aw ((((x66.bytesC 1).need (x66.byteV==6) 9).wordsR (Int.tdiv (C.byteV-1) 2)).length) az] fun cs ct cv bE a6=>?_
 have a7:=aG a5 a6
 have bF:=kg (R:=bv true) (x:=(dr.mk 0 0 0 (((x66.bytesC 1).need (x66.byteV==6) 9).wordsR (Int.tdiv (C.byteV-1) 2)))) bE rfl ⟨_,rfl,((aq aC a7 (fun x hx=>(aa (fun e=>(aB (au a0) (le (le (le (le (le k.size i.size) y.size) Q.size) S.size) T.size) aC) (e▸hx)) aA)) (fun _ _ h=>h))).rd,aD (x:=0) (by omega),aD (x:=0) (by omega),aD (x:=0) (by omega)⟩
 have aJ:=ue t (us a4 a7) (le c.size j)
 have aL:=aq d aJ (fun x hx=>(aa (fun e=>(RC.nrow a d (by decide)) (e▸hx)) aA)) (bv.upd16 aJ (ax (RC.safe a _ (by decide)) aK))
 refine L0<|gX (xs:=L) (ys:=([(dr.mk 0 0 0 (((x66.bytesC 1).need (x66.byteV==6) 9).wordsR (Int.tdiv (C.byteV-1) 2)))])) (.agg #[.int .u16 0,.int .u16 0,.int .u16 0,.slice none 0 0]) 4 32 aL bF (by simp) bv.ones (fun w' hv=>bv.upd16 hv (d9 (dC _ aL (by decide)) aK)) (by(try simp only[List.length_append,List.length_cons,List.length_nil,ay]);omega) (le (le (le (le (le (le (le (le (le (le (le (le N.size r) c.size) G.size) k.size) i.size) y.size) Q.size) S.size) T.size) a3.size) a5.size) a6.size) fun bG bI cw bJ aN=>Pl 1<|nl<|bn<|?_
 subst bC bu
 have hC2:(bH s C).2.1=(((((C.bytesC 1).need (decide (C.byteV≤(((C.bytesC 1).l.length:Nat) : Int))) 5).bytesC 1).need (((C.bytesC 1).need (decide (C.byteV≤(((C.bytesC 1).l.length:Nat) : Int))) 5).byteV==6) 9).wordsC (Int.tdiv (C.byteV-1) 2)):=by show eQ C=_;(try simp only[eQ,eO,fQ,gZ,g,E,F,o,a1,a2,bs,if_true,if_false,decide_true,decide_false]);all_goals rfl
 have hM2:[(bH s C).2.2]=[(dr.mk 0 0 0 (((((C.bytesC 1).need (decide (C.byteV≤(((C.bytesC 1).l.length:Nat) : Int))) 5).bytesC 1).need (((C.bytesC 1).need (decide (C.byteV≤(((C.bytesC 1).l.length:Nat) : Int))) 5).byteV==6) 9).wordsR (Int.tdiv (C.byteV-1) 2)))]:=by show[eO C]=_;(try simp only[eQ,eO,fQ,gZ,g,E,F,o,a1,a2,bs,if_true,if_false,decide_true,decide_false]);all_goals rfl
 have hS2:(bH s C).1=s:=by(try (show s=_));(try simp only[eM,← Int.add_assoc]);all_goals rfl
 have hlt:=iS s C (by omega)
 have h9:=ig (one:=bH) O (by omega) (by omega) hlt
 rw[hC2,hM2,hS2] at h9
 rw[hC2] at hlt
 have aO:=ut (aF.mono (S':=(P :: (ob B++[]))) a7 (ac im av)) aN (al il av)
 have aP:=ut ar (ut (aF.mono (S':=(f :: (P :: (ob B++[])))) aH (ac im av)) aO (ac im (al il av))) (ac (nr M) (ac (ni D.size j) (al (aM d lr) av)))
 have aQ:=uz t a4
 exact gM ((n-1),(((((C.bytesC 1).need (decide (C.byteV≤(((C.bytesC 1).l.length:Nat) : Int))) 5).bytesC 1).need (((C.bytesC 1).need (decide (C.byteV≤(((C.bytesC 1).l.length:Nat) : Int))) 5).byteV==6) 9).wordsC (Int.tdiv (C.byteV-1) 2)),(L++[(dr.mk 0 0 0 (((((C.bytesC 1).need (decide (C.byteV≤(((C.bytesC 1).l.length:Nat) : Int))) 5).bytesC 1).need (((C.bytesC 1).need (decide (C.byteV≤(((C.bytesC 1).l.length:Nat) : Int))) 5).byteV==6) 9).wordsR (Int.tdiv (C.byteV-1) 2)))]),bG,bI,s) ⟨aP,(le (le (le (le (le (le (le (le (le (le (le (le r c.size) G.size) k.size) i.size) y.size) Q.size) S.size) T.size) a3.size) a5.size) a6.size) aN.size),(RC.upd aE aO (aa aI (bf (RC.nrow aE (aq d aQ (fun x hx=>(aa (fun e=>(RC.nrow a d (by decide)) (e▸hx)) aA)) (bv.upd16 aQ (ax (RC.safe a _ (by decide)) aK))) (by decide)) aA)) aP),bJ,(by(try dsimp only);omega),(by(try dsimp only);intro he;omega),(by(try dsimp only);simp only[List.length_append,List.length_cons,List.length_nil];omega),h9⟩ (by omega)
 refine Pl 5<|L0<|Oc<|m2 (b7 (false) 5 H) fun cx bK U=>ng<|Pl 1<|L0<|Oc<|m3 (ee bK) fun cy bL V cz=>Pl 1<|ng<|Pl 3<|L0<|Oc<|m2 (b7 (((((C.bytesC 1).need false 5).byteV)==6)) 9 bL) fun cA bM W=>?_
 refine fR bM fun X bN bP=>?_
 refine nt<|go<|Pl 2<|L0<|Oi (C.byteV-1)<|?_
 have cB:=ml (x:=(C.byteV-1)) (by omega)
 refine L0<|Oe (.int .i64 (IntKind.i64.wrap (Int.tdiv (C.byteV-1) 2))) (.int .i64 (Int.tdiv (C.byteV-1) 2)) (congrArg (Value.int .i64) (kx (by omega) (by omega)))<|L0<|Oc<|mS (gc (n:=(Int.tdiv (C.byteV-1) 2)) (by omega) bP) fun aR aS cC aT cD cE aV a8=>Pl 1<|?_
 have aX:=u1 U (u1 V (u1 W a8 im) im) im
 have a9:=u1 i aX im
 have aY:=nb (RC.lt Z) (le r c.size) j
 refine L0<|cj (b6 a9 (Ne.symm aY) an) 3 #[.int .u16 0,.int .u16 0,.int .u16 0,.slice aR ((X.wordsR (Int.tdiv (C.byteV-1) 2)).length) aS] fun cF bQ ab=>nt<|go<|Pl 1<|L0<|bS bQ<|L0<|cK (m:=1) (e:=109) #[.int .u16 0,.int .u16 0,.int .u16 0,.slice aR ((X.wordsR (Int.tdiv (C.byteV-1) 2)).length) aS] fun cG cH cI bR ad=>?_
 have af:=aG ab ad
 have bT:=kg (R:=bv true) (x:=(dr.mk 0 0 0 (X.wordsR (Int.tdiv (C.byteV-1) 2)))) bR rfl ⟨_,rfl,((aq aT af (fun x hx=>(aa (fun e=>(aB (au a0) (le (le (le (le k.size i.size) U.size) V.size) W.size) aT) (e▸hx)) aA)) (fun _ _ h=>h))).rd,aD (x:=0) (by omega),aD (x:=0) (by omega),aD (x:=0) (by omega)⟩
 have b0:=ue t (us a9 af) (le c.size j)
 have b1:=aq d b0 (fun x hx=>(aa (fun e=>(RC.nrow a d (by decide)) (e▸hx)) aA)) (bv.upd16 b0 (ax (RC.safe a _ (by decide)) aK))
 refine L0<|gX (xs:=L) (ys:=([(dr.mk 0 0 0 (X.wordsR (Int.tdiv (C.byteV-1) 2)))])) (.agg #[.int .u16 0,.int .u16 0,.int .u16 0,.slice none 0 0]) 4 32 b1 bT (by simp) bv.ones (fun w' hv=>bv.upd16 hv (d9 (dC _ b1 (by decide)) aK)) (by(try simp only[List.length_append,List.length_cons,List.length_nil,ay]);omega) (le (le (le (le (le (le (le (le (le (le (le N.size r) c.size) G.size) k.size) i.size) U.size) V.size) W.size) a8.size) ab.size) ad.size) fun bU bV cJ bW b2=>Pl 1<|nl<|bn<|?_
 subst bN
 have hC2:(bH s C).2.1=(((((C.bytesC 1).need false 5).bytesC 1).need ((((C.bytesC 1).need false 5).byteV)==6) 9).wordsC (Int.tdiv (C.byteV-1) 2)):=by show eQ C=_;(try simp only[eQ,eO,fQ,gZ,g,E,F,o,bs,if_true,if_false,decide_true,decide_false]);all_goals rfl
 have hM2:[(bH s C).2.2]=[(dr.mk 0 0 0 (((((C.bytesC 1).need false 5).bytesC 1).need ((((C.bytesC 1).need false 5).byteV)==6) 9).wordsR (Int.tdiv (C.byteV-1) 2)))]:=by show[eO C]=_;(try simp only[eQ,eO,fQ,gZ,g,E,F,o,bs,if_true,if_false,decide_true,decide_false]);all_goals rfl
 have hS2:(bH s C).1=s:=by(try (show s=_));(try simp only[eM,← Int.add_assoc]);all_goals rfl
 have hlt:=iS s C (by omega)
 have h9:=ig (one:=bH) O (by omega) (by omega) hlt
 rw[hC2,hM2,hS2] at h9
 rw[hC2] at hlt
 have b3:=ut (aF.mono (S':=(P :: (ob B++[]))) af (ac im av)) b2 (al il av)
 have b4:=ut ar (ut (aF.mono (S':=(f :: (P :: (ob B++[])))) aX (ac im av)) b3 (ac im (al il av))) (ac (nr M) (ac (ni D.size j) (al (aM d lr) av)))
 have b5:=uz t a9
 exact gM ((n-1),(((((C.bytesC 1).need false 5).bytesC 1).need ((((C.bytesC 1).need false 5).byteV)==6) 9).wordsC (Int.tdiv (C.byteV-1) 2)),(L++[(dr.mk 0 0 0 (((((C.bytesC 1).need false 5).bytesC 1).need ((((C.bytesC 1).need false 5).byteV)==6) 9).wordsR (Int.tdiv (C.byteV-1) 2)))]),bU,bV,s) ⟨b4,(le (le (le (le (le (le (le (le (le (le (le r c.size) G.size) k.size) i.size) U.size) V.size) W.size) a8.size) ab.size) ad.size) b2.size),(RC.upd aV b3 (aa aY (bf (RC.nrow aV (aq d b5 (fun x hx=>(aa (fun e=>(RC.nrow a d (by decide)) (e▸hx)) aA)) (bv.upd16 b5 (ax (RC.safe a _ (by decide)) aK))) (by decide)) aA)) b4),bW,(by(try dsimp only);omega),(by(try dsimp only);intro he;omega),(by(try dsimp only);simp only[List.length_append,List.length_cons,List.length_nil];omega),h9⟩ (by omega)
 refine xt<|tx<|tx<|bx<|tn<|sq<|sg<|Pl 3<|?_
 have ag:=RC.upd a c aA (aF.step (RC.u a) c)
 refine L0<|ez (p:=⟨f,3,none⟩) (v:=.int .i64 C.e) (RC.fld ag)<|Pl 1<|nt<|cb ((C.e==2)) (fun J=>?_) (fun J=>?_)
 have bX:=ae J
 refine sg<|Pl 2<|nt<|rt<|tr<|rr (.tuple #[.slice none 0 0,.int .i64 5])<|?_
 obtain⟨eu,iw⟩:=fA O g
 have hw:bq (aU bH b.length 0 ⟨b,false,0⟩ []).1.e=5:=by unfold bq;rw[eu,if_pos J]
 refine⟨none,0,0,by rw[hw],fun h=>absurd (hw.symm.trans h) (by decide),D⟩
 have bX:=ak J
 refine bp<|sq<|Rg 7 (fun w'=>w'.cell? ⟨f,3,none⟩=some (.int .i64 C.e)) fun cL Y=>?_
 refine bj (RC.fld (RC.upd ag Y aA (aF.step (RC.u ag) Y))) fun q=>Rt 0 q<|Rt 1 q<|Rt 2 q<|Rt 3 q<|Rl 4 q (fun _ hs=>hs)<|Rt 5 q<|Rt 6 q<|re<|tn<|rt<|rr (.tuple #[.slice B L.length cq,.int .i64 C.e])<|?_
 obtain⟨eu,iw⟩:=fA O g
 have hw:bq (aU bH b.length 0 ⟨b,false,0⟩ []).1.e=C.e:=by unfold bq;rw[eu,if_neg (by rw[J];decide)]
 have b8:=aG c Y
 refine⟨_,_,_,by rw[hw],fun h=>by rw[iw (hw.symm.trans h)];exact(aq d b8 (fun x hx=>aA) (bv.upd16 b8 aK)),(aG D Y)⟩
theorem t4{m:Md}{A:Option Addr}{cp:Nat}{b:List Int}{w:World}{dir:Int}(hsl:bh m w (.slice A b.length cp) b)(hb:b.length≤1048576) :
    Calls Tryz.prog 163 #[.int .i64 dir,.int .u8 21,.slice A b.length cp] w (fZ (aU cY b.length 0 ⟨b,false,0⟩ []) w):=by
 have hln:(b.length:Int)≤1048576:=by omega
 refine en 108 Tryz.func163 rfl<|sg<|Pl 2<|ng<|Pl 2<|L0<|dv #[.slice A b.length cp,.int .i64 0,.bool false,.int .i64 0] fun d a3 N aE O=>Pl 1<|nt<|sq<|?_
 refine go<|Pl 1<|ng<|Pl 1<|nt<|sq<|bk<|?_
 have a4:RC w _ A cp b a3 d (aj.mk b false 0):=⟨hsl,O,N,⟨0,aE,Nat.zero_le _,rfl⟩,by omega⟩
 refine js (fun x=>[(0,.int .i64 dir),(1,.int .u8 21),(6,.slice none 0 0),(7,.int .i64 0),(8,.pointer (some ⟨d,0,none⟩)),(9,.slice x.2.2.2.1 x.2.2.1.length x.2.2.2.2.1),(10,.int .i64 x.2.2.2.2.2)]) (fun(x:Nat × aj × List dr × Option Addr × Nat × Int) w'=>aF [] w w'∧a3.heap.size≤w'.heap.size∧RC w m A cp b w' d x.2.1∧aW w.heap.size 109 4 (bv true) w' (.slice x.2.2.2.1 x.2.2.1.length x.2.2.2.2.1) x.2.2.1∧(0≤x.2.2.2.2.2)∧(x.2.1.e=0→x.2.2.2.2.2≤245)∧(x.2.2.1.length+x.2.1.l.length≤b.length)∧((x.2.1.e=0∧x.2.1.l.length≤x.1∧aU cY x.1 x.2.2.2.2.2 x.2.1 x.2.2.1=aU cY b.length 0 ⟨b,false,0⟩ [])∨(x.2.1.e≠0∧(aU cY b.length 0 ⟨b,false,0⟩ []).1=x.2.1))) (fun x=>x.2.1.l.length) (b.length,(aj.mk b false 0),[],none,0,0) ⟨O,lr,a4,(aW.nil w.heap.size _ _ (bv true) _),(by(try dsimp only);omega),(fun _=>(show(0:Int)≤245 from by decide)),(by(try dsimp only);simp),.inl ⟨rfl,Nat.le_refl _,rfl⟩⟩ ?_
 rintro⟨n,C,L,B,cq,s⟩ a5 ⟨aH,P,aI,aJ,aL,aN,aO,aQ⟩
 refine ju [(0,.int .i64 dir),(1,.int .u8 21),(6,.slice none 0 0),(7,.int .i64 0),(8,.pointer (some ⟨d,0,none⟩)),(9,.slice B L.length cq),(10,.int .i64 s)] ?_
 have a:RC w m A cp b a5 d C:=aI
 have hlC:=RC.clen a
 have hrC:eN C:=RC.rng a
 have j:aW w.heap.size 109 4 (bv true) a5 (.slice B L.length cq) L:=aJ
 have bi:0≤s:=aL
 have bm:C.e=0→s≤245:=aN
 have bo:L.length+C.l.length≤b.length:=aO
 have Q:(C.e=0∧C.l.length≤n∧aU cY n s C L=aU cY b.length 0 ⟨b,false,0⟩ [])∨(C.e≠0∧(aU cY b.length 0 ⟨b,false,0⟩ []).1=C):=aQ
 refine sq<|sg<|Pl 1<|L0<|Oc<|m1 (iy a) fun br c=>?_
 have bt:=RC.clen a
 refine Pl 2<|cu 6 [20] 26 (((decide (0<((C.l.length:Nat) : Int)))&&(C.e==0))) (fun K a6=>?_) ?_
 refine bl 20 ((decide (0<((C.l.length:Nat) : Int)))) (fun r=>?_) (fun r=>?_)
 have aR:=of_decide_eq_true r
 refine Pl 3<|?_
 exact L1<|ez (p:=⟨d,3,none⟩) (v:=.int .i64 C.e) (RC.fld (RC.upd a c aA (aF.step (RC.u a) c)))<|Pl 2<|ce a6 (C.e==0) (by rw[r];rfl)
 have aR:=of_decide_eq_false r
 exact Pl 6<|ce a6 false (by rw[r];rfl)
 refine nt<|?_
 have F:=aG aH c
 refine cb (((decide (0<((C.l.length:Nat) : Int)))&&(C.e==0))) (fun g=>?_) (fun g=>?_)
 have S:=(aZ g).1
 have T:=(aZ g).2
 have bu:=of_decide_eq_true S
 have bw:=ae T
 refine bp<|bk<|sg<|Pl 1<|L0<|bO #[.int .u16 0,.int .u16 0,.int .u16 0,.slice none 0 0] fun U bz k a7 V=>L0<|be a7 #[.int .u16 0,.int .u16 0,.int .u16 0,.slice none 0 0] fun bA aS G=>nt<|sq<|sg<|Pl 6<|nl<|?_
 refine tn<|c0<|sg<|Pl 1<|?_
 have a8:=ud V G k
 have H:=aG c a8
 refine L0<|Oc<|m5 (vM (RC.upd a H aA (aF.step (RC.u a) H))) fun bB aV aX aY b0 t=>?_
 obtain⟨bC,bD⟩:=aV
 obtain⟨bE,bF⟩:=aX
 obtain⟨bG,bH⟩:=aY
 have y:=nb (RC.lt a4) (le P c.size) k
 refine L0<|be (b6 t (Ne.symm y) aS) #[.int .u16 ((aT C).file),.int .u16 ((aT C).record),.int .u16 ((aT C).count),.slice none 0 0] fun bI b1 I=>ng<|Pl 2<|nt<|c1<|sq<|Rg 9 (fun w'=>w'.cell? ⟨U,2,none⟩=some (.int .u16 ((aT C).count))) fun bJ z=>?_
 have a9:=ub z b1
 refine bj (ah a9 rfl) fun o=>Rt 0 o<|Rt 1 o<|Rl 2 o (fun _ hs=>hs)<|Rr 3 o (.int .i64 ((aT C).count)) (fun _ _=>bZ (.int .i64 (IntKind.i64.wrap ((aT C).count))) (by kernel_rfl) (congrArg (Value.int .i64) (i64_in (by omega))))<|Rr 4 o (.int .i64 (2*((aT C).count))) (fun _ _=>bZ (.int .i64 (IntKind.i64.wrap (2*((aT C).count)))) (by kernel_rfl) (congrArg (Value.int .i64) (IntWalk.i64_in _ (by omega))))<|Rt 5 o<|?_
 have ab:=aG I z
 have W:=us t ab
 have ad:=ud F (ue a8 W k) N
 have J:=RC.upd b0 ab (aa y aA) ad
 refine R0 6 rfl<|Oc<|m1 (iy J) fun bK f=>?_
 have bL:=RC.clen J
 have af:=ub f a9
 refine bj (ah af rfl) fun b2=>Rt 7 b2<|?_
 refine R0 8 rfl<|Oc<|m2 (b7 ((decide ((2*((aT C).count))≤(((dF C).l.length:Nat) : Int)))) 5 (RC.upd J f aA (aF.step (RC.u J) f))) fun bM b3 q=>?_
 refine fR b3 fun x93 b4 b5=>?_
 have X:=b6 q (Ne.symm y) af
 refine bj (ah X rfl) fun bN=>re<|tn<|go<|Pl 2<|L0<|aP X 2<|L0<|Oi ((aT C).count)<|L0<|Oc<|mS (gc (n:=(aT C).count) (by omega) b5) fun ag ai bP am bQ bR an D=>Pl 1<|?_
 refine L0<|cj (b6 D (Ne.symm y) X) 3 #[.int .u16 ((aT C).file),.int .u16 ((aT C).record),.int .u16 ((aT C).count),.slice ag ((x93.wordsR ((aT C).count)).length) ai] fun bT b8 Y=>nt<|go<|Pl 1<|L0<|bS b8<|L0<|cK (m:=1) (e:=109) #[.int .u16 ((aT C).file),.int .u16 ((aT C).record),.int .u16 ((aT C).count),.slice ag ((x93.wordsR ((aT C).count)).length) ai] fun bU bV bW b9 Z=>?_
 have a0:=aG Y Z
 have ba:=kg (R:=bv true) (x:=(dr.mk ((aT C).file) ((aT C).record) ((aT C).count) (x93.wordsR ((aT C).count)))) b9 rfl ⟨_,rfl,((aq am a0 (fun x hx=>(aa (fun e=>(aB (au a7) (le (le (le (le (le G.size t.size) I.size) z.size) f.size) q.size) am) (e▸hx)) aA)) (fun _ _ h=>h))).rd,aD (x:=(aT C).file) (by omega),aD (x:=(aT C).record) (by omega),aD (x:=(aT C).count) (by omega)⟩
 have ao:=uz f (ui q (us D a0))
 have ap:=ue H (ut W ao (ac im (ac im av))) (le c.size k)
 have ar:=aq j ap (fun x hx=>(aa (fun e=>(RC.nrow a j (by decide)) (e▸hx)) aA)) (bv.upd16 ap (ax (RC.safe a _ (by decide)) aK))
 refine L0<|gX (xs:=L) (ys:=([(dr.mk ((aT C).file) ((aT C).record) ((aT C).count) (x93.wordsR ((aT C).count)))])) (.agg #[.int .u16 0,.int .u16 0,.int .u16 0,.slice none 0 0]) 4 32 ar ba (by simp) bv.ones (fun w' hv=>bv.upd16 hv (d9 (dC _ ar (by decide)) aK)) (by(try simp only[List.length_append,List.length_cons,List.length_nil,ay]);omega) (le (le (le (le (le (le (le (le (le (le (le (le O.size P) c.size) V.size) G.size) t.size) I.size) z.size) f.size) q.size) D.size) Y.size) Z.size) fun bb bc bX bd a1=>Pl 1<|nl<|bn<|?_
 subst b4
 have hC2:(cY s C).2.1=(((dF C).need (decide ((2*((aT C).count))≤(((dF C).l.length:Nat) : Int))) 5).wordsC ((aT C).count)):=by show iC C=_;(try simp only[iC,iJ,lU,g,S,T,bs,if_true,if_false,decide_true,decide_false]);all_goals rfl
 have hM2:[(cY s C).2.2]=[(dr.mk ((aT C).file) ((aT C).record) ((aT C).count) (((dF C).need (decide ((2*((aT C).count))≤(((dF C).l.length:Nat) : Int))) 5).wordsR ((aT C).count)))]:=by show[iJ C]=_;(try simp only[iC,iJ,lU,g,S,T,bs,if_true,if_false,decide_true,decide_false]);all_goals rfl
 have hS2:(cY s C).1=s:=by(try (show s=_));(try simp only[eM,← Int.add_assoc]);all_goals rfl
 have hlt:=nj s C (by omega)
 have h9:=ig (one:=cY) Q (by omega) (by omega) hlt
 rw[hC2,hM2,hS2] at h9
 rw[hC2] at hlt
 have aw:=ut ad (ut (aF.mono (S':=(d :: (U :: (ob B++[])))) ao (ac im (ac im av))) a1 (al il av)) (ac (nr N) (ac (ni F.size k) (al (aM j lr) av)))
 have az:=ue H (u1 W (uz f (u1 q D im)) im) (le c.size k)
 exact gM ((n-1),(((dF C).need (decide ((2*((aT C).count))≤(((dF C).l.length:Nat) : Int))) 5).wordsC ((aT C).count)),(L++[(dr.mk ((aT C).file) ((aT C).record) ((aT C).count) (((dF C).need (decide ((2*((aT C).count))≤(((dF C).l.length:Nat) : Int))) 5).wordsR ((aT C).count)))]),bb,bc,s) ⟨aw,(le (le (le (le (le (le (le (le (le (le (le (le P c.size) V.size) G.size) t.size) I.size) z.size) f.size) q.size) D.size) Y.size) Z.size) a1.size),(RC.upd an (ut (aF.mono (S':=(U :: (ob B++[]))) a0 (ac im av)) a1 (al il av)) (aa y (bf (RC.nrow an (aq j az (fun x hx=>(aa (fun e=>(RC.nrow a j (by decide)) (e▸hx)) aA)) (bv.upd16 az (ax (RC.safe a _ (by decide)) aK))) (by decide)) aA)) aw),bd,(by(try dsimp only);omega),(by(try dsimp only);intro he;omega),(by(try dsimp only);simp only[List.length_append,List.length_cons,List.length_nil];omega),h9⟩ (by omega)
 refine xt<|tx<|tx<|bx<|tn<|sq<|sg<|Pl 3<|?_
 have a2:=RC.upd a c aA (aF.step (RC.u a) c)
 refine L0<|ez (p:=⟨d,3,none⟩) (v:=.int .i64 C.e) (RC.fld a2)<|Pl 1<|nt<|cb ((C.e==2)) (fun E=>?_) (fun E=>?_)
 have bg:=ae E
 refine sg<|Pl 2<|nt<|rt<|tr<|rr (.tuple #[.slice none 0 0,.int .i64 5])<|?_
 obtain⟨eu,iw⟩:=fA Q g
 have hw:bq (aU cY b.length 0 ⟨b,false,0⟩ []).1.e=5:=by unfold bq;rw[eu,if_pos E]
 refine⟨none,0,0,by rw[hw],fun h=>absurd (hw.symm.trans h) (by decide),F⟩
 have bg:=ak E
 refine bp<|sq<|Rg 7 (fun w'=>w'.cell? ⟨d,3,none⟩=some (.int .i64 C.e)) fun bY M=>?_
 refine bj (RC.fld (RC.upd a2 M aA (aF.step (RC.u a2) M))) fun i=>Rt 0 i<|Rt 1 i<|Rt 2 i<|Rt 3 i<|Rl 4 i (fun _ hs=>hs)<|Rt 5 i<|Rt 6 i<|re<|tn<|rt<|rr (.tuple #[.slice B L.length cq,.int .i64 C.e])<|?_
 obtain⟨eu,iw⟩:=fA Q g
 have hw:bq (aU cY b.length 0 ⟨b,false,0⟩ []).1.e=C.e:=by unfold bq;rw[eu,if_neg (by rw[E];decide)]
 have aC:=aG c M
 refine⟨_,_,_,by rw[hw],fun h=>by rw[iw (hw.symm.trans h)];exact(aq j aC (fun x hx=>aA) (bv.upd16 aC aK)),(aG F M)⟩
theorem mF{m:Md}{v:Value}{b:List Int}{w:World}(h:bh m w v b)(hb:b.length≤1048576) :
    Calls Tryz.prog 163 #[.int .i64 0,.int .u8 20,v] w (fZ (aU cX b.length 0 ⟨b,false,0⟩ []) w):=by
  obtain⟨A,cp,rfl,_,_⟩:=h.shape
  exact t8 h hb
theorem mK{m:Md}{v:Value}{b:List Int}{w:World}(h:bh m w v b)(hb:b.length≤1048576) :
    Calls Tryz.prog 163 #[.int .i64 1,.int .u8 20,v] w (fZ (aU bH b.length 0 ⟨b,false,0⟩ []) w):=by
  obtain⟨A,cp,rfl,_,_⟩:=h.shape
  exact sr h hb
theorem mb{m:Md}{v:Value}{b:List Int}{w:World}{dir:Int}(h:bh m w v b)(hb:b.length≤1048576) :
    Calls Tryz.prog 163 #[.int .i64 dir,.int .u8 21,v] w (fZ (aU cY b.length 0 ⟨b,false,0⟩ []) w):=by
  obtain⟨A,cp,rfl,_,_⟩:=h.shape
  exact t4 h hb
open Go.RowKit
theorem gE{x:Int}(h:bq x=0) : x=0:=by
  unfold bq at h
  split at h
  · cases h
  · exact h
theorem jA{x:Int}(h:¬ bq x=0) : (x != 0)=true:=by
  rw[bne_iff_ne]
  rintro rfl
  exact h rfl
theorem hG:((0:Int)!=0)=false:=rfl
theorem sn{m:Md}{A:Option Addr}{cp:Nat}{b:List Int}{w:World}(hsl:bh m w (.slice A b.length cp) b)(hb:b.length≤1048576) :
    Calls Tryz.prog 96 #[.int .i64 0,.int .u8 20,.slice A b.length cp] w (cM (.slice A b.length cp) b (bV cX eF 20 b) w):=by
 have hln:(b.length:Int)≤1048576:=by omega
 have hcp:b.length≤cp:=by obtain⟨_,_,hv,h1,_⟩:=aS.shape hsl;injection hv with _ _ h3;omega
 have hrb:=bh.range hsl
 refine en 101 Tryz.func96 rfl<|sg<|L0<|bO mZ fun a9 ab i g j=>Pl 1<|nt<|sq<|sg<|Pl 6<|nt<|c0<|?_
 refine bp<|sq<|sg<|Pl 6<|nt<|c0<|bp<|sq<|sg<|?_
 refine Pl 3<|nt<|cb ((((b.length:Nat) : Int)==0)) (fun a=>?_) (fun a=>?_)
 have J:=ae a
 refine sg<|Pl 1<|L0<|be g mZ fun ac L M=>Pl 1<|nt<|rt<|tr<|bP L (.int .i64 2)<|?_
 have hs:bV cX eF 20 b=(aQ.zero,2):=by
   unfold bV dR dh eF
   (try simp only[a,bs,if_true,if_false,decide_true,decide_false,hG,reduceIte])
   all_goals rfl
 rw[hs]
 exact bA (ud j M i)
 have J:=ak a
 refine bp<|sg<|Pl 1<|?_
 have t:=bh.old hsl j
 refine gf (bh.at_ t 0 (by omega)) fun N O Q R ad=>L0<|lv b.length 0 Q (by omega)<|L0<|ez (p:=⟨N,O+0,none⟩) (v:=.int .u8 (b.getD 0 0)) R<|L0<|Oi (b.getD 0 0)<|Pl 1<|ng<|Pl 3<|cu 3 [36] 39 (((decide (9≤(b.getD 0 0)))&&(decide ((b.getD 0 0)≤251)))) (fun K C=>?_) ?_
 refine bl 36 ((decide (9≤(b.getD 0 0)))) (fun l=>?_) (fun l=>?_)
 have S:=of_decide_eq_true l
 exact Pl 3<|ce C (decide ((b.getD 0 0)≤251)) (by rw[l];rfl)
 have S:=of_decide_eq_false l
 exact Pl 3<|ce C false (by rw[l];rfl)
 refine Pl 1<|nt<|sq<|sg<|Pl 6<|nt<|c1<|go<|Pl 3<|cu 3 [48] 51 (((decide (7≤(b.getD 0 0)))&&(decide ((b.getD 0 0)≤245)))) (fun K D=>?_) ?_
 refine bl 48 ((decide (7≤(b.getD 0 0)))) (fun o=>?_) (fun o=>?_)
 have T:=of_decide_eq_true o
 exact Pl 3<|ce D (decide ((b.getD 0 0)≤245)) (by rw[o];rfl)
 have T:=of_decide_eq_false o
 exact Pl 3<|ce D false (by rw[o];rfl)
 refine Pl 1<|cu 4 [52] 56 ((((decide (7≤(b.getD 0 0)))&&(decide ((b.getD 0 0)≤245)))&&(((b.getD 0 0)%7)==0))) (fun K E=>?_) ?_
 refine bl 52 (((decide (7≤(b.getD 0 0)))&&(decide ((b.getD 0 0)≤245)))) (fun q=>?_) (fun q=>?_)
 have U:=(aZ q).1
 have V:=(aZ q).2
 have af:=of_decide_eq_true U
 have ag:=of_decide_eq_true V
 exact Pl 1<|L1<|Oe (.int .i64 (Int.tmod (b.getD 0 0) 7)) (.int .i64 ((b.getD 0 0)%7)) (congrArg (Value.int .i64) (Int.tmod_eq_emod_of_nonneg (by omega)))<|Pl 2<|ce E (((b.getD 0 0)%7)==0) (by rw[q];rfl)
 exact Pl 4<|ce E false (by rw[q];rfl)
 refine Pl 1<|nt<|sq<|sg<|Pl 6<|nt<|c0<|bp<|sq<|sq<|?_
 refine go<|Pl 2<|nt<|cb ((!(((decide (7≤(b.getD 0 0)))&&(decide ((b.getD 0 0)≤245)))&&(((b.getD 0 0)%7)==0)))) (fun d=>?_) (fun d=>?_)
 have f:(((decide (7≤(b.getD 0 0)))&&(decide ((b.getD 0 0)≤245)))&&(((b.getD 0 0)%7)==0))=false:=by simpa only[Bool.not_eq_true',Bool.not_eq_false'] using d
 refine sg<|Pl 1<|L0<|be g mZ fun ah W X=>Pl 1<|nt<|rt<|tr<|bP W (.int .i64 5)<|?_
 have hs:bV cX eF 20 b=(aQ.zero,5):=by
   unfold bV dR dh eF
   (try simp only[a,d,f,bs,if_true,if_false,decide_true,decide_false,hG,reduceIte])
   all_goals rfl
 rw[hs]
 exact bA (ud j X i)
 have f:(((decide (7≤(b.getD 0 0)))&&(decide ((b.getD 0 0)≤245)))&&(((b.getD 0 0)%7)==0))=true:=by simpa only[Bool.not_eq_true',Bool.not_eq_false'] using d
 have k:=(aZ f).1
 have r:=(aZ f).2
 have q32naa:=(aZ k).1
 have q32nab:=(aZ k).2
 have q32naap:=of_decide_eq_true q32naa
 have q32nabp:=of_decide_eq_true q32nab
 have q32nbp:=ae r
 refine bp<|sq<|sg<|Pl 3<|L0<|Oi ((b.getD 0 0)+1)<|Pl 1<|nt<|cb ((decide (((b.length:Nat) : Int)<((b.getD 0 0)+1)))) (fun h=>?_) (fun h=>?_)
 have Y:=of_decide_eq_true h
 refine sg<|Pl 1<|L0<|be g mZ fun ai Z a0=>Pl 1<|nt<|rt<|tr<|bP Z (.int .i64 2)<|?_
 have hs:bV cX eF 20 b=(aQ.zero,2):=by
   unfold bV dR dh eF
   (try simp only[a,d,f,k,q32naa,q32nab,r,h,bs,if_true,if_false,decide_true,decide_false,hG,reduceIte])
   all_goals rfl
 rw[hs]
 exact bA (ud j a0 i)
 have Y:=of_decide_eq_false h
 refine bp<|sg<|Pl 4<|L0<|Oi ((b.getD 0 0)+1)<|pA (kp (P:=Tryz.prog) 22 5 1 Tryz.underlying22 rfl rfl A b.length cp (lo:=1) (up:=((b.getD 0 0)+1)) 1 ((((b.getD 0 0)+1)).toNat) (by omega) (by omega) (by omega) (by omega) (by omega)) fun u hrun43 F=>L0<|nC (.slice u (((((b.getD 0 0)+1)).toNat)-1) (cp-1)) (iu (kl:=.i64) (kh:=.i64) (lo:=1) (hi:=((b.getD 0 0)+1)) (A:=A) (n:=b.length) (c:=cp) rfl Tryz.underlying22 (by kernel_rfl) (by kernel_rfl) (by kernel_rfl) (hrun43 _ _ _))<|?_
 by_cases hE:bq (aU cX (((b.take ((((b.getD 0 0)+1)).toNat)).drop 1)).length 0 ⟨((b.take ((((b.getD 0 0)+1)).toNat)).drop 1),false,0⟩ []).1.e=0
 refine L0<|Oc (args:=#[.int .i64 0,.int .u8 20,.slice u (((((b.getD 0 0)+1)).toNat)-1) (cp-1)])<|e2 (kK (mF (F _ _ _ _ _ t) (by rw[List.length_drop,List.length_take];omega)) hE) fun aj al y z=>?_
 obtain⟨a1,a2,rfl,am,an⟩:=aS.shape y.rd
 refine Pl 5<|nt<|sq<|sg<|Pl 2<|nt<|c0<|bp<|sq<|sq<|?_
 refine go<|Pl 3<|L0<|Oi ((b.getD 0 0)+1)<|Pl 1<|nt<|?_
 have G:=aG j z
 refine cb ((decide (((b.getD 0 0)+1)<((b.length:Nat) : Int)))) (fun s=>?_) (fun s=>?_)
 have a3:=of_decide_eq_true s
 refine sg<|Pl 1<|?_
 refine L0<|be (ub z g) mZ fun ao a4 a5=>Pl 1<|nt<|rt<|tr<|bP a4 (.int .i64 3)<|?_
 have hE0:(aU cX (((b.take ((((b.getD 0 0)+1)).toNat)).drop 1)).length 0 ⟨((b.take ((((b.getD 0 0)+1)).toNat)).drop 1),false,0⟩ []).1.e=0:=gE hE
 have hs:bV cX eF 20 b=(aQ.zero,3):=by
   unfold bV dR dh eF
   (try simp only[a,d,f,k,q32naa,q32nab,r,h,s,bs,if_true,if_false,decide_true,decide_false,hE0,hG,reduceIte])
   all_goals rfl
 rw[hs]
 exact bA (ud G a5 i)
 have a3:=of_decide_eq_false s
 refine bp<|sg<|Pl 3<|?_
 have H:=ub z g
 refine L0<|be H (mG 20 0 0 0 0 0 0 0 0 0 0 0 nS nS nS (.slice a1 ((aU cX (((b.take ((((b.getD 0 0)+1)).toNat)).drop 1)).length 0 ⟨((b.take ((((b.getD 0 0)+1)).toNat)).drop 1),false,0⟩ []).2.length) a2) 0 0 0 0 0 nS) fun ap a6 B=>Pl 1<|nt<|rt<|bP a6 (.int .i64 0)<|?_
 have hE0:(aU cX (((b.take ((((b.getD 0 0)+1)).toNat)).drop 1)).length 0 ⟨((b.take ((((b.getD 0 0)+1)).toNat)).drop 1),false,0⟩ []).1.e=0:=gE hE
 have hs:bV cX eF 20 b=((aQ.mk 20 0 0 0 0 0 0 0 0 0 0 0 [] [] [] (aU cX (((b.take ((((b.getD 0 0)+1)).toNat)).drop 1)).length 0 ⟨((b.take ((((b.getD 0 0)+1)).toNat)).drop 1),false,0⟩ []).2 0 0 0 0 0 []),0):=by
   unfold bV dR dh eF
   (try simp only[a,d,f,k,q32naa,q32nab,r,h,s,bs,if_true,if_false,decide_true,decide_false,hE0,hG,reduceIte])
   all_goals rfl
 rw[hs]
 exact⟨_,rfl,⟨_,_,_,_,_,rfl,aS.nil ..,aS.nil ..,(fun _ _ _=>aS.nil ..),((aq y B (fun x hx=>(aa (fun e=>(aB (au g) lr y) (e▸hx)) aA)) (bv.upd16 B (ax (aY H (by decide)) aK)))).rd,aS.nil ..,⟨(b8 (x:=20) (by omega)),(b8 (x:=0) (by omega)),(aD (x:=0) (by omega)),(aD (x:=0) (by omega)),(aD (x:=0) (by omega)),(aD (x:=0) (by omega)),(aD (x:=0) (by omega)),(aD (x:=0) (by omega)),(aD (x:=0) (by omega)),(aD (x:=0) (by omega)),(aD (x:=0) (by omega)),(aD (x:=0) (by omega)),(b8 (x:=0) (by omega)),(b8 (x:=0) (by omega)),(b8 (x:=0) (by omega)),(b8 (x:=0) (by omega)),(b8 (x:=0) (by omega))⟩⟩,(ud G B i)⟩
 refine L0<|Oc (args:=#[.int .i64 0,.int .u8 20,.slice u (((((b.getD 0 0)+1)).toNat)-1) (cp-1)])<|?_
 refine(jr (mF (F _ _ _ _ _ t) (by rw[List.length_drop,List.length_take];omega))).mono ?_
 rintro _ ar ⟨av,aw,ay,rfl,I⟩
 refine⟨_,rfl,?_⟩
 have hE1:(bq (aU cX (((b.take ((((b.getD 0 0)+1)).toNat)).drop 1)).length 0 ⟨((b.take ((((b.getD 0 0)+1)).toNat)).drop 1),false,0⟩ []).1.e != 0)=true:=by simpa using hE
 refine Pl 5<|nt<|sq<|sg<|Pl 2<|nt<|ct hE1<|sg<|Pl 2<|?_
 refine L0<|be (ub I g) mZ fun az a7 a8=>Pl 1<|nt<|rt<|tr<|bP a7 (.int .i64 (bq (aU cX (((b.take ((((b.getD 0 0)+1)).toNat)).drop 1)).length 0 ⟨((b.take ((((b.getD 0 0)+1)).toNat)).drop 1),false,0⟩ []).1.e))<|?_
 have hE3:((aU cX (((b.take ((((b.getD 0 0)+1)).toNat)).drop 1)).length 0 ⟨((b.take ((((b.getD 0 0)+1)).toNat)).drop 1),false,0⟩ []).1.e != 0)=true:=jA hE
 have hs:bV cX eF 20 b=(aQ.zero,bq (aU cX (((b.take ((((b.getD 0 0)+1)).toNat)).drop 1)).length 0 ⟨((b.take ((((b.getD 0 0)+1)).toNat)).drop 1),false,0⟩ []).1.e):=by
   unfold bV dR dh eF
   (try simp only[a,d,f,k,q32naa,q32nab,r,h,hE1,bs,if_true,if_false,decide_true,decide_false,hE3,hG,reduceIte])
   all_goals rfl
 rw[hs]
 exact bA (ud j (uz I a8) i)
theorem sj{m:Md}{A:Option Addr}{cp:Nat}{b:List Int}{w:World}(hsl:bh m w (.slice A b.length cp) b)(hb:b.length≤1048576) :
    Calls Tryz.prog 96 #[.int .i64 1,.int .u8 20,.slice A b.length cp] w (cM (.slice A b.length cp) b (bV bH eB 20 b) w):=by
 have hln:(b.length:Int)≤1048576:=by omega
 have hcp:b.length≤cp:=by obtain⟨_,_,hv,h1,_⟩:=aS.shape hsl;injection hv with _ _ h3;omega
 have hrb:=bh.range hsl
 refine en 101 Tryz.func96 rfl<|sg<|L0<|bO mZ fun a5 a6 i g j=>Pl 1<|nt<|sq<|sg<|Pl 6<|nt<|c0<|?_
 refine bp<|sq<|sg<|Pl 6<|nt<|c0<|bp<|sq<|sg<|?_
 refine Pl 3<|nt<|cb ((((b.length:Nat) : Int)==0)) (fun a=>?_) (fun a=>?_)
 have H:=ae a
 refine sg<|Pl 1<|L0<|be g mZ fun a7 I J=>Pl 1<|nt<|rt<|tr<|bP I (.int .i64 2)<|?_
 have hs:bV bH eB 20 b=(aQ.zero,2):=by
   unfold bV dR dh eB
   (try simp only[a,bs,if_true,if_false,decide_true,decide_false,hG,reduceIte])
   all_goals rfl
 rw[hs]
 exact bA (ud j J i)
 have H:=ak a
 refine bp<|sg<|Pl 1<|?_
 have s:=bh.old hsl j
 refine gf (bh.at_ s 0 (by omega)) fun L M N O a8=>L0<|lv b.length 0 N (by omega)<|L0<|ez (p:=⟨L,M+0,none⟩) (v:=.int .u8 (b.getD 0 0)) O<|L0<|Oi (b.getD 0 0)<|Pl 1<|ng<|Pl 3<|cu 3 [36] 39 (((decide (9≤(b.getD 0 0)))&&(decide ((b.getD 0 0)≤251)))) (fun K B=>?_) ?_
 refine bl 36 ((decide (9≤(b.getD 0 0)))) (fun k=>?_) (fun k=>?_)
 have Q:=of_decide_eq_true k
 exact Pl 3<|ce B (decide ((b.getD 0 0)≤251)) (by rw[k];rfl)
 have Q:=of_decide_eq_false k
 exact Pl 3<|ce B false (by rw[k];rfl)
 refine Pl 1<|nt<|sq<|sg<|Pl 6<|nt<|c0<|bp<|sq<|sq<|?_
 refine go<|Pl 6<|nt<|c1<|go<|Pl 3<|cu 3 [65] 68 (((decide (4≤(b.getD 0 0)))&&(decide ((b.getD 0 0)≤245)))) (fun K C=>?_) ?_
 refine bl 65 ((decide (4≤(b.getD 0 0)))) (fun l=>?_) (fun l=>?_)
 have R:=of_decide_eq_true l
 exact Pl 3<|ce C (decide ((b.getD 0 0)≤245)) (by rw[l];rfl)
 have R:=of_decide_eq_false l
 exact Pl 3<|ce C false (by rw[l];rfl)
 refine Pl 1<|nt<|sq<|sg<|Pl 2<|nt<|cb ((!((decide (4≤(b.getD 0 0)))&&(decide ((b.getD 0 0)≤245))))) (fun d=>?_) (fun d=>?_)
 have f:((decide (4≤(b.getD 0 0)))&&(decide ((b.getD 0 0)≤245)))=false:=by simpa only[Bool.not_eq_true',Bool.not_eq_false'] using d
 refine sg<|Pl 1<|L0<|be g mZ fun a9 S T=>Pl 1<|nt<|rt<|tr<|bP S (.int .i64 5)<|?_
 have hs:bV bH eB 20 b=(aQ.zero,5):=by
   unfold bV dR dh eB
   (try simp only[a,d,f,bs,if_true,if_false,decide_true,decide_false,hG,reduceIte])
   all_goals rfl
 rw[hs]
 exact bA (ud j T i)
 have f:((decide (4≤(b.getD 0 0)))&&(decide ((b.getD 0 0)≤245)))=true:=by simpa only[Bool.not_eq_true',Bool.not_eq_false'] using d
 have o:=(aZ f).1
 have q:=(aZ f).2
 have q30nap:=of_decide_eq_true o
 have q30nbp:=of_decide_eq_true q
 refine bp<|sq<|sg<|Pl 3<|L0<|Oi ((b.getD 0 0)+1)<|Pl 1<|nt<|cb ((decide (((b.length:Nat) : Int)<((b.getD 0 0)+1)))) (fun h=>?_) (fun h=>?_)
 have U:=of_decide_eq_true h
 refine sg<|Pl 1<|L0<|be g mZ fun ab V W=>Pl 1<|nt<|rt<|tr<|bP V (.int .i64 2)<|?_
 have hs:bV bH eB 20 b=(aQ.zero,2):=by
   unfold bV dR dh eB
   (try simp only[a,d,f,o,q,h,bs,if_true,if_false,decide_true,decide_false,hG,reduceIte])
   all_goals rfl
 rw[hs]
 exact bA (ud j W i)
 have U:=of_decide_eq_false h
 refine bp<|sg<|Pl 4<|L0<|Oi ((b.getD 0 0)+1)<|pA (kp (P:=Tryz.prog) 22 5 1 Tryz.underlying22 rfl rfl A b.length cp (lo:=1) (up:=((b.getD 0 0)+1)) 1 ((((b.getD 0 0)+1)).toNat) (by omega) (by omega) (by omega) (by omega) (by omega)) fun t hrun41 D=>L0<|nC (.slice t (((((b.getD 0 0)+1)).toNat)-1) (cp-1)) (iu (kl:=.i64) (kh:=.i64) (lo:=1) (hi:=((b.getD 0 0)+1)) (A:=A) (n:=b.length) (c:=cp) rfl Tryz.underlying22 (by kernel_rfl) (by kernel_rfl) (by kernel_rfl) (hrun41 _ _ _))<|?_
 by_cases hE:bq (aU bH (((b.take ((((b.getD 0 0)+1)).toNat)).drop 1)).length 0 ⟨((b.take ((((b.getD 0 0)+1)).toNat)).drop 1),false,0⟩ []).1.e=0
 refine L0<|Oc (args:=#[.int .i64 1,.int .u8 20,.slice t (((((b.getD 0 0)+1)).toNat)-1) (cp-1)])<|e2 (kK (mK (D _ _ _ _ _ s) (by rw[List.length_drop,List.length_take];omega)) hE) fun ac ad u y=>?_
 obtain⟨X,Y,rfl,af,ag⟩:=aS.shape u.rd
 refine Pl 5<|nt<|sq<|sg<|Pl 2<|nt<|c0<|bp<|sq<|sq<|?_
 refine go<|Pl 3<|L0<|Oi ((b.getD 0 0)+1)<|Pl 1<|nt<|?_
 have E:=aG j y
 refine cb ((decide (((b.getD 0 0)+1)<((b.length:Nat) : Int)))) (fun r=>?_) (fun r=>?_)
 have Z:=of_decide_eq_true r
 refine sg<|Pl 1<|?_
 refine L0<|be (ub y g) mZ fun ah a0 a1=>Pl 1<|nt<|rt<|tr<|bP a0 (.int .i64 3)<|?_
 have hE0:(aU bH (((b.take ((((b.getD 0 0)+1)).toNat)).drop 1)).length 0 ⟨((b.take ((((b.getD 0 0)+1)).toNat)).drop 1),false,0⟩ []).1.e=0:=gE hE
 have hs:bV bH eB 20 b=(aQ.zero,3):=by
   unfold bV dR dh eB
   (try simp only[a,d,f,o,q,h,r,bs,if_true,if_false,decide_true,decide_false,hE0,hG,reduceIte])
   all_goals rfl
 rw[hs]
 exact bA (ud E a1 i)
 have Z:=of_decide_eq_false r
 refine bp<|sg<|Pl 3<|?_
 have F:=ub y g
 refine L0<|be F (mG 20 0 0 0 0 0 0 0 0 0 0 0 nS nS nS (.slice X ((aU bH (((b.take ((((b.getD 0 0)+1)).toNat)).drop 1)).length 0 ⟨((b.take ((((b.getD 0 0)+1)).toNat)).drop 1),false,0⟩ []).2.length) Y) 0 0 0 0 0 nS) fun ai a2 z=>Pl 1<|nt<|rt<|bP a2 (.int .i64 0)<|?_
 have hE0:(aU bH (((b.take ((((b.getD 0 0)+1)).toNat)).drop 1)).length 0 ⟨((b.take ((((b.getD 0 0)+1)).toNat)).drop 1),false,0⟩ []).1.e=0:=gE hE
 have hs:bV bH eB 20 b=((aQ.mk 20 0 0 0 0 0 0 0 0 0 0 0 [] [] [] (aU bH (((b.take ((((b.getD 0 0)+1)).toNat)).drop 1)).length 0 ⟨((b.take ((((b.getD 0 0)+1)).toNat)).drop 1),false,0⟩ []).2 0 0 0 0 0 []),0):=by
   unfold bV dR dh eB
   (try simp only[a,d,f,o,q,h,r,bs,if_true,if_false,decide_true,decide_false,hE0,hG,reduceIte])
   all_goals rfl
 rw[hs]
 exact⟨_,rfl,⟨_,_,_,_,_,rfl,aS.nil ..,aS.nil ..,(fun _ _ _=>aS.nil ..),((aq u z (fun x hx=>(aa (fun e=>(aB (au g) lr u) (e▸hx)) aA)) (bv.upd16 z (ax (aY F (by decide)) aK)))).rd,aS.nil ..,⟨(b8 (x:=20) (by omega)),(b8 (x:=0) (by omega)),(aD (x:=0) (by omega)),(aD (x:=0) (by omega)),(aD (x:=0) (by omega)),(aD (x:=0) (by omega)),(aD (x:=0) (by omega)),(aD (x:=0) (by omega)),(aD (x:=0) (by omega)),(aD (x:=0) (by omega)),(aD (x:=0) (by omega)),(aD (x:=0) (by omega)),(b8 (x:=0) (by omega)),(b8 (x:=0) (by omega)),(b8 (x:=0) (by omega)),(b8 (x:=0) (by omega)),(b8 (x:=0) (by omega))⟩⟩,(ud E z i)⟩
 refine L0<|Oc (args:=#[.int .i64 1,.int .u8 20,.slice t (((((b.getD 0 0)+1)).toNat)-1) (cp-1)])<|?_
 refine(jr (mK (D _ _ _ _ _ s) (by rw[List.length_drop,List.length_take];omega))).mono ?_
 rintro _ aj ⟨al,am,an,rfl,G⟩
 refine⟨_,rfl,?_⟩
 have hE1:(bq (aU bH (((b.take ((((b.getD 0 0)+1)).toNat)).drop 1)).length 0 ⟨((b.take ((((b.getD 0 0)+1)).toNat)).drop 1),false,0⟩ []).1.e != 0)=true:=by simpa using hE
 refine Pl 5<|nt<|sq<|sg<|Pl 2<|nt<|ct hE1<|sg<|Pl 2<|?_
 refine L0<|be (ub G g) mZ fun ao a3 a4=>Pl 1<|nt<|rt<|tr<|bP a3 (.int .i64 (bq (aU bH (((b.take ((((b.getD 0 0)+1)).toNat)).drop 1)).length 0 ⟨((b.take ((((b.getD 0 0)+1)).toNat)).drop 1),false,0⟩ []).1.e))<|?_
 have hE3:((aU bH (((b.take ((((b.getD 0 0)+1)).toNat)).drop 1)).length 0 ⟨((b.take ((((b.getD 0 0)+1)).toNat)).drop 1),false,0⟩ []).1.e != 0)=true:=jA hE
 have hs:bV bH eB 20 b=(aQ.zero,bq (aU bH (((b.take ((((b.getD 0 0)+1)).toNat)).drop 1)).length 0 ⟨((b.take ((((b.getD 0 0)+1)).toNat)).drop 1),false,0⟩ []).1.e):=by
   unfold bV dR dh eB
   (try simp only[a,d,f,o,q,h,hE1,bs,if_true,if_false,decide_true,decide_false,hE3,hG,reduceIte])
   all_goals rfl
 rw[hs]
 exact bA (ud j (uz G a4) i)
theorem tE{m:Md}{A:Option Addr}{cp:Nat}{b:List Int}{w:World}{dir:Int}(hd:dir=0∨dir=1)(hsl:bh m w (.slice A b.length cp) b)(hb:b.length≤1048576) :
    Calls Tryz.prog 96 #[.int .i64 dir,.int .u8 21,.slice A b.length cp] w (cM (.slice A b.length cp) b (bV cY eG 21 b) w):=by
 have hln:(b.length:Int)≤1048576:=by omega
 have hcp:b.length≤cp:=by obtain⟨_,_,hv,h1,_⟩:=aS.shape hsl;injection hv with _ _ h3;omega
 have hrb:=bh.range hsl
 have g:((dir != 0)&&(dir != 1))=false:=by rcases hd with rfl | rfl<;>rfl
 refine en 101 Tryz.func96 rfl<|sg<|L0<|bO mZ fun a6 a7 j h k=>Pl 1<|nt<|sq<|sg<|Pl 3<|cu 3 [14] 17 (((dir != 0)&&(dir != 1))) (fun K C=>?_) ?_
 refine bl 14 ((dir != 0)) (fun l=>?_) (fun l=>?_)
 have I:=az l
 exact Pl 3<|ce C (dir != 1) (by rw[l];rfl)
 have I:=ai l
 exact Pl 3<|ce C false (by rw[l];rfl)
 refine nt<|cf g<|bp<|sq<|sg<|Pl 6<|nt<|c0<|bp<|?_
 refine sq<|sg<|Pl 3<|nt<|cb ((((b.length:Nat) : Int)==0)) (fun a=>?_) (fun a=>?_)
 have J:=ae a
 refine sg<|Pl 1<|L0<|be h mZ fun a8 L M=>Pl 1<|nt<|rt<|tr<|bP L (.int .i64 2)<|?_
 have hs:bV cY eG 21 b=(aQ.zero,2):=by
   unfold bV dR dh eG
   (try simp only[g,a,bs,if_true,if_false,decide_true,decide_false,hG,reduceIte])
   all_goals rfl
 rw[hs]
 exact bA (ud k M j)
 have J:=ak a
 refine bp<|sg<|Pl 1<|?_
 have t:=bh.old hsl k
 refine gf (bh.at_ t 0 (by omega)) fun N O Q R a9=>L0<|lv b.length 0 Q (by omega)<|L0<|ez (p:=⟨N,O+0,none⟩) (v:=.int .u8 (b.getD 0 0)) R<|L0<|Oi (b.getD 0 0)<|Pl 1<|ng<|Pl 3<|cu 3 [36] 39 (((decide (9≤(b.getD 0 0)))&&(decide ((b.getD 0 0)≤251)))) (fun K D=>?_) ?_
 refine bl 36 ((decide (9≤(b.getD 0 0)))) (fun o=>?_) (fun o=>?_)
 have S:=of_decide_eq_true o
 exact Pl 3<|ce D (decide ((b.getD 0 0)≤251)) (by rw[o];rfl)
 have S:=of_decide_eq_false o
 exact Pl 3<|ce D false (by rw[o];rfl)
 refine Pl 1<|nt<|sq<|sg<|Pl 6<|nt<|c0<|bp<|sq<|sq<|?_
 refine go<|Pl 6<|nt<|c0<|bp<|sq<|sg<|Pl 2<|nt<|cb ((!((decide (9≤(b.getD 0 0)))&&(decide ((b.getD 0 0)≤251))))) (fun d=>?_) (fun d=>?_)
 have f:((decide (9≤(b.getD 0 0)))&&(decide ((b.getD 0 0)≤251)))=false:=by simpa only[Bool.not_eq_true',Bool.not_eq_false'] using d
 refine sg<|Pl 1<|L0<|be h mZ fun ab T U=>Pl 1<|nt<|rt<|tr<|bP T (.int .i64 5)<|?_
 have hs:bV cY eG 21 b=(aQ.zero,5):=by
   unfold bV dR dh eG
   (try simp only[g,a,d,f,bs,if_true,if_false,decide_true,decide_false,hG,reduceIte])
   all_goals rfl
 rw[hs]
 exact bA (ud k U j)
 have f:((decide (9≤(b.getD 0 0)))&&(decide ((b.getD 0 0)≤251)))=true:=by simpa only[Bool.not_eq_true',Bool.not_eq_false'] using d
 have q:=(aZ f).1
 have r:=(aZ f).2
 have q30nap:=of_decide_eq_true q
 have q30nbp:=of_decide_eq_true r
 refine bp<|sq<|sg<|Pl 3<|L0<|Oi ((b.getD 0 0)+1)<|Pl 1<|nt<|cb ((decide (((b.length:Nat) : Int)<((b.getD 0 0)+1)))) (fun i=>?_) (fun i=>?_)
 have V:=of_decide_eq_true i
 refine sg<|Pl 1<|L0<|be h mZ fun ac W X=>Pl 1<|nt<|rt<|tr<|bP W (.int .i64 2)<|?_
 have hs:bV cY eG 21 b=(aQ.zero,2):=by
   unfold bV dR dh eG
   (try simp only[g,a,d,f,q,r,i,bs,if_true,if_false,decide_true,decide_false,hG,reduceIte])
   all_goals rfl
 rw[hs]
 exact bA (ud k X j)
 have V:=of_decide_eq_false i
 refine bp<|sg<|Pl 4<|L0<|Oi ((b.getD 0 0)+1)<|pA (kp (P:=Tryz.prog) 22 5 1 Tryz.underlying22 rfl rfl A b.length cp (lo:=1) (up:=((b.getD 0 0)+1)) 1 ((((b.getD 0 0)+1)).toNat) (by omega) (by omega) (by omega) (by omega) (by omega)) fun u hrun41 E=>L0<|nC (.slice u (((((b.getD 0 0)+1)).toNat)-1) (cp-1)) (iu (kl:=.i64) (kh:=.i64) (lo:=1) (hi:=((b.getD 0 0)+1)) (A:=A) (n:=b.length) (c:=cp) rfl Tryz.underlying22 (by kernel_rfl) (by kernel_rfl) (by kernel_rfl) (hrun41 _ _ _))<|?_
 by_cases hE:bq (aU cY (((b.take ((((b.getD 0 0)+1)).toNat)).drop 1)).length 0 ⟨((b.take ((((b.getD 0 0)+1)).toNat)).drop 1),false,0⟩ []).1.e=0
 refine L0<|Oc (args:=#[.int .i64 dir,.int .u8 21,.slice u (((((b.getD 0 0)+1)).toNat)-1) (cp-1)])<|e2 (kK (mb (E _ _ _ _ _ t) (by rw[List.length_drop,List.length_take];omega)) hE) fun ad af y z=>?_
 obtain⟨Y,Z,rfl,ag,ah⟩:=aS.shape y.rd
 refine Pl 5<|nt<|sq<|sg<|Pl 2<|nt<|c0<|bp<|sq<|sq<|?_
 refine go<|Pl 3<|L0<|Oi ((b.getD 0 0)+1)<|Pl 1<|nt<|?_
 have F:=aG k z
 refine cb ((decide (((b.getD 0 0)+1)<((b.length:Nat) : Int)))) (fun s=>?_) (fun s=>?_)
 have a0:=of_decide_eq_true s
 refine sg<|Pl 1<|?_
 refine L0<|be (ub z h) mZ fun aj a1 a2=>Pl 1<|nt<|rt<|tr<|bP a1 (.int .i64 3)<|?_
 have hE0:(aU cY (((b.take ((((b.getD 0 0)+1)).toNat)).drop 1)).length 0 ⟨((b.take ((((b.getD 0 0)+1)).toNat)).drop 1),false,0⟩ []).1.e=0:=gE hE
 have hs:bV cY eG 21 b=(aQ.zero,3):=by
   unfold bV dR dh eG
   (try simp only[g,a,d,f,q,r,i,s,bs,if_true,if_false,decide_true,decide_false,hE0,hG,reduceIte])
   all_goals rfl
 rw[hs]
 exact bA (ud F a2 j)
 have a0:=of_decide_eq_false s
 refine bp<|sg<|Pl 3<|?_
 have G:=ub z h
 refine L0<|be G (mG 21 0 0 0 0 0 0 0 0 0 0 0 nS nS nS (.slice Y ((aU cY (((b.take ((((b.getD 0 0)+1)).toNat)).drop 1)).length 0 ⟨((b.take ((((b.getD 0 0)+1)).toNat)).drop 1),false,0⟩ []).2.length) Z) 0 0 0 0 0 nS) fun al a3 B=>Pl 1<|nt<|rt<|bP a3 (.int .i64 0)<|?_
 have hE0:(aU cY (((b.take ((((b.getD 0 0)+1)).toNat)).drop 1)).length 0 ⟨((b.take ((((b.getD 0 0)+1)).toNat)).drop 1),false,0⟩ []).1.e=0:=gE hE
 have hs:bV cY eG 21 b=((aQ.mk 21 0 0 0 0 0 0 0 0 0 0 0 [] [] [] (aU cY (((b.take ((((b.getD 0 0)+1)).toNat)).drop 1)).length 0 ⟨((b.take ((((b.getD 0 0)+1)).toNat)).drop 1),false,0⟩ []).2 0 0 0 0 0 []),0):=by
   unfold bV dR dh eG
   (try simp only[g,a,d,f,q,r,i,s,bs,if_true,if_false,decide_true,decide_false,hE0,hG,reduceIte])
   all_goals rfl
 rw[hs]
 exact⟨_,rfl,⟨_,_,_,_,_,rfl,aS.nil ..,aS.nil ..,(fun _ _ _=>aS.nil ..),((aq y B (fun x hx=>(aa (fun e=>(aB (au h) lr y) (e▸hx)) aA)) (bv.upd16 B (ax (aY G (by decide)) aK)))).rd,aS.nil ..,⟨(b8 (x:=21) (by omega)),(b8 (x:=0) (by omega)),(aD (x:=0) (by omega)),(aD (x:=0) (by omega)),(aD (x:=0) (by omega)),(aD (x:=0) (by omega)),(aD (x:=0) (by omega)),(aD (x:=0) (by omega)),(aD (x:=0) (by omega)),(aD (x:=0) (by omega)),(aD (x:=0) (by omega)),(aD (x:=0) (by omega)),(b8 (x:=0) (by omega)),(b8 (x:=0) (by omega)),(b8 (x:=0) (by omega)),(b8 (x:=0) (by omega)),(b8 (x:=0) (by omega))⟩⟩,(ud F B j)⟩
 refine L0<|Oc (args:=#[.int .i64 dir,.int .u8 21,.slice u (((((b.getD 0 0)+1)).toNat)-1) (cp-1)])<|?_
 refine(jr (mb (E _ _ _ _ _ t) (by rw[List.length_drop,List.length_take];omega))).mono ?_
 rintro _ am ⟨an,ao,ap,rfl,H⟩
 refine⟨_,rfl,?_⟩
 have hE1:(bq (aU cY (((b.take ((((b.getD 0 0)+1)).toNat)).drop 1)).length 0 ⟨((b.take ((((b.getD 0 0)+1)).toNat)).drop 1),false,0⟩ []).1.e != 0)=true:=by simpa using hE
 refine Pl 5<|nt<|sq<|sg<|Pl 2<|nt<|ct hE1<|sg<|Pl 2<|?_
 refine L0<|be (ub H h) mZ fun ar a4 a5=>Pl 1<|nt<|rt<|tr<|bP a4 (.int .i64 (bq (aU cY (((b.take ((((b.getD 0 0)+1)).toNat)).drop 1)).length 0 ⟨((b.take ((((b.getD 0 0)+1)).toNat)).drop 1),false,0⟩ []).1.e))<|?_
 have hE3:((aU cY (((b.take ((((b.getD 0 0)+1)).toNat)).drop 1)).length 0 ⟨((b.take ((((b.getD 0 0)+1)).toNat)).drop 1),false,0⟩ []).1.e != 0)=true:=jA hE
 have hs:bV cY eG 21 b=(aQ.zero,bq (aU cY (((b.take ((((b.getD 0 0)+1)).toNat)).drop 1)).length 0 ⟨((b.take ((((b.getD 0 0)+1)).toNat)).drop 1),false,0⟩ []).1.e):=by
   unfold bV dR dh eG
   (try simp only[g,a,d,f,q,r,i,hE1,bs,if_true,if_false,decide_true,decide_false,hE3,hG,reduceIte])
   all_goals rfl
 rw[hs]
 exact bA (ud k (uz H a5) j)
theorem rk{A:Option Addr}{cp:Nat}{b:List Int}{w:World}{dir c:Int}(hd:dir=0∨dir=1)(hc:¬ c=20∧¬ c=21) :
    Calls Tryz.prog 96 #[.int .i64 dir,.int .u8 c,.slice A b.length cp] w (cM (.slice A b.length cp) b (aQ.zero,4) w):=by
 have g:((dir != 0)&&(dir != 1))=false:=by rcases hd with rfl | rfl<;>rfl
 have e2:((c != 20)&&(c != 21))=true:=by simp[hc.1,hc.2]
 refine en 101 Tryz.func96 rfl<|sg<|L0<|bO mZ fun o p h i j=>Pl 1<|nt<|sq<|sg<|Pl 3<|cu 3 [14] 17 (((dir != 0)&&(dir != 1))) (fun K e=>?_) ?_
 refine bl 14 ((dir != 0)) (fun a=>?_) (fun a=>?_)
 have k:=az a
 exact Pl 3<|ce e (dir != 1) (by rw[a];rfl)
 have k:=ai a
 exact Pl 3<|ce e false (by rw[a];rfl)
 refine nt<|cf g<|bp<|sq<|sg<|Pl 3<|cu 3 [21] 24 (((c != 20)&&(c != 21))) (fun K f=>?_) ?_
 refine bl 21 ((c != 20)) (fun d=>?_) (fun d=>?_)
 have l:=az d
 exact Pl 3<|ce f (c != 21) (by rw[d];rfl)
 have l:=ai d
 exact Pl 3<|ce f false (by rw[d];rfl)
 refine nt<|ct e2<|sg<|Pl 1<|L0<|be i mZ fun q m n=>Pl 1<|nt<|rt<|tr<|bP m (.int .i64 4)<|?_
 exact bA (ud j n h)
theorem sw{A:Option Addr}{cp:Nat}{b:List Int}{w:World}{dir c:Int}(hd:¬ (dir=0∨dir=1)) :
    Calls Tryz.prog 96 #[.int .i64 dir,.int .u8 c,.slice A b.length cp] w (cM (.slice A b.length cp) b (aQ.zero,1) w):=by
 have e:((dir != 0)&&(dir != 1))=true:=by simp;omega
 refine en 101 Tryz.func96 rfl<|sg<|L0<|bO mZ fun l m f g h=>Pl 1<|nt<|sq<|sg<|Pl 3<|cu 3 [14] 17 (((dir != 0)&&(dir != 1))) (fun K d=>?_) ?_
 refine bl 14 ((dir != 0)) (fun a=>?_) (fun a=>?_)
 have i:=az a
 exact Pl 3<|ce d (dir != 1) (by rw[a];rfl)
 have i:=ai a
 exact Pl 3<|ce d false (by rw[a];rfl)
 refine nt<|ct e<|sg<|Pl 1<|L0<|be g mZ fun n j k=>Pl 1<|nt<|rt<|tr<|bP j (.int .i64 1)<|?_
 exact bA (ud h k f)
theorem pG{dir c:Int}{b:List Int}(hd:dir=0∨dir=1)(hc:¬ c=20∧¬ c=21) : ag aX dir c b=(aQ.zero,4):=by
  unfold ag aX
  rw[if_pos hd,if_neg (by simpa using hc.1),if_neg (by simpa using hc.2)]
theorem rI{form:Int→Int→aj→Option (aj × aQ)}{dir c:Int}{b:List Int}(hd:¬ (dir=0∨dir=1)) : ag form dir c b=(aQ.zero,1):=by
  unfold ag
  rw[if_neg hd]
theorem iY{m:Md}{v:Value}{b:List Int}{w:World}{dir c:Int}(hc:B8 c)(h:bh m w v b)(hb:b.length≤1048576) :
    Calls Tryz.prog 96 #[.int .i64 dir,.int .u8 c,v] w (cM v b (ag aX dir c b) w):=by
  have hr:=bh.range h
  obtain⟨A,cp,rfl,_,_⟩:=h.shape
  by_cases hd:dir=0∨dir=1
  · by_cases a:c=20
    · subst a
      rcases hd with rfl|rfl
      · rw[pN hr];exact sn h hb
      · rw[oV hr];exact sj h hb
    · by_cases d:c=21
      · subst d
        rw[sF hd hr];exact tE hd h hb
      · rw[pG hd ⟨a,d⟩];exact rk hd ⟨a,d⟩
  · rw[rI hd];exact sw hd
open Go.RowKit
theorem tS{k i:Nat}{C:aj}{L:List Obj}{R:aj × List Obj}(h:ea (k-i) C L=R)(hk:k-i=0) : R=(C,L):=by
  rw[hk] at h
  exact h.symm
theorem lT{m:Md}{A:Option Addr}{cp:Nat}{b:List Int}{w:World}{c:Int}(hcode:B8 c)(hsl:bh m w (.slice A b.length cp) b)(hb:b.length≤1048576) :
    Calls Tryz.prog 97 #[.int .i64 0,.int .u8 c,.slice A b.length cp] w (cM (.slice A b.length cp) b (ag bY 0 c b) w):=by
 obtain⟨hcode1,hcode2⟩:=hcode
 have hln:(b.length:Int)≤1048576:=by omega
 refine en 176 Tryz.func97 rfl<|sg<|L0<|bO mZ fun bB bC r k a=>Pl 1<|nt<|sq<|sg<|Pl 6<|nt<|c0<|?_
 refine bp<|sq<|sg<|Pl 2<|nt<|cb ((c != 43)) (fun j=>?_) (fun j=>?_)
 have aJ:=az j
 refine sg<|Pl 1<|L0<|be k mZ fun bD aK aM=>Pl 1<|nt<|rt<|tr<|bP aK (.int .i64 4)<|?_
 have hs:ag bY 0 c b=(aQ.zero,4):=by
   unfold ag bY dz gA ft fu eP ey ex dk
   (try simp only[j,bs,if_true,if_false,decide_true,decide_false,eq_self,true_or,or_true,or_false,false_or,if_true,if_false,cy,co,cw,cv,reduceIte])
   all_goals rfl
 rw[hs]
 exact bA (ud a aM r)
 have aJ:=ai j
 refine bp<|sg<|Pl 2<|L0<|dv #[.slice A b.length cp,.int .i64 0,.bool false,.int .i64 0] fun s bE d Y i=>Pl 1<|ng<|Pl 1<|L0<|bO mZ fun bF bG h aN aO=>L0<|be aN (mC 43) fun aR aT aU=>?_
 refine ng<|Pl 1<|?_
 have Z:=ud aO aU h
 have t:=aG i Z
 have a0:=aG a t
 have aV:RC w _ A cp b aR s (aj.mk b false 0):=⟨hsl,a0,(Nat.le_trans a.size d),⟨0,(ub Z Y),Nat.zero_le _,rfl⟩,by omega⟩
 refine L0<|Oc<|m3 (ee aV) fun bH aW a1 bI=>Pl 1<|?_
 have f:=nb (au Y) lr h
 refine L0<|cj (b6 a1 (Ne.symm f) aT) 16 (mG 43 0 0 0 0 0 0 0 0 0 0 0 nS nS nS nS ((aj.mk b false 0).byteV) 0 0 0 0 nS) fun bJ N a2=>ng<|Pl 2<|L0<|aP N 16<|Pl 2<|cu 4 [38] 42 (((((aj.mk b false 0).byteV)==13)||(((aj.mk b false 0).byteV)==14))) (fun K a3=>?_) ?_
 refine bl 38 ((((aj.mk b false 0).byteV)==13)) (fun y=>?_) (fun y=>?_)
 have aX:=ae y
 exact Pl 4<|ce a3 true (by rw[y];rfl)
 have aX:=ak y
 exact Pl 1<|L1<|aP N 16<|Pl 2<|ce a3 (((aj.mk b false 0).byteV)==14) (by rw[y];rfl)
 have z:=us a1 a2
 have a4:=ut a0 z (ac (ni a.size d) (ac (ni (le a.size i.size) h) av))
 refine L0<|Oc<|m2 (b7 (((((aj.mk b false 0).byteV)==13)||(((aj.mk b false 0).byteV)==14))) 8 (RC.upd aW a2 (aa f aA) a4)) fun bK aY q=>?_
 refine fR aY fun x55 H B=>?_
 refine nt<|sq<|bk<|sg<|Pl 1<|?_
 have O:=b6 q (Ne.symm f) N
 refine L0<|aP O 16<|Pl 2<|nt<|?_
 have a5:=ud a4 q (le a.size d)
 refine cb ((((aj.mk b false 0).byteV)==13)) (fun o=>?_) (fun o=>?_)
 have aZ:=ae o
 refine sg<|Pl 1<|L0<|Oc<|m1 (iy B) fun bL P=>?_
 have bM:=RC.clen B
 refine Pl 1<|ng<|Pl 3<|?_
 refine L0<|Oc<|m2 (b7 ((decide (((x55.l.length:Nat) : Int)≤251))) 5 (RC.upd B P aA (aF.step (RC.u B) P))) fun bN a6 b0=>nt<|go<|Pl 2<|L0<|Oc<|oT (fC (n:=((x55.l.length:Nat) : Int)) (by omega) a6) fun a7 a8 bQ b1 b2 b3=>?_
 have bR:=Nat.le_trans (aj.bytesR_le (x55.need (decide (((x55.l.length:Nat) : Int)≤251)) 5) ((x55.l.length:Nat) : Int)) (RC.clen a6)
 refine fR b2 fun jh a9 b4=>?_
 refine Pl 1<|?_
 have ab:=uz P (u1 b0 b3 im)
 refine L0<|cj (b6 ab (Ne.symm f) O) 14 (mG 43 0 0 0 0 0 0 0 0 0 0 0 nS nS (.slice a7 (((x55.need (decide (((x55.l.length:Nat) : Int)≤251)) 5).bytesR ((x55.l.length:Nat) : Int)).length) a8) nS ((aj.mk b false 0).byteV) 0 0 0 0 nS) fun bT b5 ad=>nl<|bn<|tn<|sg<|Pl 1<|?_
 have Q:=us ab ad
 have af:=ut a5 Q (ac (ni a.size d) (ac (ni (le a.size i.size) h) av))
 refine L0<|Oc<|m2 (et (RC.upd b4 ad (aa f aA) af)) fun bU R I=>nt<|sq<|sg<|Pl 3<|L0<|ez (p:=⟨s,3,none⟩) (v:=.int .i64 jh.endC.e) (RC.fld R)<|Pl 1<|nt<|?_
 have ah:=ud af I (le a.size d)
 refine cb ((jh.endC.e != 0)) (fun C=>?_) (fun C=>?_)
 have S:=az C
 refine sq<|Rg 7 (fun w'=>w'.cell? ⟨s,3,none⟩=some (.int .i64 jh.endC.e)) fun bV J=>?_
 have al:=RC.upd R J aA (aF.step (RC.u R) J)
 refine bj (RC.fld al) fun D=>Rt 0 D<|Rt 1 D<|Rt 2 D<|Rt 3 D<|Rl 4 D (fun _ hs=>hs)<|?_
 refine R0 5 rfl<|be (ub (ut t (ut z (ui q (u1 Q (aG I J) im)) (ac im (ac im av))) (ac (nr d) (ac (ni i.size h) av))) k) mZ fun bW b9 am=>?_
 have an:=ud ah (uz J am) r
 refine bj (RC.fld (RC.upd al am (aa (Ne.symm (nb (au k) lr d)) aA) an)) fun ba=>Rt 6 ba<|re<|tn<|rt<|tr<|bP b9 (.int .i64 jh.endC.e)<|?_
 have hs:ag bY 0 c b=aL (aQ.mk 43 0 0 0 0 0 0 0 0 0 0 0 [] [] ((x55.need (decide (((x55.l.length:Nat) : Int)≤251)) 5).bytesR ((x55.l.length:Nat) : Int)) [] ((aj.mk b false 0).byteV) 0 0 0 0 []) jh:=by
   subst a9 H
   unfold ag bY dz gA ft fu eP ey ex dk
   (try simp only[j,o,C,bs,if_true,if_false,decide_true,decide_false,eq_self,true_or,or_true,or_false,false_or,if_true,if_false,cy,co,cw,cv,reduceIte])
   all_goals rfl
 rw[hs]
 exact bi S an
 have S:=ai C
 refine bp<|sg<|?_
 refine L0<|bS (b6 I (Ne.symm f) b5)<|?_
 refine L0<|be (ub (ut t (ut z (ui q (u1 Q I im)) (ac im (ac im av))) (ac (nr d) (ac (ni i.size h) av))) k) (mG 43 0 0 0 0 0 0 0 0 0 0 0 nS nS (.slice a7 (((x55.need (decide (((x55.l.length:Nat) : Int)≤251)) 5).bytesR ((x55.l.length:Nat) : Int)).length) a8) nS ((aj.mk b false 0).byteV) 0 0 0 0 nS) fun bX bb bc=>Pl 1<|nt<|rt<|bP bb (.int .i64 0)<|?_
 have hs:ag bY 0 c b=aL (aQ.mk 43 0 0 0 0 0 0 0 0 0 0 0 [] [] ((x55.need (decide (((x55.l.length:Nat) : Int)≤251)) 5).bytesR ((x55.l.length:Nat) : Int)) [] ((aj.mk b false 0).byteV) 0 0 0 0 []) jh:=by
   subst a9 H
   unfold ag bY dz gA ft fu eP ey ex dk
   (try simp only[j,o,C,bs,if_true,if_false,decide_true,decide_false,eq_self,true_or,or_true,or_false,false_or,if_true,if_false,cy,co,cw,cv,reduceIte])
   all_goals rfl
 rw[hs]
 exact bt S ⟨_,_,_,_,_,rfl,aS.nil ..,aS.nil ..,b1,aS.nil ..,aS.nil ..,⟨(b8 (x:=43) (by omega)),(b8 (x:=0) (by omega)),(aD (x:=0) (by omega)),(aD (x:=0) (by omega)),(aD (x:=0) (by omega)),(aD (x:=0) (by omega)),(aD (x:=0) (by omega)),(aD (x:=0) (by omega)),(aD (x:=0) (by omega)),(aD (x:=0) (by omega)),(aD (x:=0) (by omega)),(aD (x:=0) (by omega)),(b8 (x:=(aj.mk b false 0).byteV) (by omega)),(b8 (x:=0) (by omega)),(b8 (x:=0) (by omega)),(b8 (x:=0) (by omega)),(b8 (x:=0) (by omega))⟩⟩ (ud ah bc r)
 have aZ:=ak o
 refine sg<|Pl 3<|nt<|c1<|sg<|Pl 1<|L0<|Oc<|m3 (ee B) fun bZ bd ao c2=>Pl 1<|?_
 refine L0<|cj (b6 ao (Ne.symm f) O) 17 (mG 43 0 0 0 0 0 0 0 0 0 0 0 nS nS nS nS ((aj.mk b false 0).byteV) x55.byteV 0 0 0 nS) fun c3 T ap=>ng<|Pl 2<|L0<|aP T 17<|Pl 2<|cu 4 [154] 158 (((decide (0<x55.byteV))&&(decide (x55.byteV<5)))) (fun K aq=>?_) ?_
 refine bl 154 ((decide (0<x55.byteV))) (fun E=>?_) (fun E=>?_)
 have bf:=of_decide_eq_true E
 exact Pl 1<|L1<|aP T 17<|Pl 2<|ce aq (decide (x55.byteV<5)) (by rw[E];rfl)
 have bf:=of_decide_eq_false E
 exact Pl 4<|ce aq false (by rw[E];rfl)
 have U:=us ao ap
 have ar:=ut a5 U (ac (ni a.size d) (ac (ni (le a.size i.size) h) av))
 refine L0<|Oc<|m2 (b7 (((decide (0<x55.byteV))&&(decide (x55.byteV<5)))) 6 (RC.upd bd ap (aa f aA) ar)) fun c4 bg bm=>?_
 refine fR bg fun g aw bo=>?_
 refine nt<|go<|Pl 1<|L0<|Oc<|m3 (ee bo) fun c5 bq br c6=>Pl 1<|?_
 have ax:=u1 bm br im
 refine L0<|cj (b6 ax (Ne.symm f) T) 20 (mG 43 0 0 0 0 0 0 0 0 0 0 0 nS nS nS nS ((aj.mk b false 0).byteV) x55.byteV 0 0 g.byteV nS) fun c7 bu ay=>nl<|bn<|tn<|sg<|Pl 1<|?_
 have V:=us ax ay
 have aB:=ut ar V (ac (ni a.size d) (ac (ni (le a.size i.size) h) av))
 refine L0<|Oc<|m2 (et (RC.upd bq ay (aa f aA) aB)) fun c8 W L=>nt<|sq<|sg<|Pl 3<|L0<|ez (p:=⟨s,3,none⟩) (v:=.int .i64 (((g.bytesC 1).endC).e)) (RC.fld W)<|Pl 1<|nt<|?_
 have aC:=ud aB L (le a.size d)
 refine cb (((((g.bytesC 1).endC).e)!=0)) (fun F=>?_) (fun F=>?_)
 have X:=az F
 refine sq<|Rg 7 (fun w'=>w'.cell? ⟨s,3,none⟩=some (.int .i64 (((g.bytesC 1).endC).e))) fun c9 M=>?_
 have aE:=RC.upd W M aA (aF.step (RC.u W) M)
 refine bj (RC.fld aE) fun G=>Rt 0 G<|Rt 1 G<|Rt 2 G<|Rt 3 G<|Rl 4 G (fun _ hs=>hs)<|?_
 refine R0 5 rfl<|be (ub (ut t (ut z (ui q (ut U (u1 V (aG L M) im) (ac im (ac im av)))) (ac im (ac im av))) (ac (nr d) (ac (ni i.size h) av))) k) mZ fun ca bv aH=>?_
 have aI:=ud aC (uz M aH) r
 refine bj (RC.fld (RC.upd aE aH (aa (Ne.symm (nb (au k) lr d)) aA) aI)) fun bw=>Rt 6 bw<|re<|tn<|rt<|tr<|bP bv (.int .i64 (((g.bytesC 1).endC).e))<|?_
 have hs:ag bY 0 c b=aL (aQ.mk 43 0 0 0 0 0 0 0 0 0 0 0 [] [] [] [] ((aj.mk b false 0).byteV) x55.byteV 0 0 g.byteV []) (g.bytesC 1):=by
   subst aw H
   unfold ag bY dz gA ft fu eP ey ex dk
   (try simp only[j,o,F,bs,if_true,if_false,decide_true,decide_false,eq_self,true_or,or_true,or_false,false_or,if_true,if_false,cy,co,cw,cv,reduceIte])
   all_goals rfl
 rw[hs]
 exact bi X aI
 have X:=ai F
 refine bp<|sg<|?_
 refine L0<|bS (b6 L (Ne.symm f) bu)<|?_
 refine L0<|be (ub (ut t (ut z (ui q (ut U (u1 V L im) (ac im (ac im av)))) (ac im (ac im av))) (ac (nr d) (ac (ni i.size h) av))) k) (mG 43 0 0 0 0 0 0 0 0 0 0 0 nS nS nS nS ((aj.mk b false 0).byteV) x55.byteV 0 0 g.byteV nS) fun cc bx bz=>Pl 1<|nt<|rt<|bP bx (.int .i64 0)<|?_
 have hs:ag bY 0 c b=aL (aQ.mk 43 0 0 0 0 0 0 0 0 0 0 0 [] [] [] [] ((aj.mk b false 0).byteV) x55.byteV 0 0 g.byteV []) (g.bytesC 1):=by
   subst aw H
   unfold ag bY dz gA ft fu eP ey ex dk
   (try simp only[j,o,F,bs,if_true,if_false,decide_true,decide_false,eq_self,true_or,or_true,or_false,false_or,if_true,if_false,cy,co,cw,cv,reduceIte])
   all_goals rfl
 rw[hs]
 exact bt X ⟨_,_,_,_,_,rfl,aS.nil ..,aS.nil ..,(fun _ _ _=>aS.nil ..),aS.nil ..,aS.nil ..,⟨(b8 (x:=43) (by omega)),(b8 (x:=0) (by omega)),(aD (x:=0) (by omega)),(aD (x:=0) (by omega)),(aD (x:=0) (by omega)),(aD (x:=0) (by omega)),(aD (x:=0) (by omega)),(aD (x:=0) (by omega)),(aD (x:=0) (by omega)),(aD (x:=0) (by omega)),(aD (x:=0) (by omega)),(aD (x:=0) (by omega)),(b8 (x:=(aj.mk b false 0).byteV) (by omega)),(b8 (x:=x55.byteV) (by omega)),(b8 (x:=0) (by omega)),(b8 (x:=0) (by omega)),(b8 (x:=g.byteV) (by omega))⟩⟩ (ud aC bz r)
theorem lK{m:Md}{A:Option Addr}{cp:Nat}{b:List Int}{w:World}{c:Int}(hcode:B8 c)(hsl:bh m w (.slice A b.length cp) b)(hb:b.length≤1048576) :
    Calls Tryz.prog 97 #[.int .i64 1,.int .u8 c,.slice A b.length cp] w (cM (.slice A b.length cp) b (ag bY 1 c b) w):=by
 obtain⟨hcode1,hcode2⟩:=hcode
 have hln:(b.length:Int)≤1048576:=by omega
 refine en 176 Tryz.func97 rfl<|sg<|L0<|bO mZ fun a1 dL M y a=>Pl 1<|nt<|sq<|sg<|Pl 6<|nt<|c0<|?_
 refine bp<|sq<|sg<|Pl 2<|nt<|cb ((c != 43)) (fun z=>?_) (fun z=>?_)
 have cF:=az z
 refine sg<|Pl 1<|L0<|be y mZ fun dM cG cH=>Pl 1<|nt<|rt<|tr<|bP cG (.int .i64 4)<|?_
 have hs:ag bY 1 c b=(aQ.zero,4):=by
   unfold ag bY dz gA ft fu eP ey ex dk
   (try simp only[z,bs,if_true,if_false,decide_true,decide_false,eq_self,true_or,or_true,or_false,false_or,if_true,if_false,cy,co,cw,cv,reduceIte])
   all_goals rfl
 rw[hs]
 exact bA (ud a cH M)
 have cF:=ai z
 refine bp<|sg<|Pl 2<|L0<|dv #[.slice A b.length cp,.int .i64 0,.bool false,.int .i64 0] fun t dN f b1 o=>Pl 1<|ng<|Pl 1<|L0<|bO mZ fun G dO q cI b2=>L0<|be cI (mC 43) fun cJ cL b3=>?_
 refine ng<|Pl 1<|?_
 have b4:=ud b2 b3 q
 have a2:=aG o b4
 have b5:=aG a a2
 have cN:RC w _ A cp b cJ t (aj.mk b false 0):=⟨hsl,b5,(Nat.le_trans a.size f),⟨0,(ub b4 b1),Nat.zero_le _,rfl⟩,by omega⟩
 refine L0<|Oc<|m3 (ee cN) fun dP cO ab dQ=>Pl 1<|?_
 have g:=nb (au b1) lr q
 refine L0<|cj (b6 ab (Ne.symm g) cL) 16 (mG 43 0 0 0 0 0 0 0 0 0 0 0 nS nS nS nS ((aj.mk b false 0).byteV) 0 0 0 0 nS) fun dR ad af=>ng<|Pl 2<|L0<|aP ad 16<|Pl 2<|cu 4 [38] 42 (((((aj.mk b false 0).byteV)==13)||(((aj.mk b false 0).byteV)==14))) (fun K b9=>?_) ?_
 refine bl 38 ((((aj.mk b false 0).byteV)==13)) (fun N=>?_) (fun N=>?_)
 have cP:=ae N
 exact Pl 4<|ce b9 true (by rw[N];rfl)
 have cP:=ak N
 exact Pl 1<|L1<|aP ad 16<|Pl 2<|ce b9 (((aj.mk b false 0).byteV)==14) (by rw[N];rfl)
 have a3:=us ab af
 have ba:=ut b5 a3 (ac (ni a.size f) (ac (ni (le a.size o.size) q) av))
 refine L0<|Oc<|m2 (b7 (((((aj.mk b false 0).byteV)==13)||(((aj.mk b false 0).byteV)==14))) 8 (RC.upd cO af (aa g aA) ba)) fun dS cQ H=>?_
 refine fR cQ fun x55 a4 O=>?_
 refine nt<|sq<|bk<|sg<|Pl 1<|?_
 have ah:=b6 H (Ne.symm g) ad
 refine L0<|aP ah 16<|Pl 2<|nt<|?_
 have bb:=ud ba H (le a.size f)
 refine cb ((((aj.mk b false 0).byteV)==13)) (fun E=>?_) (fun E=>?_)
 have cR:=ae E
 refine sg<|Pl 1<|L0<|Oc<|m1 (iy O) fun dT am=>?_
 have dU:=RC.clen O
 refine Pl 1<|ng<|Pl 3<|?_
 refine L0<|Oc<|m2 (b7 ((decide (((x55.l.length:Nat) : Int)≤251))) 5 (RC.upd O am aA (aF.step (RC.u O) am))) fun dV bc cS=>nt<|go<|Pl 2<|L0<|Oc<|oT (fC (n:=((x55.l.length:Nat) : Int)) (by omega) bc) fun bd bg dW cT cU cV=>?_
 have dX:=Nat.le_trans (aj.bytesR_le (x55.need (decide (((x55.l.length:Nat) : Int)≤251)) 5) ((x55.l.length:Nat) : Int)) (RC.clen bc)
 refine fR cU fun jh bm cW=>?_
 refine Pl 1<|?_
 have bo:=uz am (u1 cS cV im)
 refine L0<|cj (b6 bo (Ne.symm g) ah) 14 (mG 43 0 0 0 0 0 0 0 0 0 0 0 nS nS (.slice bd (((x55.need (decide (((x55.l.length:Nat) : Int)≤251)) 5).bytesR ((x55.l.length:Nat) : Int)).length) bg) nS ((aj.mk b false 0).byteV) 0 0 0 0 nS) fun dY cX bq=>nl<|bn<|tn<|sg<|Pl 1<|?_
 have an:=us bo bq
 have br:=ut bb an (ac (ni a.size f) (ac (ni (le a.size o.size) q) av))
 refine L0<|Oc<|m2 (et (RC.upd cW bq (aa g aA) br)) fun dZ ao a5=>nt<|sq<|sg<|Pl 3<|L0<|ez (p:=⟨t,3,none⟩) (v:=.int .i64 jh.endC.e) (RC.fld ao)<|Pl 1<|nt<|?_
 have bu:=ud br a5 (le a.size f)
 refine cb ((jh.endC.e != 0)) (fun P=>?_) (fun P=>?_)
 have ap:=az P
 refine sq<|Rg 7 (fun w'=>w'.cell? ⟨t,3,none⟩=some (.int .i64 jh.endC.e)) fun e0 a6=>?_
 have bv:=RC.upd ao a6 aA (aF.step (RC.u ao) a6)
 refine bj (RC.fld bv) fun Q=>Rt 0 Q<|Rt 1 Q<|Rt 2 Q<|Rt 3 Q<|Rl 4 Q (fun _ hs=>hs)<|?_
 refine R0 5 rfl<|be (ub (ut a2 (ut a3 (ui H (u1 an (aG a5 a6) im)) (ac im (ac im av))) (ac (nr f) (ac (ni o.size q) av))) y) mZ fun e1 cY bw=>?_
 have bz:=ud bu (uz a6 bw) M
 refine bj (RC.fld (RC.upd bv bw (aa (Ne.symm (nb (au y) lr f)) aA) bz)) fun cZ=>Rt 6 cZ<|re<|tn<|rt<|tr<|bP cY (.int .i64 jh.endC.e)<|?_
 have hs:ag bY 1 c b=aL (aQ.mk 43 0 0 0 0 0 0 0 0 0 0 0 [] [] ((x55.need (decide (((x55.l.length:Nat) : Int)≤251)) 5).bytesR ((x55.l.length:Nat) : Int)) [] ((aj.mk b false 0).byteV) 0 0 0 0 []) jh:=by
   subst bm a4
   unfold ag bY dz gA ft fu eP ey ex dk
   (try simp only[z,E,P,bs,if_true,if_false,decide_true,decide_false,eq_self,true_or,or_true,or_false,false_or,if_true,if_false,cy,co,cw,cv,reduceIte])
   all_goals rfl
 rw[hs]
 exact bi ap bz
 have ap:=ai P
 refine bp<|sg<|?_
 refine L0<|bS (b6 a5 (Ne.symm g) cX)<|?_
 refine L0<|be (ub (ut a2 (ut a3 (ui H (u1 an a5 im)) (ac im (ac im av))) (ac (nr f) (ac (ni o.size q) av))) y) (mG 43 0 0 0 0 0 0 0 0 0 0 0 nS nS (.slice bd (((x55.need (decide (((x55.l.length:Nat) : Int)≤251)) 5).bytesR ((x55.l.length:Nat) : Int)).length) bg) nS ((aj.mk b false 0).byteV) 0 0 0 0 nS) fun e2 d0 d1=>Pl 1<|nt<|rt<|bP d0 (.int .i64 0)<|?_
 have hs:ag bY 1 c b=aL (aQ.mk 43 0 0 0 0 0 0 0 0 0 0 0 [] [] ((x55.need (decide (((x55.l.length:Nat) : Int)≤251)) 5).bytesR ((x55.l.length:Nat) : Int)) [] ((aj.mk b false 0).byteV) 0 0 0 0 []) jh:=by
   subst bm a4
   unfold ag bY dz gA ft fu eP ey ex dk
   (try simp only[z,E,P,bs,if_true,if_false,decide_true,decide_false,eq_self,true_or,or_true,or_false,false_or,if_true,if_false,cy,co,cw,cv,reduceIte])
   all_goals rfl
 rw[hs]
 exact bt ap ⟨_,_,_,_,_,rfl,aS.nil ..,aS.nil ..,cT,aS.nil ..,aS.nil ..,⟨(b8 (x:=43) (by omega)),(b8 (x:=0) (by omega)),(aD (x:=0) (by omega)),(aD (x:=0) (by omega)),(aD (x:=0) (by omega)),(aD (x:=0) (by omega)),(aD (x:=0) (by omega)),(aD (x:=0) (by omega)),(aD (x:=0) (by omega)),(aD (x:=0) (by omega)),(aD (x:=0) (by omega)),(aD (x:=0) (by omega)),(b8 (x:=(aj.mk b false 0).byteV) (by omega)),(b8 (x:=0) (by omega)),(b8 (x:=0) (by omega)),(b8 (x:=0) (by omega)),(b8 (x:=0) (by omega))⟩⟩ (ud bu d1 M)
 have cR:=ak E
 refine sg<|Pl 3<|nt<|c0<|sg<|Pl 1<|L0<|Oc<|m3 (ee O) fun e3 d2 ar e4=>Pl 1<|?_
 refine L0<|cj (b6 ar (Ne.symm g) ah) 17 (mG 43 0 0 0 0 0 0 0 0 0 0 0 nS nS nS nS ((aj.mk b false 0).byteV) x55.byteV 0 0 0 nS) fun e5 aw ax=>ng<|Pl 2<|L0<|aP aw 17<|Pl 2<|cu 4 [51] 55 (((decide (0<x55.byteV))&&(decide (x55.byteV<5)))) (fun K bB=>?_) ?_
 refine bl 51 ((decide (0<x55.byteV))) (fun S=>?_) (fun S=>?_)
 have d3:=of_decide_eq_true S
 exact Pl 1<|L1<|aP aw 17<|Pl 2<|ce bB (decide (x55.byteV<5)) (by rw[S];rfl)
 have d3:=of_decide_eq_false S
 exact Pl 4<|ce bB false (by rw[S];rfl)
 have bC:=us ar ax
 have bD:=ut bb bC (ac (ni a.size f) (ac (ni (le a.size o.size) q) av))
 refine L0<|Oc<|m2 (b7 (((decide (0<x55.byteV))&&(decide (x55.byteV<5)))) 6 (RC.upd d2 ax (aa g aA) bD)) fun e6 d4 bE=>?_
 refine fR d4 fun j bF d5=>?_
 refine ng<|Pl 1<|L0<|Oc<|m3 (ee d5) fun e7 d6 bG e8=>Pl 1<|?_
 have bH:=u1 bE bG im
 refine L0<|cj (b6 bH (Ne.symm g) aw) 18 (mG 43 0 0 0 0 0 0 0 0 0 0 0 nS nS nS nS ((aj.mk b false 0).byteV) x55.byteV j.byteV 0 0 nS) fun e9 bI aB=>ng<|Pl 1<|L0<|aP bI 18<|L0<|Oe (.int .u8 (Int.tmod j.byteV 128)) (.int .u8 (j.byteV%128)) (congrArg (Value.int .u8) (Int.tmod_eq_emod_of_nonneg (by omega)))<|Pl 1<|ng<|Pl 4<|cu 3 [66] 69 (((decide (1≤(j.byteV%128)))&&(decide ((j.byteV%128)≤3)))) (fun K bJ=>?_) ?_
 refine bl 66 ((decide (1≤(j.byteV%128)))) (fun T=>?_) (fun T=>?_)
 have d7:=of_decide_eq_true T
 exact Pl 3<|ce bJ (decide ((j.byteV%128)≤3)) (by rw[T];rfl)
 have d7:=of_decide_eq_false T
 exact Pl 3<|ce bJ false (by rw[T];rfl)
 have bK:=us bH aB
 have bL:=ut bD bK (ac (ni a.size f) (ac (ni (le a.size o.size) q) av))
 refine L0<|Oc<|m2 (b7 (((decide (1≤(j.byteV%128)))&&(decide ((j.byteV%128)≤3)))) 6 (RC.upd d6 aB (aa g aA) bL)) fun eb d8 bM=>?_
 refine fR d8 fun k bN d9=>?_
 refine ng<|Pl 1<|L0<|Oc<|m3 (ee d9) fun ec db bQ ed=>Pl 1<|?_
 have bR:=u1 bM bQ im
 refine L0<|cj (b6 bR (Ne.symm g) bI) 19 (mG 43 0 0 0 0 0 0 0 0 0 0 0 nS nS nS nS ((aj.mk b false 0).byteV) x55.byteV j.byteV k.byteV 0 nS) fun ef aC aE=>ng<|Pl 2<|L0<|aP aC 19<|Pl 2<|cu 4 [78] 82 (((k.byteV==0)||(k.byteV==255))) (fun K bT=>?_) ?_
 refine bl 78 ((k.byteV==0)) (fun U=>?_) (fun U=>?_)
 have dc:=ae U
 exact Pl 4<|ce bT true (by rw[U];rfl)
 have dc:=ak U
 exact Pl 1<|L1<|aP aC 19<|Pl 2<|ce bT (k.byteV==255) (by rw[U];rfl)
 have bU:=us bR aE
 have bV:=ut bL bU (ac (ni a.size f) (ac (ni (le a.size o.size) q) av))
 refine L0<|Oc<|m2 (b7 (((k.byteV==0)||(k.byteV==255))) 6 (RC.upd db aE (aa g aA) bV)) fun eg dd bW=>?_
 refine fR dd fun s bX de=>?_
 refine ng<|Pl 1<|L0<|Oc<|m3 (ee de) fun eh df bZ ei=>Pl 1<|?_
 have c1:=u1 bW bZ im
 refine L0<|cj (b6 c1 (Ne.symm g) aC) 20 (mG 43 0 0 0 0 0 0 0 0 0 0 0 nS nS nS nS ((aj.mk b false 0).byteV) x55.byteV j.byteV k.byteV s.byteV nS) fun ej a7 aH=>ng<|Pl 2<|L0<|aP a7 20<|Pl 2<|cu 4 [91] 95 (((s.byteV==0)||(k.byteV==255))) (fun K c2=>?_) ?_
 refine bl 91 ((s.byteV==0)) (fun V=>?_) (fun V=>?_)
 have dg:=ae V
 exact Pl 4<|ce c2 true (by rw[V];rfl)
 have dg:=ak V
 exact Pl 1<|L1<|aP a7 19<|Pl 2<|ce c2 (k.byteV==255) (by rw[V];rfl)
 have c3:=us c1 aH
 have c4:=ut bV c3 (ac (ni a.size f) (ac (ni (le a.size o.size) q) av))
 refine L0<|Oc<|m2 (b7 (((s.byteV==0)||(k.byteV==255))) 6 (RC.upd df aH (aa g aA) c4)) fun ek dh aI=>?_
 refine fR dh fun d c5 di=>?_
 refine ng<|Pl 1<|L0<|Oc<|m3 (ee di) fun el dj aJ em=>L0<|Oi d.byteV<|Pl 1<|ng<|Pl 4<|cu 4 [103] 107 (((d.byteV==1)||(x55.byteV != 4))) (fun K c6=>?_) ?_
 refine bl 103 ((d.byteV==1)) (fun W=>?_) (fun W=>?_)
 have dl:=ae W
 exact Pl 4<|ce c6 true (by rw[W];rfl)
 have dl:=ak W
 refine Pl 1<|?_
 exact L1<|aP (b6 (u1 aI aJ im) (Ne.symm g) a7) 17<|Pl 2<|ce c6 (x55.byteV != 4) (by rw[W];rfl)
 refine L0<|Oc<|m2 (b7 (((d.byteV==1)||(x55.byteV != 4))) 5 dj) fun dm dn c7=>?_
 refine fR dn fun F c8 dp=>?_
 refine ng<|Pl 1<|nt<|bk<|?_
 have hKr:0≤d.byteV∧d.byteV<256:=by omega
 have aK:=u1 aI (u1 aJ c7 im) im
 refine js (fun x=>[(6,.pointer (some ⟨a1,0,none⟩)),(7,.int .i64 0),(8,.pointer (some ⟨t,0,none⟩)),(9,.pointer (some ⟨G,0,none⟩)),(12,.int .i64 d.byteV),(13,.int .i64 ((x.1:Nat) : Int))]) (fun(x:Nat × aj × List Obj × Option Addr × Nat) w'=>aF [] w w'∧dm.heap.size≤w'.heap.size∧w'.heap[a1]? = some (.cells mZ 30 (0,0))∧RC w m A cp b w' t x.2.1∧w'.heap[G]? = some (.cells (mG 43 0 0 0 0 0 0 0 0 0 0 0 nS nS nS nS ((aj.mk b false 0).byteV) x55.byteV j.byteV k.byteV s.byteV (.slice x.2.2.2.1 x.2.2.1.length x.2.2.2.2)) 30 (0,0))∧aW w.heap.size 111 2 (nT (.slice A b.length cp) b) w' (.slice x.2.2.2.1 x.2.2.1.length x.2.2.2.2) x.2.2.1∧(x.1≤d.byteV.toNat)∧(x.2.2.1.length=x.1)∧(ea (d.byteV.toNat-x.1) x.2.1 x.2.2.1=ea d.byteV.toNat F [])) (fun x=>d.byteV.toNat-x.1) (0,F,[],none,0) ⟨(ud c4 aK (le a.size f)),lr,(ub (ut a2 (ut a3 (ui H (ut bC (ut bK (ut bU (u1 c3 aK im) (ac im (ac im av))) (ac im (ac im av))) (ac im (ac im av)))) (ac im (ac im av))) (ac (nr f) (ac (ni o.size q) av))) y),dp,(b6 aK (Ne.symm g) a7),(aW.nil w.heap.size _ _ (nT (.slice A b.length cp) b) _),(by(try dsimp only);omega),rfl,rfl⟩ ?_
 rintro⟨i,C,L,B,cq⟩ a8 ⟨c9,ca,dq,dr,ds,dt,du,dw,dx⟩
 refine ju [(6,.pointer (some ⟨a1,0,none⟩)),(7,.int .i64 0),(8,.pointer (some ⟨t,0,none⟩)),(9,.pointer (some ⟨G,0,none⟩)),(12,.int .i64 d.byteV),(13,.int .i64 ((i:Nat) : Int))] ?_
 have I:a8.heap[a1]? = some (.cells mZ 30 (0,0)):=dq
 have D:RC w m A cp b a8 t C:=dr
 have hlC:=RC.clen D
 have hrC:eN C:=RC.rng D
 have hbv:=da hrC
 have hbv2:=da (ie hrC (n:=1))
 have cc:a8.heap[G]? = some (.cells (mG 43 0 0 0 0 0 0 0 0 0 0 0 nS nS nS nS ((aj.mk b false 0).byteV) x55.byteV j.byteV k.byteV s.byteV (.slice B L.length cq)) 30 (0,0)):=ds
 have r:aW w.heap.size 111 2 (nT (.slice A b.length cp) b) a8 (.slice B L.length cq) L:=dt
 have eo:i≤d.byteV.toNat:=du
 have ep:L.length=i:=dw
 have cd:ea (d.byteV.toNat-i) C L=ea d.byteV.toNat F []:=dx
 refine sq<|sg<|Pl 3<|nt<|cb ((decide (((i:Nat) : Int)<d.byteV))) (fun X=>?_) (fun X=>?_)
 have dy:=of_decide_eq_true X
 refine bp<|sq<|bk<|sg<|Pl 1<|L0<|Oc<|m3 (ee D) fun eq dA aN er=>Pl 1<|ng<|Pl 1<|L0<|Oc<|m3 (ee dA) fun es cf aO eu=>?_
 refine L0<|Oi ((C.bytesC 1).byteV)<|Pl 1<|ng<|Pl 2<|L0<|Oc<|oT (fC (n:=(C.bytesC 1).byteV) (by omega) cf) fun dB dC ev dD cg aR=>?_
 have ew:=Nat.le_trans (aj.bytesR_le ((C.bytesC 1).bytesC 1) ((C.bytesC 1).byteV)) (RC.clen cf)
 refine Pl 1<|nt<|go<|Pl 1<|?_
 have aT:=u1 aN (u1 aO aR im) im
 have aU:=b6 aT (Ne.symm g) cc
 refine L0<|aP aU 21<|Pl 3<|L0<|cK (m:=1) (e:=111) #[.int .u8 C.byteV,.slice dB ((((C.bytesC 1).bytesC 1).bytesR ((C.bytesC 1).byteV)).length) dC] fun eA eB eC dE J=>?_
 have ch:=RC.upd cg J aA (aF.step (RC.u cg) J)
 have dF:=kg (R:=nT (.slice A b.length cp) b) (x:=(Obj.mk C.byteV (((C.bytesC 1).bytesC 1).bytesR ((C.bytesC 1).byteV)))) dE rfl ⟨_,_,_,rfl,dD,b8 (x:=C.byteV) (by omega)⟩
 have ci:=aG aT J
 have ck:=aq r ci (fun x hx=>(aa (fun e=>(RC.nrow D r (by decide)) (e▸hx)) aA)) (fun _ _ h=>h)
 refine L0<|gX (xs:=L) (ys:=([(Obj.mk C.byteV (((C.bytesC 1).bytesC 1).bytesR ((C.bytesC 1).byteV)))])) (.agg #[.int .u8 0,.slice none 0 0]) 2 32 ck dF (by simp) nT.ones (fun _ _ _ _ h=>h) (by(try simp only[List.length_append,List.length_cons,List.length_nil,ay]);omega) (le (le (le (le (le (le (le (le (le (le (le (le (le (le (le (le (le (le (le (le (le (le (le (le (le a.size o.size) b2.size) b3.size) ab.size) af.size) H.size) ar.size) ax.size) bE.size) bG.size) aB.size) bM.size) bQ.size) aE.size) bW.size) bZ.size) aH.size) aI.size) aJ.size) c7.size) ca) aN.size) aO.size) aR.size) J.size) fun cl cm eD cn aV=>Pl 1<|?_
 have cr:=aF.blk (ut (aF.mono (S':=(ob B++[])) J av) aV (al il av)) (bf (dI aU (aq r aT (fun x hx=>(aa (fun e=>(RC.nrow D r (by decide)) (e▸hx)) aA)) (fun _ _ h=>h)) (by decide)) aA) aU
 refine L0<|cj cr 21 (mG 43 0 0 0 0 0 0 0 0 0 0 0 nS nS nS nS ((aj.mk b false 0).byteV) x55.byteV j.byteV k.byteV s.byteV (.slice cl ((L++[(Obj.mk C.byteV (((C.bytesC 1).bytesC 1).bytesR ((C.bytesC 1).byteV)))]).length) cm)) fun eE dG aX=>nl<|bn<|tn<|go<|Pl 1<|L0<|Oi (((i:Nat) : Int)+1)<|Pl 1<|nl<|?_
 have cs:=u1 (aF.mono (S':=(ob B++(G :: []))) aV (al il av)) aX im
 have ct:=ut (aF.mono (S':=(t :: (ob B++(G :: [])))) ci (ac im av)) cs (al il (ac im av))
 have cx:=ut c9 ct (ac (ni a.size f) (al (aM r lr) (ac (ni (le a.size o.size) q) av)))
 exact gM ((i+1),(((C.bytesC 1).bytesC 1).bytesC ((C.bytesC 1).byteV)),(L++[(Obj.mk C.byteV (((C.bytesC 1).bytesC 1).bytesR ((C.bytesC 1).byteV)))]),cl,cm) ⟨cx,(le (le (le (le (le (le ca aN.size) aO.size) aR.size) J.size) aV.size) aX.size),(aF.blk ct (aa (nb (au y) lr f) (bf (dI I r (by decide)) (aa (nb (au y) o.size q) aA))) I),(RC.upd ch cs (bf (RC.nrow ch ck (by decide)) (aa g aA)) cx),dG,(aq cn aX (fun x hx=>(aa (fun e=>(dI cr cn (by decide)) (e▸hx)) aA)) (fun _ _ h=>h)),(by(try dsimp only);omega),(by(try dsimp only);simp only[List.length_append,List.length_cons,List.length_nil];omega),(by(try dsimp only);rw[← cd,show d.byteV.toNat-i=(d.byteV.toNat-(i+1))+1 from by omega];rfl)⟩ (by omega)
 have dy:=of_decide_eq_false X
 refine xt<|tx<|tx<|bx<|bn<|tn<|sg<|Pl 1<|?_
 have hR:=tS cd (by omega)
 refine L0<|Oc<|m2 (et D) fun eF aY Y=>nt<|sq<|sg<|Pl 3<|L0<|ez (p:=⟨t,3,none⟩) (v:=.int .i64 C.endC.e) (RC.fld aY)<|Pl 1<|nt<|?_
 have cz:=ud c9 Y (le a.size f)
 refine cb ((C.endC.e != 0)) (fun Z=>?_) (fun Z=>?_)
 have aZ:=az Z
 refine sq<|Rg 7 (fun w'=>w'.cell? ⟨t,3,none⟩=some (.int .i64 C.endC.e)) fun eG a9=>?_
 have cA:=RC.upd aY a9 aA (aF.step (RC.u aY) a9)
 refine bj (RC.fld cA) fun a0=>Rt 0 a0<|Rt 1 a0<|Rt 2 a0<|Rt 3 a0<|Rl 4 a0 (fun _ hs=>hs)<|?_
 have cB:=aG Y a9
 have cC:=nb (au y) lr f
 refine R0 5 rfl<|be (b6 cB cC I) mZ fun eH dH b0=>?_
 have cD:=ud cz (uz a9 b0) M
 refine bj (RC.fld (RC.upd cA b0 (aa (Ne.symm cC) aA) cD)) fun dJ=>Rt 6 dJ<|re<|tn<|rt<|tr<|bP dH (.int .i64 C.endC.e)<|?_
 have eI:=aq r (us cB b0) (fun x hx=>(aa (fun e=>(RC.nrow D r (by decide)) (e▸hx)) (aa (fun e=>(dI I r (by decide)) (e▸hx)) aA))) (fun _ _ h=>h)
 have hs:ag bY 1 c b=aL (aQ.mk 43 0 0 0 0 0 0 0 0 0 0 0 [] [] [] [] ((aj.mk b false 0).byteV) x55.byteV j.byteV k.byteV s.byteV (ea d.byteV.toNat F []).2) (ea d.byteV.toNat F []).1:=by
   subst c8 c5 bX bN bF a4
   unfold ag bY dz gA ft fu eP ey ex dk
   (try simp only[z,E,X,Z,bs,if_true,if_false,decide_true,decide_false,eq_self,true_or,or_true,or_false,false_or,if_true,if_false,cy,co,cw,cv,reduceIte])
   all_goals rfl
 rw[hR] at hs
 rw[hs]
 exact bi aZ cD
 have aZ:=ai Z
 refine bp<|sg<|?_
 refine L0<|bS (b6 Y (Ne.symm g) cc)<|?_
 refine L0<|be (b6 Y (nb (au y) lr f) I) (mG 43 0 0 0 0 0 0 0 0 0 0 0 nS nS nS nS ((aj.mk b false 0).byteV) x55.byteV j.byteV k.byteV s.byteV (.slice B L.length cq)) fun eJ dK cE=>Pl 1<|nt<|rt<|bP dK (.int .i64 0)<|?_
 have hs:ag bY 1 c b=aL (aQ.mk 43 0 0 0 0 0 0 0 0 0 0 0 [] [] [] [] ((aj.mk b false 0).byteV) x55.byteV j.byteV k.byteV s.byteV (ea d.byteV.toNat F []).2) (ea d.byteV.toNat F []).1:=by
   subst c8 c5 bX bN bF a4
   unfold ag bY dz gA ft fu eP ey ex dk
   (try simp only[z,E,X,Z,bs,if_true,if_false,decide_true,decide_false,eq_self,true_or,or_true,or_false,false_or,if_true,if_false,cy,co,cw,cv,reduceIte])
   all_goals rfl
 rw[hR] at hs
 rw[hs]
 exact bt aZ ⟨_,_,_,_,_,rfl,aS.nil ..,aS.nil ..,(fun _ _ _=>aS.nil ..),aS.nil ..,((aq r (us Y cE) (fun x hx=>(aa (fun e=>(RC.nrow D r (by decide)) (e▸hx)) (aa (fun e=>(dI I r (by decide)) (e▸hx)) aA))) (fun _ _ h=>h))).rd,⟨(b8 (x:=43) (by omega)),(b8 (x:=0) (by omega)),(aD (x:=0) (by omega)),(aD (x:=0) (by omega)),(aD (x:=0) (by omega)),(aD (x:=0) (by omega)),(aD (x:=0) (by omega)),(aD (x:=0) (by omega)),(aD (x:=0) (by omega)),(aD (x:=0) (by omega)),(aD (x:=0) (by omega)),(aD (x:=0) (by omega)),(b8 (x:=(aj.mk b false 0).byteV) (by omega)),(b8 (x:=x55.byteV) (by omega)),(b8 (x:=j.byteV) (by omega)),(b8 (x:=k.byteV) (by omega)),(b8 (x:=s.byteV) (by omega))⟩⟩ (ud cz cE M)
theorem lA{m:Md}{A:Option Addr}{cp:Nat}{b:List Int}{w:World}{dir c:Int}(hcode:B8 c)(hsl:bh m w (.slice A b.length cp) b)(hb:b.length≤1048576)(hd:¬ (dir=0∨dir=1)) :
    Calls Tryz.prog 97 #[.int .i64 dir,.int .u8 c,.slice A b.length cp] w (cM (.slice A b.length cp) b (ag bY dir c b) w):=by
 obtain⟨hcode1,hcode2⟩:=hcode
 have hln:(b.length:Int)≤1048576:=by omega
 have e0:(dir != 0)=true:=by simp;omega
 have e1:(dir != 1)=true:=by simp;omega
 refine en 176 Tryz.func97 rfl<|sg<|L0<|bO mZ fun g h a d e=>Pl 1<|nt<|sq<|sg<|Pl 3<|sy 19 e0<|Pl 3<|nl<|?_
 refine tn<|ct e1<|sg<|Pl 1<|L0<|be d mZ fun i dB f=>Pl 1<|nt<|rt<|tr<|bP dB (.int .i64 1)<|?_
 have hs:ag bY dir c b=(aQ.zero,1):=by
   unfold ag bY dz gA ft fu eP ey ex dk
   (try simp only[e0,e1,bs,if_true,if_false,decide_true,decide_false,eq_self,true_or,or_true,or_false,false_or,if_true,if_false,cy,co,cw,cv,reduceIte,hd])
   all_goals rfl
 rw[hs]
 exact bA (ud e f a)
theorem l9{m:Md}{v:Value}{b:List Int}{w:World}{dir c:Int}(hc:B8 c)(h:bh m w v b)(hb:b.length≤1048576) :
    Calls Tryz.prog 97 #[.int .i64 dir,.int .u8 c,v] w (cM v b (ag bz dir c b) w):=by
  rw[← nO (bh.range h)]
  obtain⟨A,cp,rfl,_,_⟩:=h.shape
  by_cases h0:dir=0
  · subst h0;exact lT hc h hb
  by_cases h1:dir=1
  · subst h1;exact lK hc h hb
  exact lA hc h hb (by omega)
open Go.RowKit
theorem tj{x:Int}{w:World}:Calls Tryz.prog 148 #[.int .u8 x] w (dM (.bool (iF x)) w):=by
 refine en 37 Tryz.func148 rfl<|sg<|Pl 1<|ng<|Pl 3<|cu 3 [5] 8 (((decide (1≤x))&&(decide (x≤8)))) (fun K i=>?_) ?_
 refine bl 5 ((decide (1≤x))) (fun a=>?_) (fun a=>?_)
 have v:=of_decide_eq_true a
 exact Pl 3<|ce i (decide (x≤8)) (by rw[a];rfl)
 have v:=of_decide_eq_false a
 exact Pl 3<|ce i false (by rw[a];rfl)
 refine Pl 1<|cu 3 [9] 12 ((((decide (1≤x))&&(decide (x≤8)))||(x==11))) (fun K j=>?_) ?_
 refine bl 9 (((decide (1≤x))&&(decide (x≤8)))) (fun b=>?_) (fun b=>?_)
 have y:=(aZ b).1
 have z:=(aZ b).2
 have G:=of_decide_eq_true y
 have H:=of_decide_eq_true z
 exact Pl 3<|ce j true (by rw[b];rfl)
 exact Pl 3<|ce j (x==11) (by rw[b];rfl)
 refine Pl 1<|cu 3 [13] 16 (((((decide (1≤x))&&(decide (x≤8)))||(x==11))||(x==12))) (fun K k=>?_) ?_
 refine bl 13 ((((decide (1≤x))&&(decide (x≤8)))||(x==11))) (fun c=>?_) (fun c=>?_)
 exact Pl 3<|ce k true (by rw[c];rfl)
 have I:=(aH c).1
 have A:=(aH c).2
 have J:=ak A
 exact Pl 3<|ce k (x==12) (by rw[c];rfl)
 refine Pl 1<|cu 7 [17] 24 ((((((decide (1≤x))&&(decide (x≤8)))||(x==11))||(x==12))||((decide (15≤x))&&(decide (x≤17))))) (fun K l=>?_) ?_
 refine bl 17 (((((decide (1≤x))&&(decide (x≤8)))||(x==11))||(x==12))) (fun d=>?_) (fun d=>?_)
 exact Pl 7<|ce l true (by rw[d];rfl)
 have m:=(aH d).1
 have B:=(aH d).2
 have L:=(aH m).1
 have C:=(aH m).2
 have q16abp:=ak C
 have M:=ak B
 refine Pl 3<|cu 3 [20] 23 (((decide (15≤x))&&(decide (x≤17)))) (fun K n=>?_) ?_
 refine bl 20 ((decide (15≤x))) (fun e=>?_) (fun e=>?_)
 have D:=of_decide_eq_true e
 exact Pl 3<|ce n (decide (x≤17)) (by rw[e];rfl)
 have D:=of_decide_eq_false e
 exact Pl 3<|ce n false (by rw[e];rfl)
 exact Pl 1<|ce l ((decide (15≤x))&&(decide (x≤17))) (by rw[d];rfl)
 refine Pl 1<|cu 7 [25] 32 (((((((decide (1≤x))&&(decide (x≤8)))||(x==11))||(x==12))||((decide (15≤x))&&(decide (x≤17))))||((decide (20≤x))&&(decide (x≤24))))) (fun K o=>?_) ?_
 refine bl 25 ((((((decide (1≤x))&&(decide (x≤8)))||(x==11))||(x==12))||((decide (15≤x))&&(decide (x≤17))))) (fun f=>?_) (fun f=>?_)
 exact Pl 7<|ce o true (by rw[f];rfl)
 have p:=(aH f).1
 have N:=(aH f).2
 have q:=(aH p).1
 have E:=(aH p).2
 have q20aaa:=(aH q).1
 have q20aab:=(aH q).2
 have q20aabp:=ak q20aab
 have q20abp:=ak E
 refine Pl 3<|cu 3 [28] 31 (((decide (20≤x))&&(decide (x≤24)))) (fun K r=>?_) ?_
 refine bl 28 ((decide (20≤x))) (fun g=>?_) (fun g=>?_)
 have F:=of_decide_eq_true g
 exact Pl 3<|ce r (decide (x≤24)) (by rw[g];rfl)
 have F:=of_decide_eq_false g
 exact Pl 3<|ce r false (by rw[g];rfl)
 exact Pl 1<|ce o ((decide (20≤x))&&(decide (x≤24))) (by rw[f];rfl)
 refine Pl 1<|cu 3 [33] 36 ((((((((decide (1≤x))&&(decide (x≤8)))||(x==11))||(x==12))||((decide (15≤x))&&(decide (x≤17))))||((decide (20≤x))&&(decide (x≤24))))||(x==43))) (fun K s=>?_) ?_
 refine bl 33 (((((((decide (1≤x))&&(decide (x≤8)))||(x==11))||(x==12))||((decide (15≤x))&&(decide (x≤17))))||((decide (20≤x))&&(decide (x≤24))))) (fun h=>?_) (fun h=>?_)
 exact Pl 3<|ce s true (by rw[h];rfl)
 have t:=(aH h).1
 have O:=(aH h).2
 have u:=(aH t).1
 have P:=(aH t).2
 have q24aaa:=(aH u).1
 have q24aab:=(aH u).2
 have q24aaaa:=(aH q24aaa).1
 have q24aaab:=(aH q24aaa).2
 have q24aaabp:=ak q24aaab
 have q24aabp:=ak q24aab
 exact Pl 3<|ce s (x==43) (by rw[h];rfl)
 refine Pl 1<|nt<|rt<|rr (.bool (((((((decide (1≤x))&&(decide (x≤8)))||(x==11))||(x==12))||((decide (15≤x))&&(decide (x≤17))))||((decide (20≤x))&&(decide (x≤24))))||(x==43)))<|?_
 have hs:iF x=(((((((decide (1≤x))&&(decide (x≤8)))||(x==11))||(x==12))||((decide (15≤x))&&(decide (x≤17))))||((decide (20≤x))&&(decide (x≤24))))||(x==43)):=by
   unfold iF
   (try simp only[bs,if_true,if_false,decide_true,decide_false])
 rw[hs]
 exact⟨rfl,(aF.refl [] _)⟩
open Go.RowKit
def fj (b:List Int) : aQ × Int :=
  if decide ((b.length:Int)<1) then (aQ.zero,2)
  else if decide (b.getD 0 0-128<0) then (aQ.zero,4)
  else if !(iF ((b.getD 0 0-128)%256)) then (aQ.zero,4)
  else if decide ((b.length:Int)<2) then (aQ.zero,2)
  else if !(cU (b.getD 1 0)) then (aQ.zero,6)
  else if decide (2<(b.length:Int)) then (aQ.zero,3)
  else (ge ((b.getD 0 0-128)%256) (b.getD 1 0),0)
theorem wX{x:Int}:iF x=dO x:=by
  unfold iF dO
  rw[Bool.eq_iff_iff]
  simp only[decide_eq_true_eq,List.mem_cons,List.not_mem_nil,or_false,Bool.or_eq_true,Bool.and_eq_true,beq_iff_eq]
  omega
theorem tI(b:List Int) : fj b=eg b:=by
  unfold fj eg
  rw[wX,show decide ((b.length:Int)<1)=((b.length:Int)==0) from by rw[Bool.eq_iff_iff];simp only[decide_eq_true_eq,beq_iff_eq];omega,show decide (b.getD 0 0-128<0)=decide (b.getD 0 0<128) from by rw[Bool.eq_iff_iff];simp only[decide_eq_true_eq];omega]
  by_cases h:b.length=0
  · rw[show((b.length:Int)==0)=true from by rw[beq_iff_eq];omega];rfl
  · rw[show decide ((b.length:Int)<2)=((b.length:Int)==1) from by rw[Bool.eq_iff_iff];simp only[decide_eq_true_eq,beq_iff_eq];omega]
theorem og{m:Md}{A:Option Addr}{cp:Nat}{b:List Int}{w:World}(hsl:bh m w (.slice A b.length cp) b)(hb:b.length≤1048576) :
    Calls Tryz.prog 92 #[.slice A b.length cp] w (cM (.slice A b.length cp) b (fj b) w):=by
 have hln:(b.length:Int)≤1048576:=by omega
 refine en 46 Tryz.func92 rfl<|sg<|L0<|bO mZ fun a2 a3 e f n=>Pl 1<|nt<|sq<|sg<|Pl 3<|nt<|cb ((decide (((b.length:Nat) : Int)<1))) (fun a=>?_) (fun a=>?_)
 have u:=of_decide_eq_true a
 refine sg<|Pl 1<|L0<|be f mZ fun a4 y z=>Pl 1<|nt<|rt<|tr<|bP y (.int .i64 2)<|?_
 have hs:fj b=(aQ.zero,2):=by
   unfold fj
   (try simp only[a,bs,if_true,if_false,decide_true,decide_false,Bool.not_eq_true,reduceIte])
   all_goals rfl
 rw[hs]
 exact bA (ud n z e)
 have u:=of_decide_eq_false a
 refine bp<|sg<|Pl 1<|?_
 have s:=bh.old hsl n
 refine gf (bh.at_ s 0 (by omega)) fun B C D E a5=>L0<|lv b.length 0 D (by omega)<|L0<|ez (p:=⟨B,C+0,none⟩) (v:=.int .u8 (b.getD 0 0)) E<|L0<|Oi (b.getD 0 0)<|L0<|Oi ((b.getD 0 0)-128)<|Pl 1<|nt<|sq<|sg<|Pl 2<|nt<|?_
 refine cb ((decide (((b.getD 0 0)-128)<0))) (fun c=>?_) (fun c=>?_)
 have F:=of_decide_eq_true c
 refine sg<|Pl 1<|L0<|be f mZ fun a6 G H=>Pl 1<|nt<|rt<|tr<|bP G (.int .i64 4)<|?_
 have hs:fj b=(aQ.zero,4):=by
   unfold fj
   (try simp only[a,c,bs,if_true,if_false,decide_true,decide_false,Bool.not_eq_true,reduceIte])
   all_goals rfl
 rw[hs]
 exact bA (ud n H e)
 have F:=of_decide_eq_false c
 refine bp<|sg<|Pl 2<|L0<|Oc<|m1 (tj (x:=(((b.getD 0 0)-128)%256))) fun a7 g=>Pl 1<|nt<|sq<|sg<|Pl 2<|nl<|?_
 refine tn<|?_
 have q:=aG n g
 refine cb ((!(iF (((b.getD 0 0)-128)%256)))) (fun d=>?_) (fun d=>?_)
 have i:(iF (((b.getD 0 0)-128)%256))=false:=by simpa using d
 refine sg<|Pl 1<|?_
 refine L0<|be (ub g f) mZ fun a8 I J=>Pl 1<|nt<|rt<|tr<|bP I (.int .i64 4)<|?_
 have hs:fj b=(aQ.zero,4):=by
   unfold fj
   (try simp only[a,c,d,i,bs,if_true,if_false,decide_true,decide_false,Bool.not_eq_true,reduceIte])
   all_goals rfl
 rw[hs]
 exact bA (ud q J e)
 have i:(iF (((b.getD 0 0)-128)%256))=true:=by simpa using d
 refine bp<|sq<|sg<|Pl 3<|nt<|cb ((decide (((b.length:Nat) : Int)<2))) (fun h=>?_) (fun h=>?_)
 have K:=of_decide_eq_true h
 refine sg<|Pl 1<|?_
 refine L0<|be (ub g f) mZ fun a9 L M=>Pl 1<|nt<|rt<|tr<|bP L (.int .i64 2)<|?_
 have hs:fj b=(aQ.zero,2):=by
   unfold fj
   (try simp only[a,c,d,i,h,bs,if_true,if_false,decide_true,decide_false,Bool.not_eq_true,reduceIte])
   all_goals rfl
 rw[hs]
 exact bA (ud q M e)
 have K:=of_decide_eq_false h
 refine bp<|sg<|Pl 1<|?_
 have t:=bh.old s g
 refine gf (bh.at_ t 1 (by omega)) fun N O P Q aa=>L0<|lv b.length 1 P (by omega)<|L0<|ez (p:=⟨N,O+1,none⟩) (v:=.int .u8 (b.getD 1 0)) Q<|L0<|Oc<|m1 (sO (x:=(b.getD 1 0)) (by omega)) fun ab k=>Pl 1<|nt<|sq<|sg<|Pl 2<|nt<|?_
 have r:=aG q k
 refine cb ((!(cU (b.getD 1 0)))) (fun j=>?_) (fun j=>?_)
 have o:(cU (b.getD 1 0))=false:=by simpa using j
 refine sg<|Pl 1<|?_
 refine L0<|be (ub (aG g k) f) mZ fun ac R S=>Pl 1<|nt<|rt<|tr<|bP R (.int .i64 6)<|?_
 have hs:fj b=(aQ.zero,6):=by
   unfold fj
   (try simp only[a,c,d,i,h,j,o,bs,if_true,if_false,decide_true,decide_false,Bool.not_eq_true,reduceIte])
   all_goals rfl
 rw[hs]
 exact bA (ud r S e)
 have o:(cU (b.getD 1 0))=true:=by simpa using j
 refine bp<|sq<|sg<|Pl 3<|nt<|cb ((decide (2<((b.length:Nat) : Int)))) (fun l=>?_) (fun l=>?_)
 have T:=of_decide_eq_true l
 refine sg<|Pl 1<|?_
 refine L0<|be (ub (aG g k) f) mZ fun ad U V=>Pl 1<|nt<|rt<|tr<|bP U (.int .i64 3)<|?_
 have hs:fj b=(aQ.zero,3):=by
   unfold fj
   (try simp only[a,c,d,i,h,j,o,l,bs,if_true,if_false,decide_true,decide_false,Bool.not_eq_true,reduceIte])
   all_goals rfl
 rw[hs]
 exact bA (ud r V e)
 have T:=of_decide_eq_false l
 refine bp<|sg<|Pl 3<|?_
 refine gf (bh.at_ (bh.old t k) 1 (by omega)) fun W X Y Z ae=>L0<|lv b.length 1 Y (by omega)<|L0<|ez (p:=⟨W,X+1,none⟩) (v:=.int .u8 (b.getD 1 0)) Z<|Pl 1<|?_
 refine L0<|be (ub (aG g k) f) (mG (((b.getD 0 0)-128)%256) (b.getD 1 0) 0 0 0 0 0 0 0 0 0 0 nS nS nS nS 0 0 0 0 0 nS) fun af a0 a1=>Pl 1<|nt<|rt<|bP a0 (.int .i64 0)<|?_
 have hs:fj b=((aQ.mk (((b.getD 0 0)-128)%256) (b.getD 1 0) 0 0 0 0 0 0 0 0 0 0 [] [] [] [] 0 0 0 0 0 []),0):=by
   unfold fj
   (try simp only[a,c,d,i,h,j,o,l,bs,if_true,if_false,decide_true,decide_false,Bool.not_eq_true,reduceIte])
   all_goals rfl
 rw[hs]
 exact⟨_,rfl,⟨_,_,_,_,_,rfl,aS.nil ..,aS.nil ..,(fun _ _ _=>aS.nil ..),aS.nil ..,aS.nil ..,⟨(b8 (x:=(((b.getD 0 0)-128)%256)) (by omega)),(b8 (x:=(b.getD 1 0)) (by omega)),(aD (x:=0) (by omega)),(aD (x:=0) (by omega)),(aD (x:=0) (by omega)),(aD (x:=0) (by omega)),(aD (x:=0) (by omega)),(aD (x:=0) (by omega)),(aD (x:=0) (by omega)),(aD (x:=0) (by omega)),(aD (x:=0) (by omega)),(aD (x:=0) (by omega)),(b8 (x:=0) (by omega)),(b8 (x:=0) (by omega)),(b8 (x:=0) (by omega)),(b8 (x:=0) (by omega)),(b8 (x:=0) (by omega))⟩⟩,(ud r a1 e)⟩
theorem lf{m:Md}{v:Value}{b:List Int}{w:World}(h:bh m w v b)(hb:b.length≤1048576) : Calls Tryz.prog 92 #[v] w (cM v b (eg b) w):=by
  obtain⟨A,cp,rfl,_,_⟩:=h.shape
  rw[← tI]
  exact og h hb
open Go.RowKit
theorem gK{x y:aQ × Int}(h:x=y){w:World}{e:Ending}{w':World}{v0:Value}{b:List Int}(k:cM v0 b y w e w') : cM v0 b x w e w':=by rw[h];exact k
theorem jb{m:Md}{v:Value}{b:List Int}{w:World}{dir c:Int}(hc:B8 c)(h:bh m w v b)(hb:b.length≤1048576) :
    Calls Tryz.prog 93 #[.int .i64 dir,.int .u8 c,v] w (cM v b (ag aC dir c b) w):=by
  obtain⟨A,cp,rfl,_,_⟩:=h.shape
  by_cases h0:dir=0
  · subst h0;exact kG hc h hb
  by_cases h1:dir=1
  · subst h1;exact lm hc h hb
  exact l6 hc h hb (by omega)
theorem jS{m:Md}{v:Value}{b:List Int}{w:World}{dir c:Int}(hc:B8 c)(h:bh m w v b)(hb:b.length≤1048576) :
    Calls Tryz.prog 94 #[.int .i64 dir,.int .u8 c,v] w (cM v b (ag aI dir c b) w):=by
  obtain⟨A,cp,rfl,_,_⟩:=h.shape
  by_cases h0:dir=0
  · subst h0;exact lN hc h hb
  by_cases h1:dir=1
  · subst h1;exact lQ hc h hb
  exact lJ hc h hb (by omega)
theorem jG{m:Md}{v:Value}{b:List Int}{w:World}{dir c:Int}(hc:B8 c)(h:bh m w v b)(hb:b.length≤1048576) :
    Calls Tryz.prog 95 #[.int .i64 dir,.int .u8 c,v] w (cM v b (ag aR dir c b) w):=by
  obtain⟨A,cp,rfl,_,_⟩:=h.shape
  rw[← nm]
  by_cases h0:dir=0
  · subst h0;exact lR hc h hb
  by_cases h1:dir=1
  · subst h1;exact lH hc h hb
  exact lM hc h hb (by omega)
theorem nN{m:Md}{A:Option Addr}{cp:Nat}{b:List Int}{w:World}{dir:Int}(hsl:bh m w (.slice A b.length cp) b)(hb:b.length≤1048576) :
    Calls Tryz.prog 25 #[.int .i64 dir,.slice A b.length cp] w (cM (.slice A b.length cp) b (cZ dir b) w):=by
 have hln:(b.length:Int)≤1048576:=by omega
 refine en 87 Tryz.func25 rfl<|sg<|L0<|bO mZ fun bL bM u d i=>Pl 1<|nt<|sq<|sg<|Pl 3<|cu 3 [11] 14 (((dir != 0)&&(dir != 1))) (fun K W=>?_) ?_
 refine bl 11 ((dir != 0)) (fun F=>?_) (fun F=>?_)
 have aW:=az F
 exact Pl 3<|ce W (dir != 1) (by rw[F];rfl)
 have aW:=ai F
 exact Pl 3<|ce W false (by rw[F];rfl)
 refine nt<|cb (((dir != 0)&&(dir != 1))) (fun f=>?_) (fun f=>?_)
 have X:=(aZ f).1
 have Y:=(aZ f).2
 have bN:=az X
 have bQ:=az Y
 refine sg<|Pl 1<|L0<|be d mZ fun bR b0 b1=>Pl 1<|nt<|rt<|tr<|bP b0 (.int .i64 1)<|?_
 have hs:gF dir b=(aQ.zero,1):=by
   unfold gF
   (try simp only[f,X,Y,bs,if_true,if_false,decide_true,decide_false,fk,reduceIte])
   all_goals rfl
 rw[← fy]
 refine gK hs ?_
 exact bA (ud i b1 u)
 refine bp<|sq<|sg<|Pl 3<|nt<|cb ((((b.length:Nat) : Int)==0)) (fun g=>?_) (fun g=>?_)
 have b2:=ae g
 refine sg<|Pl 1<|L0<|be d mZ fun bT b3 b4=>Pl 1<|nt<|rt<|tr<|bP b3 (.int .i64 2)<|?_
 have hs:gF dir b=(aQ.zero,2):=by
   unfold gF
   (try simp only[f,g,bs,if_true,if_false,decide_true,decide_false,fk,reduceIte])
   all_goals rfl
 rw[← fy]
 refine gK hs ?_
 exact bA (ud i b4 u)
 have b2:=ak g
 refine bp<|sq<|sg<|Pl 3<|nt<|cb ((decide (253<((b.length:Nat) : Int)))) (fun j=>?_) (fun j=>?_)
 have b5:=of_decide_eq_true j
 refine sg<|Pl 1<|L0<|be d mZ fun bU b6 b7=>Pl 1<|nt<|rt<|tr<|bP b6 (.int .i64 3)<|?_
 have hs:gF dir b=(aQ.zero,3):=by
   unfold gF
   (try simp only[f,g,j,bs,if_true,if_false,decide_true,decide_false,fk,reduceIte])
   all_goals rfl
 rw[← fy]
 refine gK hs ?_
 exact bA (ud i b7 u)
 have b5:=of_decide_eq_false j
 refine bp<|sg<|Pl 1<|?_
 have G:=bh.old hsl i
 refine gf (bh.at_ G 0 (by omega)) fun b9 ba bb bc bV=>L0<|lv b.length 0 bb (by omega)<|L0<|ez (p:=⟨b9,ba+0,none⟩) (v:=.int .u8 (b.getD 0 0)) bc<|Pl 1<|nt<|sq<|sg<|Pl 3<|cu 3 [29] 32 (((decide (128≤(b.getD 0 0)))&&(dir==1))) (fun K Z=>?_) ?_
 refine bl 29 ((decide (128≤(b.getD 0 0)))) (fun H=>?_) (fun H=>?_)
 have bd:=of_decide_eq_true H
 exact Pl 3<|ce Z (dir==1) (by rw[H];rfl)
 have bd:=of_decide_eq_false H
 exact Pl 3<|ce Z false (by rw[H];rfl)
 refine nt<|cb (((decide (128≤(b.getD 0 0)))&&(dir==1))) (fun x=>?_) (fun x=>?_)
 have a0:=(aZ x).1
 have a1:=(aZ x).2
 have bW:=of_decide_eq_true a0
 have bX:=ae a1
 refine sg<|Pl 1<|L0<|Oc<|e2 (lf G (by omega)) fun bf bY I S=>?_
 refine Pl 2<|?_
 have a2:=ub S d
 refine L0<|be (hz:=(by rw[I.size];exact aO)) (hv:=I.size) (h1:=(cV.one I (bh.old G S))) a2 (bf) fun bZ bg a3=>Pl 1<|nt<|rt<|tr<|eJ 22 I.size bg (.int .i64 (((eg b)).2))<|?_
 have hs:gF dir b=(eg b):=by
   unfold gF
   (try simp only[f,g,j,x,a0,a1,bs,if_true,if_false,decide_true,decide_false,fk,reduceIte])
   all_goals rfl
 rw[← fy]
 refine gK hs ?_
 exact⟨_,rfl,(cV.upd I a3 (ax (aY a2 (by decide)) aK)),(ud i (uz S a3) u)⟩
 refine bp<|sg<|Pl 3<|pA (dY (P:=Tryz.prog) 22 5 1 Tryz.underlying22 rfl rfl A b.length cp 1 (by omega)) fun bi hrun54 a4=>L0<|nC (.slice bi (b.length-1) (cp-1)) (ei (kl:=.i64) (k:=((1:Nat) : Int)) (A:=A) (n:=b.length) (c:=cp) rfl Tryz.underlying22 (by kernel_rfl) (by kernel_rfl) (hrun54 _ _))<|L0<|Oc<|e2 (jb (dir:=dir) (c:=(b.getD 0 0)) (b8 (by omega)) (a4 _ _ _ _ _ G) (by(try simp only[List.length_drop]);omega)) fun a5 c0 bj e=>?_
 have L:=bh.old G e
 have l:=cV.sub bj (fun m' w' q=>(a4 _ _ _ _ _ q))
 refine Pl 3<|L0<|bO mZ fun c1 c2 a bk bm=>L0<|be (hz:=(by rw[l.size];exact aO)) (hv:=l.size) (h1:=(cV.one l hsl)) bk (a5) fun c3 a6 bn=>Pl 1<|nt<|sq<|sg<|Pl 2<|nt<|?_
 have M:=ud bm bn a
 have o:=aG e M
 have a7:=aG i o
 refine cb (((((ag aC dir (b.getD 0 0) (b.drop 1))).2)==4)) (fun h=>?_) (fun h=>?_)
 have bo:=ae h
 refine go<|Pl 3<|pA (dY (P:=Tryz.prog) 22 5 1 Tryz.underlying22 rfl rfl A b.length cp 1 (by omega)) fun bq hrun75 a8=>L0<|nC (.slice bq (b.length-1) (cp-1)) (ei (kl:=.i64) (k:=((1:Nat) : Int)) (A:=A) (n:=b.length) (c:=cp) rfl Tryz.underlying22 (by kernel_rfl) (by kernel_rfl) (hrun75 _ _))<|?_
 have a9:=bh.old L M
 refine L0<|Oc<|e2 (jS (dir:=dir) (c:=(b.getD 0 0)) (b8 (by omega)) (a8 _ _ _ _ _ a9) (by(try simp only[List.length_drop]);omega)) fun aa c4 br N=>?_
 have c5:=bh.old a9 N
 have r:=cV.sub br (fun m' w' q=>(a8 _ _ _ _ _ q))
 refine Pl 3<|?_
 have ab:=ub N a6
 refine L0<|be (hz:=(by rw[r.size];exact aO)) (hv:=(Eq.trans r.size (Eq.symm l.size))) (h1:=(cV.one r hsl)) ab (aa) fun c6 ad T=>Pl 1<|nt<|sq<|sg<|Pl 2<|nt<|?_
 have D:=uz N T
 have af:=ud a7 D (le (le i.size e.size) a)
 refine cb (((((ag aI dir (b.getD 0 0) (b.drop 1))).2)==4)) (fun y=>?_) (fun y=>?_)
 have bt:=ae y
 refine go<|Pl 3<|pA (dY (P:=Tryz.prog) 22 5 1 Tryz.underlying22 rfl rfl A b.length cp 1 (by omega)) fun bu hrun92 ah=>L0<|nC (.slice bu (b.length-1) (cp-1)) (ei (kl:=.i64) (k:=((1:Nat) : Int)) (A:=A) (n:=b.length) (c:=cp) rfl Tryz.underlying22 (by kernel_rfl) (by kernel_rfl) (hrun92 _ _))<|?_
 have aj:=ud M D a
 have al:=bh.old L aj
 refine L0<|Oc<|e2 (jG (dir:=dir) (c:=(b.getD 0 0)) (b8 (by omega)) (ah _ _ _ _ _ al) (by(try simp only[List.length_drop]);omega)) fun am c7 bv O=>?_
 have c8:=bh.old al O
 have s:=cV.sub bv (fun m' w' q=>(ah _ _ _ _ _ q))
 refine Pl 3<|?_
 have an:=ub O ad
 refine L0<|be (hz:=(by rw[s.size];exact aO)) (hv:=(Eq.trans s.size (Eq.symm r.size))) (h1:=(cV.one s hsl)) an (am) fun c9 ao U=>Pl 1<|nt<|sq<|sg<|Pl 2<|nt<|?_
 have E:=uz O U
 have ap:=ud af E (le (le i.size e.size) a)
 refine cb (((((ag aR dir (b.getD 0 0) (b.drop 1))).2)==4)) (fun B=>?_) (fun B=>?_)
 have bw:=ae B
 refine go<|Pl 3<|pA (dY (P:=Tryz.prog) 22 5 1 Tryz.underlying22 rfl rfl A b.length cp 1 (by omega)) fun bx hrun110 aq=>L0<|nC (.slice bx (b.length-1) (cp-1)) (ei (kl:=.i64) (k:=((1:Nat) : Int)) (A:=A) (n:=b.length) (c:=cp) rfl Tryz.underlying22 (by kernel_rfl) (by kernel_rfl) (hrun110 _ _))<|?_
 have V:=u1 D E im
 have ar:=ud aj E a
 have au:=bh.old L ar
 refine L0<|Oc<|e2 (iY (dir:=dir) (c:=(b.getD 0 0)) (b8 (by omega)) (aq _ _ _ _ _ au) (by(try simp only[List.length_drop]);omega)) fun aw ca bB Q=>?_
 have cc:=bh.old au Q
 have t:=cV.sub bB (fun m' w' q=>(aq _ _ _ _ _ q))
 refine Pl 3<|?_
 have ay:=ub Q ao
 refine L0<|be (hz:=(by rw[t.size];exact aO)) (hv:=(Eq.trans t.size (Eq.symm s.size))) (h1:=(cV.one t hsl)) ay (aw) fun cd aA aB=>Pl 1<|nt<|sq<|sg<|Pl 2<|nt<|?_
 have C:=uz Q aB
 have aD:=ud ap C (le (le i.size e.size) a)
 refine cb (((((ag aX dir (b.getD 0 0) (b.drop 1))).2)==4)) (fun J=>?_) (fun J=>?_)
 have bC:=ae J
 refine go<|Pl 3<|pA (dY (P:=Tryz.prog) 22 5 1 Tryz.underlying22 rfl rfl A b.length cp 1 (by omega)) fun bD hrun130 aE=>L0<|nC (.slice bD (b.length-1) (cp-1)) (ei (kl:=.i64) (k:=((1:Nat) : Int)) (A:=A) (n:=b.length) (c:=cp) rfl Tryz.underlying22 (by kernel_rfl) (by kernel_rfl) (hrun130 _ _))<|?_
 have cg:=u1 U C im
 have ch:=u1 E C im
 have ci:=u1 (u1 T E im) C im
 have aF:=u1 V C im
 have aH:=bh.old L (ud ar C a)
 refine L0<|Oc<|e2 (l9 (dir:=dir) (c:=(b.getD 0 0)) (b8 (by omega)) (aE _ _ _ _ _ aH) (by(try simp only[List.length_drop]);omega)) fun aJ cj bE R=>?_
 have ck:=bh.old aH R
 have z:=cV.sub bE (fun m' w' q=>(aE _ _ _ _ _ q))
 refine Pl 3<|?_
 have aL:=ub R aA
 refine L0<|be (hz:=(by rw[z.size];exact aO)) (hv:=(Eq.trans z.size (Eq.symm t.size))) (h1:=(cV.one z hsl)) aL (aJ) fun cl bF aM=>Pl 1<|ng<|L0<|bS (hz:=(by rw[z.size];exact aO)) bF<|Pl 1<|?_
 have aN:=uz R aM
 refine L0<|be (hz:=(by rw[z.size];exact aO)) (hv:=z.size) (h1:=(cV.one z hsl)) (ub (ud o (u1 aF aN im) (le e.size a)) d) (aJ) fun cm bG aP=>Pl 1<|nt<|rt<|eJ 22 z.size bG (.int .i64 (((ag bz dir (b.getD 0 0) (b.drop 1))).2))<|?_
 have hs:gF dir b=(ag bz dir (b.getD 0 0) (b.drop 1)):=by
   unfold gF
   (try simp only[f,g,j,x,h,y,B,J,bs,if_true,if_false,decide_true,decide_false,fk,reduceIte])
   all_goals rfl
 rw[← fy]
 refine gK hs ?_
 exact⟨_,rfl,(cV.upd z (us aM aP) (ax (aY aL (by decide)) (ax (aY (ub (ud o (aG aF R) (le e.size a)) d) (by decide)) aK))),(ut aD (us aN aP) (ac (ni (le i.size e.size) a) (ac (nr u) av)))⟩
 have bC:=ak J
 refine bp<|sg<|L0<|bS (hz:=(by rw[t.size];exact aO)) aA<|Pl 1<|?_
 refine L0<|be (hz:=(by rw[t.size];exact aO)) (hv:=t.size) (h1:=(cV.one t hsl)) (ub (ud o (u1 V C im) (le e.size a)) d) (aw) fun cn bH aS=>Pl 1<|nt<|rt<|eJ 22 t.size bH (.int .i64 (((ag aX dir (b.getD 0 0) (b.drop 1))).2))<|?_
 have hs:gF dir b=(ag aX dir (b.getD 0 0) (b.drop 1)):=by
   unfold gF
   (try simp only[f,g,j,x,h,y,B,J,bs,if_true,if_false,decide_true,decide_false,fk,reduceIte])
   all_goals rfl
 rw[← fy]
 refine gK hs ?_
 exact⟨_,rfl,(cV.upd t (us aB aS) (ax (aY ay (by decide)) (ax (aY (ub (ud o (aG V Q) (le e.size a)) d) (by decide)) aK))),(ud aD aS u)⟩
 have bw:=ak B
 refine bp<|sq<|sg<|Pl 2<|nt<|cf B<|bp<|sg<|L0<|bS (hz:=(by rw[s.size];exact aO)) ao<|?_
 refine Pl 1<|?_
 refine L0<|be (hz:=(by rw[s.size];exact aO)) (hv:=s.size) (h1:=(cV.one s hsl)) (ub (ud o (u1 D E im) (le e.size a)) d) (am) fun co bI aT=>Pl 1<|nt<|rt<|eJ 22 s.size bI (.int .i64 (((ag aR dir (b.getD 0 0) (b.drop 1))).2))<|?_
 have hs:gF dir b=(ag aR dir (b.getD 0 0) (b.drop 1)):=by
   unfold gF
   (try simp only[f,g,j,x,h,y,B,bs,if_true,if_false,decide_true,decide_false,fk,reduceIte])
   all_goals rfl
 rw[← fy]
 refine gK hs ?_
 exact⟨_,rfl,(cV.upd s (us U aT) (ax (aY an (by decide)) (ax (aY (ub (ud o (aG D O) (le e.size a)) d) (by decide)) aK))),(ud ap aT u)⟩
 have bt:=ak y
 refine bp<|sq<|sg<|Pl 2<|nt<|cf y<|bp<|sq<|sg<|?_
 refine Pl 2<|nt<|cf y<|bp<|sg<|L0<|bS (hz:=(by rw[r.size];exact aO)) ad<|Pl 1<|?_
 refine L0<|be (hz:=(by rw[r.size];exact aO)) (hv:=r.size) (h1:=(cV.one r hsl)) (ub (ud o D (le e.size a)) d) (aa) fun cq bJ aU=>Pl 1<|nt<|rt<|eJ 22 r.size bJ (.int .i64 (((ag aI dir (b.getD 0 0) (b.drop 1))).2))<|?_
 have hs:gF dir b=(ag aI dir (b.getD 0 0) (b.drop 1)):=by
   unfold gF
   (try simp only[f,g,j,x,h,y,bs,if_true,if_false,decide_true,decide_false,fk,reduceIte])
   all_goals rfl
 rw[← fy]
 refine gK hs ?_
 exact⟨_,rfl,(cV.upd r (us T aU) (ax (aY ab (by decide)) (ax (aY (ub (aG o N) d) (by decide)) aK))),(ud af aU u)⟩
 have bo:=ak h
 refine bp<|sq<|sg<|Pl 2<|nt<|cf h<|bp<|sq<|sg<|?_
 refine Pl 2<|nt<|cf h<|bp<|sq<|sg<|Pl 2<|nt<|cf h<|sk<|?_
 refine tn<|sg<|L0<|bS (hz:=(by rw[l.size];exact aO)) a6<|Pl 1<|?_
 refine L0<|be (hz:=(by rw[l.size];exact aO)) (hv:=l.size) (h1:=(cV.one l hsl)) (ub o d) (a5) fun cr bK aV=>Pl 1<|nt<|rt<|eJ 22 l.size bK (.int .i64 (((ag aC dir (b.getD 0 0) (b.drop 1))).2))<|?_
 have hs:gF dir b=(ag aC dir (b.getD 0 0) (b.drop 1)):=by
   unfold gF
   (try simp only[f,g,j,x,h,bs,if_true,if_false,decide_true,decide_false,fk,reduceIte])
   all_goals rfl
 rw[← fy]
 refine gK hs ?_
 exact⟨_,rfl,(cV.upd l (uz M aV) (ax (aY (ub e d) (by decide)) aK)),(ud a7 aV u)⟩
theorem eE{m:Md}{v:Value}{b:List Int}{w:World}{dir:Int}(h:bh m w v b)(hb:b.length≤1048576) : Calls Tryz.prog 25 #[.int .i64 dir,v] w (cM v b (cZ dir b) w):=by
  obtain⟨A,cp,rfl,_,_⟩:=h.shape
  exact nN h hb
open Go.RowKit
def o0 (v0:Value)(b:List Int)(res:fw × Int)(w:World)(e:Ending)(w':World) : Prop:=∃ x,e = .returned (.tuple #[.agg (pz res.1.unit res.1.tid res.1.msg x),.int .i64 res.2])∧(cV v0 b w' (oM res.1.msg x).toList res.1.msg∧(0≤res.1.unit∧res.1.unit<256)∧(0≤res.1.tid∧res.1.tid<65536))∧aF [] w w'
theorem i5{x y:fw × Int}(h:x=y){w:World}{e:Ending}{w':World}{v0:Value}{b:List Int}(k:o0 v0 b y w e w') : o0 v0 b x w e w':=by rw[h];exact k
def zg:SL:=⟨none,0,none,0,none,0,none,0,none,0⟩
theorem fI{v0:Value}{b:List Int}{x:Int}{w W:World}(hu:aF [] w W) : o0 v0 b (fw.zero,x) w (.returned (.tuple #[.agg xJ,.int .i64 x])) W:=⟨zg,(by kernel_rfl),⟨cV.zero v0 b W,(show(0:Int)≤0∧(0:Int)<256 from by decide),(show(0:Int)≤0∧(0:Int)<65536 from by decide)⟩,hu⟩
theorem mX{m:Md}{v:Value}{b:List Int}{w:World}{dir:Int}{M:aQ}{E:Int}(hX:cZ dir b=(M,E))(h:bh m w v b)(hb:b.length≤1048576) : Calls Tryz.prog 25 #[.int .i64 dir,v] w (fun e w'=>∃ x,e = .returned (.tuple #[.agg (oM M x),.int .i64 E])∧cV v b w' (oM M x).toList M∧aF [] w w'):=by
  refine(eE h hb).mono ?_
  rintro e w' ⟨cs,rfl,h1,h2⟩
  rw[hX] at h1 ⊢
  obtain⟨x,rfl⟩:=ph (h1.rd (bh.old h h2))
  exact⟨x,rfl,h1,h2⟩
end Go.Proofs.YtogbnemojakcpaaGreat
namespace Go.Proofs.YtogbnemojakcpaaGreat
open Go.RowKit
abbrev yM (xs:List Int) : Prop:=∀ x,x∈xs→0≤x∧x<256
def vp (base:Nat)(w:World)(v:Value)(xs:List Int) : Prop:=∃ g cap cur n,v = .slice (some ⟨g,0,none⟩) xs.length cap∧base≤g∧w.heap[g]? = some (.cells cur 5 (n,n+1))∧xs.length≤n∧xs.length≤cap∧cap≤maxLen∧cur.toList.take xs.length=xs.map (Value.int .u8)∧yM xs
theorem vp.rd{base:Nat}{w:World}{v:Value}{xs:List Int}(h:vp base w v xs) : bh true w v xs:=by
  obtain⟨g,cap,cur,n,rfl,hb,hh,h1,h2,h3,h4,h5⟩:=h
  refine⟨_,_,rfl,h2,h3,(fun hA=>by cases hA),fun hp=>⟨g,0,cur,_,_,rfl,hh,(fun _=>⟨rfl,Nat.zero_le _⟩),fun j x hj=>?_⟩⟩
  refine⟨[.int .u8 x],rfl,⟨rfl,h5 x (List.mem_of_getElem? hj)⟩,fun i u hi=>?_⟩
  cases i with
  | succ i=>simp at hi
  | zero =>
    have hi:Value.int .u8 x=u:=by simpa using hi
    subst hi
    have h6:(xs.map (Value.int .u8))[j]? = some (.int .u8 x):=by rw[List.getElem?_map,hj];rfl
    rw[← h4,List.getElem?_take] at h6
    split at h6
    · simpa using h6
    · cases h6
theorem vp.shape{base:Nat}{w:World}{v:Value}{xs:List Int}(h:vp base w v xs) : ∃ g cp,v = .slice (some ⟨g,0,none⟩) xs.length cp:=by
  obtain⟨g,cap,cur,n,hv,_⟩:=h
  exact⟨g,cap,hv⟩
section
variable {P:Program}{n:Nat}{D:List Deferred}{F:Fr}{w:World}{K:Fr→World→Prop}{Q:Exit→Act→World→Prop}{d:Option Tmp}{t:TypeId}{s:String}{af:Array Edge}{gu:Option (Nat × Bool)}
end
end Go.Proofs.YtogbnemojakcpaaGreat
namespace Go.Proofs.YtogbnemojakcpaaGreat
open Go.RowKit
section
variable {P:Program}{n:Nat}{D:List Deferred}{F:Fr}{w:World}{K:Fr→World→Prop}{Q:Exit→Act→World→Prop}{d:Option Tmp}{t:TypeId}{s:String}{af:Array Edge}{gu:Option (Nat × Bool)}
end
open Go.RowKit
open Go.RowKit
def yS (B b:Nat)(L:List Int)(w:World) : Prop:=∃ p A cp,w.heap[b]? = some (.cells #[p,.slice A L.length cp] 182 (0,0))∧(p = .pointer none∨p = .pointer (some ⟨b,0,none⟩))∧eI B w (.slice A L.length cp) L
theorem yS.new{B b:Nat}{w:World}(hb:w.heap[b]? = some (.cells #[.pointer none,.slice none 0 0] 182 (0,0))) : yS B b [] w:=⟨_,_,_,hb,.inl rfl,aW.nil ..⟩
open Go.RowKit
open Go.RowKit
open Go.RowKit
open Go.RowKit
open Go.RowKit
theorem ia(a c:Int)(t:List Int) : (aj.mk (a :: c :: t) false 0).wordV=a*256+c∧(aj.mk (a :: c :: t) false 0).wordsC 1=⟨t,false,0⟩:=by
  have hb:¬ (aj.mk (a :: c :: t) false 0).wbad 1=true:=by
    unfold aj.wbad
    simp only[Bool.or_eq_true,decide_eq_true_eq,List.length_cons,not_or]
    omega
  have hf:¬ (aj.mk (a :: c :: t) false 0).fails (2*1)=true:=by
    unfold aj.fails
    simp only[Bool.or_eq_true,decide_eq_true_eq,List.length_cons,not_or]
    exact⟨⟨by decide,by decide⟩,by omega⟩
  constructor
  · unfold aj.wordV aj.wordsR aj.bytesR
    rw[if_neg hb,if_neg hf]
    show(cD [a,c]).getD 0 0=_
    unfold cD
    rw[if_pos (by simp)]
    rfl
  · unfold aj.wordsC aj.bytesC
    rw[if_neg hb,if_neg hf]
    rfl
theorem qB(a:Int)(t:List Int) : (aj.mk (a :: t) false 0).byteV=a∧(aj.mk (a :: t) false 0).bytesC 1=⟨t,false,0⟩:=tM (b:=a :: t) (by simp)
theorem s4(t:List Int) : (aj.mk t false 0).bytesR ((t.length:Nat) : Int)=t:=by
  have hf:¬ (aj.mk t false 0).fails ((t.length:Nat) : Int)=true:=by
    unfold aj.fails
    simp only[Bool.or_eq_true,decide_eq_true_eq,not_or]
    exact⟨⟨by decide,by omega⟩,by omega⟩
  unfold aj.bytesR
  rw[if_neg hf]
  simp
def eS (dir:Int)(b:List Int) : fw × Int :=
  if dir != 0&&dir != 1 then (fw.zero,1)
  else if decide ((b.length:Int)<8) then (fw.zero,2)
  else if decide (260<(b.length:Int)) then (fw.zero,3)
  else if (b.getD 2 0 != 0)||(b.getD 3 0 != 0) then (fw.zero,13)
  else if ((256*b.getD 4 0)+b.getD 5 0)!=(b.length:Int)-6 then (fw.zero,5)
  else eL (b.getD 6 0) ((((256*b.getD 0 0)%65536)+b.getD 1 0)%65536) (cZ dir (b.drop 7))
theorem fd{dir:Int}{b:List Int}(hr:∀ x,x∈b→0≤x∧x<256) : eS dir b=dE dir b:=by
  unfold eS dE
  split
  · rfl
  split
  · rfl
  rename_i hl
  split
  · rfl
  obtain⟨a0,a1,a2,a3,a4,a5,a6,t,rfl⟩ : ∃ a0 a1 a2 a3 a4 a5 a6 t,b=a0 :: a1 :: a2 :: a3 :: a4 :: a5 :: a6 :: t:=by
    rcases b with _|⟨a0,_|⟨a1,_|⟨a2,_|⟨a3,_|⟨a4,_|⟨a5,_|⟨a6,t⟩⟩⟩⟩⟩⟩⟩
    case cons.cons.cons.cons.cons.cons.cons=>exact⟨_,_,_,_,_,_,_,_,rfl⟩
    all_goals simp at hl
  have h0:=hr a0 (by simp)
  have h1:=hr a1 (by simp)
  have h2:=hr a2 (by simp)
  have h3:=hr a3 (by simp)
  have h4:=hr a4 (by simp)
  have h5:=hr a5 (by simp)
  have e1:sa (a0 :: a1 :: a2 :: a3 :: a4 :: a5 :: a6 :: t)=⟨a2 :: a3 :: a4 :: a5 :: a6 :: t,false,0⟩:=(ia _ _ _).2
  have e2:qq (a0 :: a1 :: a2 :: a3 :: a4 :: a5 :: a6 :: t)=⟨a4 :: a5 :: a6 :: t,false,0⟩:=by unfold qq;rw[e1];exact(ia _ _ _).2
  have e3:pZ (a0 :: a1 :: a2 :: a3 :: a4 :: a5 :: a6 :: t)=⟨a6 :: t,false,0⟩:=by unfold pZ;rw[e2];exact(ia _ _ _).2
  have e4:qS (a0 :: a1 :: a2 :: a3 :: a4 :: a5 :: a6 :: t)=⟨t,false,0⟩:=by unfold qS;rw[e3];exact(qB _ _).2
  have v0:(qK (a0 :: a1 :: a2 :: a3 :: a4 :: a5 :: a6 :: t)).wordV=a0*256+a1:=(ia _ _ _).1
  unfold jy
  rw[e1,e2,e3,e4,v0,(ia _ _ _).1,(ia _ _ _).1,(qB _ _).1,s4]
  show(if (a2 != 0)||(a3 != 0) then _ else if ((256*a4)+a5)!=_ then _ else eL a6 ((((256*a0)%65536)+a1)%65536) (cZ dir t))=_
  rw[show((a2 != 0)||(a3 != 0))=(a2*256+a3 != 0) from by rw[Bool.eq_iff_iff];simp only[Bool.or_eq_true,bne_iff_ne,ne_eq];omega,show(256*a4)+a5=a4*256+a5 from by omega,show(((256*a0)%65536)+a1)%65536=a0*256+a1 from by omega]
open Go.RowKit
theorem mN{m:Md}{A:Option Addr}{cp:Nat}{b:List Int}{w:World}{dir:Int}(hsl:bh m w (.slice A b.length cp) b)(hb:b.length≤1048576)(hcp:b.length≤cp) :
    Calls Tryz.prog 33 #[.int .i64 dir,.slice A b.length cp] w (o0 (.slice A b.length cp) b (dE dir b) w):=by
 have hln:(b.length:Int)≤1048576:=by omega
 have hrb:=bh.range hsl
 refine en 76 Tryz.func33 rfl<|sg<|L0<|bO #[.int .u8 0,.int .u16 0,.int .u8 0,.int .u8 0,.int .u16 0,.int .u16 0,.int .u16 0,.int .u16 0,.int .u16 0,.int .u16 0,.int .u16 0,.int .u16 0,.int .u16 0,.int .u16 0,.slice none 0 0,.slice none 0 0,.slice none 0 0,.slice none 0 0,.int .u8 0,.int .u8 0,.int .u8 0,.int .u8 0,.int .u8 0,.slice none 0 0] fun bg bi o h s=>Pl 1<|ng<|Pl 3<|nt<|sq<|sq<|?_
 refine go<|Pl 3<|cu 3 [13] 16 (((dir != 0)&&(dir != 1))) (fun K L=>?_) ?_
 refine bl 13 ((dir != 0)) (fun z=>?_) (fun z=>?_)
 have a4:=az z
 exact Pl 3<|ce L (dir != 1) (by rw[z];rfl)
 have a4:=ai z
 exact Pl 3<|ce L false (by rw[z];rfl)
 refine nt<|cb (((dir != 0)&&(dir != 1))) (fun f=>?_) (fun f=>?_)
 have M:=(aZ f).1
 have N:=(aZ f).2
 have bk:=az M
 have bm:=az N
 refine sg<|Pl 1<|L0<|be h #[.int .u8 0,.int .u16 0,.int .u8 0,.int .u8 0,.int .u16 0,.int .u16 0,.int .u16 0,.int .u16 0,.int .u16 0,.int .u16 0,.int .u16 0,.int .u16 0,.int .u16 0,.int .u16 0,.slice none 0 0,.slice none 0 0,.slice none 0 0,.slice none 0 0,.int .u8 0,.int .u8 0,.int .u8 0,.int .u8 0,.int .u8 0,.slice none 0 0] fun bn a5 a6=>Pl 1<|nt<|rt<|tr<|bP a5 (.int .i64 1)<|?_
 have hs:eS dir b=(fw.zero,1):=by
   unfold eS
   (try simp only[f,M,N,bs,if_true,if_false,decide_true,decide_false,eL,reduceIte])
   all_goals rfl
 rw[← fd hrb]
 refine i5 hs ?_
 exact fI (ud s a6 o)
 refine bp<|sq<|sg<|Pl 2<|nt<|cb ((decide (((b.length:Nat) : Int)<8))) (fun i=>?_) (fun i=>?_)
 have a7:=of_decide_eq_true i
 refine sg<|Pl 1<|L0<|be h #[.int .u8 0,.int .u16 0,.int .u8 0,.int .u8 0,.int .u16 0,.int .u16 0,.int .u16 0,.int .u16 0,.int .u16 0,.int .u16 0,.int .u16 0,.int .u16 0,.int .u16 0,.int .u16 0,.slice none 0 0,.slice none 0 0,.slice none 0 0,.slice none 0 0,.int .u8 0,.int .u8 0,.int .u8 0,.int .u8 0,.int .u8 0,.slice none 0 0] fun bo a8 a9=>Pl 1<|nt<|rt<|tr<|bP a8 (.int .i64 2)<|?_
 have hs:eS dir b=(fw.zero,2):=by
   unfold eS
   (try simp only[f,i,bs,if_true,if_false,decide_true,decide_false,eL,reduceIte])
   all_goals rfl
 rw[← fd hrb]
 refine i5 hs ?_
 exact fI (ud s a9 o)
 have a7:=of_decide_eq_false i
 refine bp<|sq<|sg<|Pl 2<|nt<|cb ((decide (260<((b.length:Nat) : Int)))) (fun j=>?_) (fun j=>?_)
 have aa:=of_decide_eq_true j
 refine sg<|Pl 1<|L0<|be h #[.int .u8 0,.int .u16 0,.int .u8 0,.int .u8 0,.int .u16 0,.int .u16 0,.int .u16 0,.int .u16 0,.int .u16 0,.int .u16 0,.int .u16 0,.int .u16 0,.int .u16 0,.int .u16 0,.slice none 0 0,.slice none 0 0,.slice none 0 0,.slice none 0 0,.int .u8 0,.int .u8 0,.int .u8 0,.int .u8 0,.int .u8 0,.slice none 0 0] fun bq ac ae=>Pl 1<|nt<|rt<|tr<|bP ac (.int .i64 3)<|?_
 have hs:eS dir b=(fw.zero,3):=by
   unfold eS
   (try simp only[f,i,j,bs,if_true,if_false,decide_true,decide_false,eL,reduceIte])
   all_goals rfl
 rw[← fd hrb]
 refine i5 hs ?_
 exact fI (ud s ae o)
 have aa:=of_decide_eq_false j
 refine bp<|sq<|sg<|Pl 1<|?_
 have B:=bh.old hsl s
 refine gf (bh.at_ B 2 (by omega)) fun af ag ah aj br=>L0<|lv b.length 2 ah (by omega)<|L0<|ez (p:=⟨af,ag+2,none⟩) (v:=.int .u8 (b.getD 2 0)) aj<|Pl 2<|bl 28 (((b.getD 2 0)!=0)) (fun r=>?_) (fun r=>?_)
 have ak:=az r
 refine Pl 5<|nt<|c1<|sg<|Pl 1<|L0<|be h #[.int .u8 0,.int .u16 0,.int .u8 0,.int .u8 0,.int .u16 0,.int .u16 0,.int .u16 0,.int .u16 0,.int .u16 0,.int .u16 0,.int .u16 0,.int .u16 0,.int .u16 0,.int .u16 0,.slice none 0 0,.slice none 0 0,.slice none 0 0,.slice none 0 0,.int .u8 0,.int .u8 0,.int .u8 0,.int .u8 0,.int .u8 0,.slice none 0 0] fun bt al am=>Pl 1<|nt<|rt<|tr<|bP al (.int .i64 13)<|?_
 have hs:eS dir b=(fw.zero,13):=by
   unfold eS
   (try simp only[f,i,j,r,bs,if_true,if_false,decide_true,decide_false,eL,reduceIte])
   all_goals rfl
 rw[← fd hrb]
 refine i5 hs ?_
 exact fI (ud s am o)
 have ak:=ai r
 refine Pl 1<|gf (bh.at_ B 3 (by omega)) fun an ap aq av bu=>L1<|lv b.length 3 aq (by omega)<|L1<|ez (p:=⟨an,ap+3,none⟩) (v:=.int .u8 (b.getD 3 0)) av<|Pl 2<|nt<|cb (((b.getD 3 0)!=0)) (fun t=>?_) (fun t=>?_)
 have ay:=az t
 refine sg<|Pl 1<|L0<|be h #[.int .u8 0,.int .u16 0,.int .u8 0,.int .u8 0,.int .u16 0,.int .u16 0,.int .u16 0,.int .u16 0,.int .u16 0,.int .u16 0,.int .u16 0,.int .u16 0,.int .u16 0,.int .u16 0,.slice none 0 0,.slice none 0 0,.slice none 0 0,.slice none 0 0,.int .u8 0,.int .u8 0,.int .u8 0,.int .u8 0,.int .u8 0,.slice none 0 0] fun bv aA aB=>Pl 1<|nt<|rt<|tr<|bP aA (.int .i64 13)<|?_
 have hs:eS dir b=(fw.zero,13):=by
   unfold eS
   (try simp only[f,i,j,r,t,bs,if_true,if_false,decide_true,decide_false,eL,reduceIte])
   all_goals rfl
 rw[← fd hrb]
 refine i5 hs ?_
 exact fI (ud s aB o)
 have ay:=ai t
 refine bp<|sq<|sq<|gf (bh.at_ B 4 (by omega)) fun aC aE aF aH bw=>gf (bh.at_ B 5 (by omega)) fun aI aJ aL aM bx=>Rg 13 (fun w'=>w'.cell? ⟨aC,aE+4,none⟩=some (.int .u8 (b.getD 4 0))∧w'.cell? ⟨aI,aJ+5,none⟩=some (.int .u8 (b.getD 5 0))) fun bz l=>bj ⟨(uc l aH),(uc l aM)⟩ fun e=>Rt 0 e<|mh 1 e b.length 4 4 rfl aF (by omega)<|Rl 2 e (fun _ hs=>hs.1)<|Rr 3 e (.int .i64 (b.getD 4 0)) (fun _ _=>bZ (.int .i64 (IntKind.i64.wrap (b.getD 4 0))) (by kernel_rfl) (congrArg (Value.int .i64) (i64_in (by omega))))<|Rr 4 e (.int .i64 (256*(b.getD 4 0))) (fun _ _=>bZ (.int .i64 (IntKind.i64.wrap (256*(b.getD 4 0)))) (by kernel_rfl) (congrArg (Value.int .i64) (IntWalk.i64_in _ (by omega))))<|Rt 5 e<|?_
 refine mh 6 e b.length 5 5 rfl aL (by omega)<|Rl 7 e (fun _ hs=>hs.2)<|Rr 8 e (.int .i64 (b.getD 5 0)) (fun _ _=>bZ (.int .i64 (IntKind.i64.wrap (b.getD 5 0))) (by kernel_rfl) (congrArg (Value.int .i64) (i64_in (by omega))))<|Rr 9 e (.int .i64 ((256*(b.getD 4 0))+(b.getD 5 0))) (fun _ _=>bZ (.int .i64 (IntKind.i64.wrap ((256*(b.getD 4 0))+(b.getD 5 0)))) (by kernel_rfl) (congrArg (Value.int .i64) (IntWalk.i64_in _ (by omega))))<|Rt 10 e<|Rr 11 e (.int .i64 (((b.length:Nat) : Int)-6)) (fun _ _=>bZ (.int .i64 (IntKind.i64.wrap (((b.length:Nat) : Int)-6))) (by kernel_rfl) (congrArg (Value.int .i64) (IntWalk.i64_in _ (by omega))))<|Rt 12 e<|re<|tn<|?_
 have O:=aG s l
 refine cb ((((256*(b.getD 4 0))+(b.getD 5 0))!=(((b.length:Nat) : Int)-6))) (fun u=>?_) (fun u=>?_)
 have aN:=az u
 refine sg<|Pl 1<|?_
 refine L0<|be (ub l h) #[.int .u8 0,.int .u16 0,.int .u8 0,.int .u8 0,.int .u16 0,.int .u16 0,.int .u16 0,.int .u16 0,.int .u16 0,.int .u16 0,.int .u16 0,.int .u16 0,.int .u16 0,.int .u16 0,.slice none 0 0,.slice none 0 0,.slice none 0 0,.slice none 0 0,.int .u8 0,.int .u8 0,.int .u8 0,.int .u8 0,.int .u8 0,.slice none 0 0] fun bA aO aP=>Pl 1<|nt<|rt<|tr<|bP aO (.int .i64 5)<|?_
 have hs:eS dir b=(fw.zero,5):=by
   unfold eS
   (try simp only[f,i,j,r,t,u,bs,if_true,if_false,decide_true,decide_false,eL,reduceIte])
   all_goals rfl
 rw[← fd hrb]
 refine i5 hs ?_
 exact fI (ud O aP o)
 have aN:=ai u
 refine bp<|sg<|Pl 2<|pA (dY (P:=Tryz.prog) 22 5 1 Tryz.underlying22 rfl rfl A b.length cp 7 (by omega)) fun aQ hrun84 Q=>L0<|nC (.slice aQ (b.length-7) (cp-7)) (ei (kl:=.i64) (k:=((7:Nat) : Int)) (A:=A) (n:=b.length) (c:=cp) rfl Tryz.underlying22 (by kernel_rfl) (by kernel_rfl) (hrun84 _ _))<|?_
 have R:=bh.old B l
 refine pr (cZ dir (b.drop 7)) fun a F G=>?_
 refine L0<|Oc<|e2 (mX G (Q _ _ _ _ _ R) (by rw[List.length_drop];omega)) fun x90 bB aR H=>?_
 have aS:=cV.sub aR (fun m' w' q=>(Q _ _ _ _ _ q))
 refine Pl 3<|L0<|bO mZ fun S bC T aT aU=>L0<|be aT (oM a x90) fun bD aV aW=>Pl 1<|nt<|sq<|sg<|Pl 2<|nt<|?_
 have U:=ud aU aW T
 have D:=aG H U
 have V:=aG O D
 refine cb ((F != 0)) (fun C=>?_) (fun C=>?_)
 have aX:=az C
 refine sg<|Pl 2<|?_
 refine L0<|be (ub (aG l D) h) #[.int .u8 0,.int .u16 0,.int .u8 0,.int .u8 0,.int .u16 0,.int .u16 0,.int .u16 0,.int .u16 0,.int .u16 0,.int .u16 0,.int .u16 0,.int .u16 0,.int .u16 0,.int .u16 0,.slice none 0 0,.slice none 0 0,.slice none 0 0,.slice none 0 0,.int .u8 0,.int .u8 0,.int .u8 0,.int .u8 0,.int .u8 0,.slice none 0 0] fun bE b0 b1=>Pl 1<|nt<|rt<|tr<|bP b0 (.int .i64 F)<|?_
 have hs:eS dir b=(fw.zero,F):=by
   unfold eS
   (try simp only[f,i,j,r,t,u,C,bs,if_true,if_false,decide_true,decide_false,eL,G,reduceIte])
   all_goals rfl
 rw[← fd hrb]
 refine i5 hs ?_
 exact fI (ud V b1 o)
 have aX:=ai C
 refine bp<|sq<|?_
 have I:=bh.old R D
 refine gf (bh.at_ I 6 (by omega)) fun b2 b3 W b4 bF=>gf (bh.at_ I 0 (by omega)) fun b5 b7 X b9 bG=>gf (bh.at_ I 1 (by omega)) fun ba bb Y bc bH=>Rg 18 (fun w'=>w'.cell? ⟨b2,b3+6,none⟩=some (.int .u8 (b.getD 6 0))∧w'.cell? ⟨b5,b7+0,none⟩=some (.int .u8 (b.getD 0 0))∧w'.cell? ⟨ba,bb+1,none⟩=some (.int .u8 (b.getD 1 0))∧w'.heap[S]? = some (.cells (oM a x90) 30 (0,0))) fun bI y=>?_
 have Z:=ub y aV
 refine bj ⟨(uc y b4),(uc y b9),(uc y bc),Z⟩ fun d=>Rt 0 d<|mh 1 d b.length 6 6 rfl W (by omega)<|Rl 2 d (fun _ hs=>hs.1)<|Rt 3 d<|mh 4 d b.length 0 0 rfl X (by omega)<|Rl 5 d (fun _ hs=>hs.2.1)<|Rr 6 d (.int .u16 (b.getD 0 0)) (fun _ _=>bZ (.int .u16 (IntKind.u16.wrap (b.getD 0 0))) (by kernel_rfl) (congrArg (Value.int .u16) (iO (by omega))))<|Rt 7 d<|Rt 8 d<|mh 9 d b.length 1 1 rfl Y (by omega)<|Rl 10 d (fun _ hs=>hs.2.2.1)<|Rr 11 d (.int .u16 (b.getD 1 0)) (fun _ _=>bZ (.int .u16 (IntKind.u16.wrap (b.getD 1 0))) (by kernel_rfl) (congrArg (Value.int .u16) (iO (by omega))))<|Rt 12 d<|?_
 refine Rt 13 d<|Rr 14 d (.agg (oM a x90)) (fun w' hs=>mu (g:=S) (off:=0) [.int .u8 a.code,.int .u8 a.fail,.int .u16 a.addr,.int .u16 a.count,.int .u16 a.value,.int .u16 a.and_,.int .u16 a.or_,.int .u16 a.addr2,.int .u16 a.sub,.int .u16 a.status,.int .u16 a.events,.int .u16 a.messages,.slice x90.aw a.words.length x90.kw,.slice x90.ab a.bits.length x90.kb,.slice x90.ad a.data.length x90.kd,.slice x90.ar a.recs.length x90.kr,.int .u8 a.mei,.int .u8 a.kind,.int .u8 a.level,.int .u8 a.more,.int .u8 a.next,.slice x90.ao a.objects.length x90.ko] rfl (by kernel_rfl) hs.2.2.2 (by kernel_rfl) (by kernel_rfl) rfl)<|Rt 15 d<|?_
 have a0:=aG D y
 have a1:=aG l a0
 refine R0 16 rfl<|be (ub a1 h) (pz (b.getD 6 0) ((((256*(b.getD 0 0))%65536)+(b.getD 1 0))%65536) a x90) fun bJ bd E=>?_
 have a2:=uz y E
 have bK:=uz a0 E
 have bL:=uz a1 E
 have a3:=ud V a2 o
 have J:=bh.old hsl a3
 refine bj ⟨(cB J W 6 (by omega)),(cB J X 0 (by omega)),(cB J Y 1 (by omega)),(b6 E (Ne.symm (nb (au h) (le l.size H.size) T)) Z)⟩ fun bf=>Rt 17 bf<|re<|tn<|rt<|bP bd (.int .i64 0)<|?_
 have hs:eS dir b=(⟨(b.getD 6 0),((((256*(b.getD 0 0))%65536)+(b.getD 1 0))%65536),a⟩,0):=by
   unfold eS
   (try simp only[f,i,j,r,t,u,C,bs,if_true,if_false,decide_true,decide_false,eL,G,reduceIte])
   all_goals rfl
 rw[← fd hrb]
 refine i5 hs ?_
 exact⟨x90,rfl,⟨(cV.upd aS (uz U a2) (ax (aY (ub (aG l H) h) (by decide)) aK)),b8 (x:=(b.getD 6 0)) (by omega),aD (x:=((((256*(b.getD 0 0))%65536)+(b.getD 1 0))%65536)) (by omega)⟩,a3⟩
theorem ot{m:Md}{v:Value}{b:List Int}{w:World}{dir:Int}(h:bh m w v b)(hb:b.length≤1048576) : Calls Tryz.prog 33 #[.int .i64 dir,v] w (o0 v b (dE dir b) w):=by
  obtain⟨A,cp,rfl,hc,_⟩:=h.shape
  exact mN h hb hc
theorem lL{m:Md}{v:Value}{b:List Int}{w:World}{dir:Int}{F:fw}{E:Int}(hX:dE dir b=(F,E))(h:bh m w v b)(hb:b.length≤1048576) : Calls Tryz.prog 33 #[.int .i64 dir,v] w (fun e w'=>∃ x,e = .returned (.tuple #[.agg (pz F.unit F.tid F.msg x),.int .i64 E])∧(cV v b w' (oM F.msg x).toList F.msg∧(0≤F.unit∧F.unit<256)∧(0≤F.tid∧F.tid<65536))∧aF [] w w'):=by
  refine(ot h hb).mono ?_
  rintro e w' ⟨x,rfl,h1,h2⟩
  rw[hX] at h1 ⊢
  exact⟨x,rfl,h1,h2⟩
open Go.RowKit
theorem tR{xs L:List Int}{k:Nat}(h:L=aE (xs.take k))(h1:¬ ((k:Nat) : Int)<((xs.length:Nat) : Int)) : L=aE xs:=by
  rw[h,List.take_of_length_le (by omega)]
theorem xA{m:Md}{A:Option Addr}{cp:Nat}{xs:List Int}{w:World}(h:dP m w (.slice A xs.length cp) xs)(hn:xs.length≤1048576) : Calls Tryz.prog 174 #[.slice A xs.length cp] w (wJ xs w):=by
 refine en 27 Tryz.func174 rfl<|sg<|Pl 1<|ng<|Pl 1<|nt<|sq<|sg<|?_
 refine Pl 1<|nt<|bk<|?_
 refine js (fun x=>[(0,.slice A xs.length cp),(2,.slice none 0 0),(3,.slice x.2.2.1 x.2.1.length x.2.2.2),(4,.int .i64 ((x.1:Nat) : Int))]) (fun(x:Nat × List Int × Option Addr × Nat) w'=>aF [] w w'∧eI w.heap.size w' (.slice x.2.2.1 x.2.1.length x.2.2.2) x.2.1∧(x.1≤xs.length)∧(x.2.1=aE (xs.take x.1))) (fun x=>xs.length-x.1) (0,[],none,0) ⟨aF.refl _ _,(aW.nil w.heap.size _ _ t9 _),(by(try dsimp only);omega),rfl⟩ ?_
 rintro⟨k,L,B,cq⟩ o ⟨b,p,q,r⟩
 refine ju [(0,.slice A xs.length cp),(2,.slice none 0 0),(3,.slice B L.length cq),(4,.int .i64 ((k:Nat) : Int))] ?_
 have d:eI w.heap.size o (.slice B L.length cq) L:=p
 have H:k≤xs.length:=q
 have I:L=aE (xs.take k):=r
 have hL:L=aE (xs.take k):=by assumption
 have hLn:L.length=2*k:=by rw[hL,ay,List.length_take];omega
 refine sq<|sg<|Pl 4<|nt<|cb ((decide (((k:Nat) : Int)<((xs.length:Nat) : Int)))) (fun c=>?_) (fun c=>?_)
 have s:=of_decide_eq_true c
 refine bp<|sq<|bk<|?_
 refine gf (dP.at_ (dP.old h b) k (by omega)) fun t u f j J=>Rg 16 (fun w'=>w'.cell? ⟨t,u+k,none⟩=some (.int .u16 (xs.getD k 0))) fun K g=>bj (uc g j) fun a=>Rt 0 a<|Rt 1 a<|Rt 2 a<|mh 3 a xs.length k ((k:Nat) : Int) rfl f (by omega)<|Rl 4 a (fun _ hs=>hs)<|Rr 5 a (.int .u16 ((xs.getD k 0)/256)) (fun _ _=>bZ (.int .u16 (IntKind.u16.wrap (Int.tdiv (xs.getD k 0) 256))) (by kernel_rfl) (congrArg (Value.int .u16) (v8 (by omega) (by omega))))<|Rt 6 a<|Rt 7 a<|Rt 8 a<|mh 9 a xs.length k ((k:Nat) : Int) rfl f (by omega)<|Rl 10 a (fun _ hs=>hs)<|?_
 refine Rr 11 a (.int .u16 ((xs.getD k 0)%256)) (fun _ _=>bZ (.int .u16 (Int.tmod (xs.getD k 0) 256)) (by kernel_rfl) (congrArg (Value.int .u16) (Int.tmod_eq_emod_of_nonneg (by omega))))<|Rt 12 a<|R0 13 rfl<|cK (m:=2) (e:=5) #[.int .u8 (((xs.getD k 0)/256)%256),.int .u8 (((xs.getD k 0)%256)%256)] fun M N v y l=>?_
 have z:=cN v (xs:=[(((xs.getD k 0)/256)%256),(((xs.getD k 0)%256)%256)]) (by as_aux_lemma=>kernel_rfl) (am (by omega) (am (by omega) aJ)) (by(try simp only[List.length_cons,List.length_nil]);omega) y
 have i:=aG g l
 refine bj (uc i j) fun O=>?_
 refine R0 14 rfl<|bE aV (xs:=L) (ys:=([(((xs.getD k 0)/256)%256),(((xs.getD k 0)%256)%256)])) (.int .u8 0) 1 (aq d i (fun x hx=>aA) (fun _ _ h=>h)) (z).rd (by(try simp only[List.length_append,List.length_cons,List.length_nil,ay]);omega) (le (le b.size g.size) l.size) fun C D P E F=>?_
 have n:=ut b (ut (aF.mono (S':=(ob B++[])) i av) F (al il av)) (al (aM d lr) av)
 exact bj (cW (dP.old h n) f k (by omega)) fun G=>Rt 15 G<|re<|bn<|tn<|go<|Pl 1<|L0<|Oi (((k:Nat) : Int)+1)<|Pl 1<|nl<|gM ((k+1),(L++[(((xs.getD k 0)/256)%256),(((xs.getD k 0)%256)%256)]),C,D) ⟨n,E,(by(try dsimp only);omega),(by(try dsimp only);rw[show((xs.getD k 0)/256)%256=(xs.getD k 0)/256 from by omega,show((xs.getD k 0)%256)%256=(xs.getD k 0)%256 from by omega,m7 xs k (by omega),← hL])⟩ (by omega)
 have s:=of_decide_eq_false c
 refine xt<|tx<|tx<|bx<|tn<|sg<|Pl 2<|nt<|rt<|rr (.slice B L.length cq)<|?_
 have hs:L=aE xs:=tR hL (of_decide_eq_false c)
 exact⟨_,rfl,by rw[← hs];exact d,b⟩
theorem el{m:Md}{v:Value}{xs:List Int}{w:World}(h:dP m w v xs)(hn:xs.length≤1048576) : Calls Tryz.prog 174 #[v] w (wJ xs w):=by
  obtain⟨A,cp,rfl,_,_⟩:=h.shape
  exact xA h hn
open Go.RowKit
def dg (dir:Int)(M:aQ) : List Int :=
  if M.code==1 || M.code==2 then (if dir==1 then [(M.data.length:Int)%256]++M.data else aE [M.addr,M.count])
  else if M.code==5 then aE [M.addr,M.value]
  else if M.code==15 then (if dir==0 then (aE [M.addr,M.count]++[((bR M.bits).length:Int)%256])++bR M.bits else aE [M.addr,M.count])
  else aE [M.addr,M.count]
def dQ (dir:Int)(M:aQ) : List Int :=
  if M.code==8 then aE ([M.sub]++M.words)
  else if dir==0 then []
  else if M.code==7 then [M.value%256]
  else if M.code==11 then aE [M.status,M.events]
  else if M.code==12 then (([((M.data.length:Int)+6)%256]++aE [M.status,M.events,M.messages])++M.data)
  else [(M.data.length:Int)%256]++M.data
def cc (dir:Int)(M:aQ) : List Int :=
  if dir==1&&((M.code==3 || M.code==4)||M.code==23) then (aE []++[(2*(M.words.length:Int))%256])++aE M.words
  else if (M.code==3 || M.code==4)||(M.code==16&&dir==1) then aE [M.addr,M.count]
  else if M.code==6 then aE [M.addr,M.value]
  else if M.code==16 then ((aE [M.addr,M.count]++[(2*(M.words.length:Int))%256])++aE M.words)
  else if M.code==22 then aE [M.addr,M.and_,M.or_]
  else if M.code==23 then ((aE [M.addr,M.count,M.addr2,(M.words.length:Int)%65536]++[(2*(M.words.length:Int))%256])++aE M.words)
  else if M.code==24&&dir==0 then aE [M.addr]
  else if M.code==24 then aE [(2*(M.words.length:Int)+2)%65536,(M.words.length:Int)%65536]++aE M.words
  else (aE []++[(2*(M.words.length:Int))%256])++aE M.words
theorem pO{m:Md}{cs:Array Value}{M:aQ}{w:World}{dir:Int}(h:aN m w cs.toList M)(hf:bM M) : Calls Tryz.prog 166 #[.int .i64 dir,.agg cs] w (fm (dg dir M) w):=by
 obtain⟨vw,vb,vd,vr,vo,h0,hw,hbt,hd,hr,ho,hR⟩:=h
 obtain rfl:cs=(bu M vw vb vd vr vo).toArray:=by apply Array.toList_inj.1;simpa using h0
 clear h0
 obtain⟨Aw,kw,rfl,_,_⟩:=hw.shape
 obtain⟨Ab,kb,rfl,_,_⟩:=hbt.shape
 obtain⟨Ad,kd,rfl,_,_⟩:=hd.shape
 obtain⟨Ar,kr,rfl,_,_⟩:=hr.shape
 obtain⟨Ao,ko,rfl,_,_⟩:=ho.shape
 obtain⟨q0,q1,q2,q3,q4,q5,q6,q7,q8,q9,K,L,N,O,P,Q,R⟩:=hR
 simp only[B8,dB] at q0 q1 q2 q3 q4 q5 q6 q7 q8 q9 K L N O P Q R
 have hf1:=hf.words
 have hf2:=hf.bits
 have hf3:=hf.data
 have hf4:=hf.recs
 have hf5:=hf.objects
 refine en 52 Tryz.func166 rfl<|sg<|L0<|dv (mG M.code M.fail M.addr M.count M.value M.and_ M.or_ M.addr2 M.sub M.status M.events M.messages (.slice Aw M.words.length kw) (.slice Ab M.bits.length kb) (.slice Ad M.data.length kd) (.slice Ar M.recs.length kr) M.mei M.kind M.level M.more M.next (.slice Ao M.objects.length ko)) fun aC aD aH t c=>Pl 1<|ng<|Pl 1<|L0<|aP t 2<|Pl 1<|L0<|aP t 3<|L0<|cK (m:=2) (e:=24) #[.int .u16 M.addr,.int .u16 M.count] fun aI aK S T d=>?_
 have U:=dc S (xs:=[M.addr,M.count]) (by as_aux_lemma=>kernel_rfl) (am (by omega) (am (by omega) aJ)) (by(try simp only[List.length_cons,List.length_nil]);omega) T
 refine L0<|Oc<|di (el (xs:=[M.addr,M.count]) (U).rd (by(try simp only[List.length_append,List.length_cons,List.length_nil]);omega)) fun i q aL j aO aR r=>Pl 1<|nt<|sq<|sg<|Pl 1<|?_
 have A:=aG d r
 have g:=ub A t
 refine L0<|aP g 0<|nt<|bk<|sq<|sg<|Pl 2<|nt<|?_
 have a:=aG c A
 refine cb ((M.code==1)) (fun b=>?_) (fun b=>?_)
 have V:=ae b
 refine bp<|ct b<|sg<|Pl 2<|nt<|cb ((dir==1)) (fun n=>?_) (fun n=>?_)
 have W:=ae n
 refine sg<|Pl 1<|L0<|aP g 14<|Pl 2<|L0<|cK (m:=1) (e:=5) #[.int .u8 (((M.data.length:Nat) : Int)%256)] fun aS aT X Y u=>?_
 have B:=cN X (xs:=[(((M.data.length:Nat) : Int)%256)]) (by as_aux_lemma=>kernel_rfl) (am (by omega) aJ) (by(try simp only[List.length_cons,List.length_nil]);omega) Y
 refine Pl 1<|?_
 refine L0<|aP (ub u g) 14<|?_
 have C:=aG a u
 refine L0<|bE aV (xs:=([(((M.data.length:Nat) : Int)%256)])) (ys:=M.data) (.int .u8 0) 1 B (bh.old hd C) (by(try simp only[List.length_append,List.length_cons,List.length_nil,ay]);omega) u.size fun Z a0 aU a1 a2=>Pl 1<|nt<|rt<|br<|tr<|rr (.slice Z (([(((M.data.length:Nat) : Int)%256)]++M.data).length) a0)<|?_
 have hs:dg dir M=([(((M.data.length:Nat) : Int)%256)]++M.data):=by
   unfold dg
   (try simp only[b,n,bs,if_true,if_false,decide_true,decide_false,Bool.or_true,Bool.true_or,Bool.or_false,Bool.false_or,Bool.and_true,Bool.true_and,Bool.and_false,Bool.false_and,reduceIte])
   all_goals rfl
 rw[hs]
 exact⟨_,rfl,(aW.weaken a1 a.size),(ut C a2 (al (aM B a.size) av))⟩
 have W:=ak n
 refine sk<|bn<|tn<|sg<|Pl 2<|nt<|rt<|rr (.slice i ((aE ([M.addr,M.count])).length) q)<|?_
 have hs:dg dir M=(aE ([M.addr,M.count])):=by
   unfold dg
   (try simp only[b,n,bs,if_true,if_false,decide_true,decide_false,Bool.or_true,Bool.true_or,Bool.or_false,Bool.false_or,Bool.and_true,Bool.true_and,Bool.and_false,Bool.false_and,reduceIte])
   all_goals rfl
 rw[hs]
 exact⟨_,rfl,(aW.weaken j (le c.size d.size)),a⟩
 have V:=ak b
 refine go<|Pl 2<|nt<|cb ((M.code==2)) (fun f=>?_) (fun f=>?_)
 have a3:=ae f
 refine sg<|Pl 2<|nt<|cb ((dir==1)) (fun o=>?_) (fun o=>?_)
 have a4:=ae o
 refine sg<|Pl 1<|L0<|aP g 14<|Pl 2<|L0<|cK (m:=1) (e:=5) #[.int .u8 (((M.data.length:Nat) : Int)%256)] fun aX aY a5 a6 v=>?_
 have D:=cN a5 (xs:=[(((M.data.length:Nat) : Int)%256)]) (by as_aux_lemma=>kernel_rfl) (am (by omega) aJ) (by(try simp only[List.length_cons,List.length_nil]);omega) a6
 refine Pl 1<|?_
 refine L0<|aP (ub v g) 14<|?_
 have E:=aG a v
 refine L0<|bE aV (xs:=([(((M.data.length:Nat) : Int)%256)])) (ys:=M.data) (.int .u8 0) 1 D (bh.old hd E) (by(try simp only[List.length_append,List.length_cons,List.length_nil,ay]);omega) v.size fun a7 a8 aZ a9 aa=>Pl 1<|nt<|rt<|br<|tr<|rr (.slice a7 (([(((M.data.length:Nat) : Int)%256)]++M.data).length) a8)<|?_
 have hs:dg dir M=([(((M.data.length:Nat) : Int)%256)]++M.data):=by
   unfold dg
   (try simp only[b,f,o,bs,if_true,if_false,decide_true,decide_false,Bool.or_true,Bool.true_or,Bool.or_false,Bool.false_or,Bool.and_true,Bool.true_and,Bool.and_false,Bool.false_and,reduceIte])
   all_goals rfl
 rw[hs]
 exact⟨_,rfl,(aW.weaken a9 a.size),(ut E aa (al (aM D a.size) av))⟩
 have a4:=ak o
 refine sk<|bn<|tn<|sg<|Pl 2<|nt<|rt<|rr (.slice i ((aE ([M.addr,M.count])).length) q)<|?_
 have hs:dg dir M=(aE ([M.addr,M.count])):=by
   unfold dg
   (try simp only[b,f,o,bs,if_true,if_false,decide_true,decide_false,Bool.or_true,Bool.true_or,Bool.or_false,Bool.false_or,Bool.and_true,Bool.true_and,Bool.and_false,Bool.false_and,reduceIte])
   all_goals rfl
 rw[hs]
 exact⟨_,rfl,(aW.weaken j (le c.size d.size)),a⟩
 have a3:=ak f
 refine sg<|Pl 2<|nt<|cb ((M.code==5)) (fun k=>?_) (fun k=>?_)
 have ab:=ae k
 refine sg<|Pl 1<|L0<|aP g 2<|Pl 1<|L0<|aP g 4<|L0<|cK (m:=2) (e:=24) #[.int .u16 M.addr,.int .u16 M.value] fun b0 b1 ac ad F=>?_
 have af:=dc ac (xs:=[M.addr,M.value]) (by as_aux_lemma=>kernel_rfl) (am (by omega) (am (by omega) aJ)) (by(try simp only[List.length_cons,List.length_nil]);omega) ad
 refine L0<|Oc<|di (el (xs:=[M.addr,M.value]) (af).rd (by(try simp only[List.length_append,List.length_cons,List.length_nil]);omega)) fun ag ah b2 ai b3 b4 aj=>Pl 1<|nt<|rt<|br<|tr<|rr (.slice ag ((aE ([M.addr,M.value])).length) ah)<|?_
 have hs:dg dir M=(aE ([M.addr,M.value])):=by
   unfold dg
   (try simp only[b,f,k,bs,if_true,if_false,decide_true,decide_false,Bool.or_true,Bool.true_or,Bool.or_false,Bool.false_or,Bool.and_true,Bool.true_and,Bool.and_false,Bool.false_and,reduceIte])
   all_goals rfl
 rw[hs]
 exact⟨_,rfl,(aW.weaken ai (le (le (le c.size d.size) r.size) F.size)),(aG a (aG F aj))⟩
 have ab:=ak k
 refine sg<|Pl 2<|nt<|cb ((M.code==15)) (fun l=>?_) (fun l=>?_)
 have an:=ae l
 refine sg<|Pl 2<|nt<|cb ((dir==0)) (fun p=>?_) (fun p=>?_)
 have ao:=ae p
 refine sg<|Pl 1<|L0<|aP g 13<|?_
 refine L0<|Oc<|di (vP (hZ.old hbt a) (by omega)) fun b5 b6 b7 G b8 b9 y=>?_
 have ba:(bR M.bits).length≤1024:=by simp only[bR,List.length_map,List.length_range,dN];omega
 refine Pl 1<|ng<|Pl 4<|L0<|cK (m:=1) (e:=5) #[.int .u8 ((((bR M.bits).length:Nat) : Int)%256)] fun bb bc ap ar s=>?_
 have au:=cN ap (xs:=[((((bR M.bits).length:Nat) : Int)%256)]) (by as_aux_lemma=>kernel_rfl) (am (by omega) aJ) (by(try simp only[List.length_cons,List.length_nil]);omega) ar
 have H:=aG y s
 refine L0<|bE aV (xs:=(aE ([M.addr,M.count]))) (ys:=([((((bR M.bits).length:Nat) : Int)%256)])) (.int .u8 0) 1 (aq j H (fun x hx=>aA) (fun _ _ h=>h)) (au).rd (by(try simp only[List.length_append,List.length_cons,List.length_nil,ay]);omega) (le (le r.size y.size) s.size) fun I bd be J z=>Pl 1<|?_
 refine L0<|bE aV (xs:=((aE ([M.addr,M.count]))++[((((bR M.bits).length:Nat) : Int)%256)])) (ys:=(bR M.bits)) (.int .u8 0) 1 J ((aq G (ut (aF.mono (S':=(ob i++[])) s av) z (al il av)) (fun x hx=>(bf ((fF G j lr) x hx) aA)) (fun _ _ h=>h))).rd (by(try simp only[List.length_append,List.length_cons,List.length_nil,ay]);omega) (le (le (le r.size y.size) s.size) z.size) fun aw ax bg az aB=>Pl 1<|nt<|rt<|br<|tr<|rr (.slice aw ((((aE ([M.addr,M.count]))++[((((bR M.bits).length:Nat) : Int)%256)])++(bR M.bits)).length) ax)<|?_
 have hs:dg dir M=(((aE ([M.addr,M.count]))++[((((bR M.bits).length:Nat) : Int)%256)])++(bR M.bits)):=by
   unfold dg
   (try simp only[b,f,k,l,p,bs,if_true,if_false,decide_true,decide_false,Bool.or_true,Bool.true_or,Bool.or_false,Bool.false_or,Bool.and_true,Bool.true_and,Bool.and_false,Bool.false_and,reduceIte])
   all_goals rfl
 rw[hs]
 exact⟨_,rfl,(aW.weaken az (le c.size d.size)),(ut a (ut (aF.mono (S':=(ob i++(ob I++[]))) H av) (ut (aF.mono (S':=(ob i++(ob I++[]))) z (al il av)) aB (al il av)) (al il (al il av))) (al (aM j (le c.size d.size)) (al (aM J (le c.size d.size)) av)))⟩
 have ao:=ak p
 refine sk<|bn<|tn<|sg<|Pl 2<|nt<|rt<|rr (.slice i ((aE ([M.addr,M.count])).length) q)<|?_
 have hs:dg dir M=(aE ([M.addr,M.count])):=by
   unfold dg
   (try simp only[b,f,k,l,p,bs,if_true,if_false,decide_true,decide_false,Bool.or_true,Bool.true_or,Bool.or_false,Bool.false_or,Bool.and_true,Bool.true_and,Bool.and_false,Bool.false_and,reduceIte])
   all_goals rfl
 rw[hs]
 exact⟨_,rfl,(aW.weaken j (le c.size d.size)),a⟩
 have an:=ak l
 refine sk<|bn<|tn<|sg<|Pl 2<|nt<|rt<|rr (.slice i ((aE ([M.addr,M.count])).length) q)<|?_
 have hs:dg dir M=(aE ([M.addr,M.count])):=by
   unfold dg
   (try simp only[b,f,k,l,bs,if_true,if_false,decide_true,decide_false,Bool.or_true,Bool.true_or,Bool.or_false,Bool.false_or,Bool.and_true,Bool.true_and,Bool.and_false,Bool.false_and,reduceIte])
   all_goals rfl
 rw[hs]
 exact⟨_,rfl,(aW.weaken j (le c.size d.size)),a⟩
theorem rY{m:Md}{cs:Array Value}{M:aQ}{w:World}{dir:Int}(h:aN m w cs.toList M)(hf:bM M) : Calls Tryz.prog 168 #[.int .i64 dir,.agg cs] w (fm (dQ dir M) w):=by
 obtain⟨vw,vb,vd,vr,vo,h0,hw,hbt,hd,hr,ho,hR⟩:=h
 obtain rfl:cs=(bu M vw vb vd vr vo).toArray:=by apply Array.toList_inj.1;simpa using h0
 clear h0
 obtain⟨Aw,kw,rfl,_,_⟩:=hw.shape
 obtain⟨Ab,kb,rfl,_,_⟩:=hbt.shape
 obtain⟨Ad,kd,rfl,_,_⟩:=hd.shape
 obtain⟨Ar,kr,rfl,_,_⟩:=hr.shape
 obtain⟨Ao,ko,rfl,_,_⟩:=ho.shape
 obtain⟨q0,q1,q2,q3,q4,q5,q6,q7,q8,q9,a9,aa,ab,ac,ad,af,ag⟩:=hR
 simp only[B8,dB] at q0 q1 q2 q3 q4 q5 q6 q7 q8 q9 a9 aa ab ac ad af ag
 have hf1:=hf.words
 have hf2:=hf.bits
 have hf3:=hf.data
 have hf4:=hf.recs
 have hf5:=hf.objects
 refine en 63 Tryz.func168 rfl<|sg<|L0<|dv (mG M.code M.fail M.addr M.count M.value M.and_ M.or_ M.addr2 M.sub M.status M.events M.messages (.slice Aw M.words.length kw) (.slice Ab M.bits.length kb) (.slice Ad M.data.length kd) (.slice Ar M.recs.length kr) M.mei M.kind M.level M.more M.next (.slice Ao M.objects.length ko)) fun C bO bP b a=>Pl 1<|nt<|sq<|sg<|Pl 1<|L0<|aP b 0<|Pl 1<|nl<|?_
 refine tn<|cb ((M.code==8)) (fun d=>?_) (fun d=>?_)
 have ai:=ae d
 refine sg<|Pl 1<|L0<|aP b 8<|L0<|cK (m:=1) (e:=24) #[.int .u16 M.sub] fun bQ bR aj an D=>?_
 have P:=dc aj (xs:=[M.sub]) (by as_aux_lemma=>kernel_rfl) (am (by omega) aJ) (by(try simp only[List.length_cons,List.length_nil]);omega) an
 refine Pl 1<|?_
 refine L0<|aP (ub D b) 12<|?_
 have Q:=aG a D
 refine L0<|bE nz (xs:=([M.sub])) (ys:=M.words) (.int .u16 0) 2 P (dP.old hw Q) (by(try simp only[List.length_append,List.length_cons,List.length_nil,ay]);omega) D.size fun bS bT bU ao R=>L0<|Oc<|di (el (xs:=([M.sub]++M.words)) (ao).rd (by(try simp only[List.length_append,List.length_cons,List.length_nil]);omega)) fun ap ar bV aw bW bX ax=>Pl 1<|nt<|rt<|tr<|rr (.slice ap ((aE ([M.sub]++M.words)).length) ar)<|?_
 have hs:dQ dir M=(aE ([M.sub]++M.words)):=by
   unfold dQ
   (try simp only[d,bs,if_true,if_false,decide_true,decide_false,Bool.or_true,Bool.true_or,Bool.or_false,Bool.false_or,Bool.and_true,Bool.true_and,Bool.and_false,Bool.false_and,reduceIte])
   all_goals rfl
 rw[hs]
 exact⟨_,rfl,(aW.weaken aw (le (le a.size D.size) R.size)),(ut Q (aG R ax) (al (aM P a.size) av))⟩
 have ai:=ak d
 refine bp<|sq<|sg<|Pl 2<|nt<|cb ((dir==0)) (fun g=>?_) (fun g=>?_)
 have az:=ae g
 refine sg<|Pl 1<|nt<|rt<|tr<|rr (.slice none 0 0)<|?_
 have hs:dQ dir M=[]:=by
   unfold dQ
   (try simp only[d,g,bs,if_true,if_false,decide_true,decide_false,Bool.or_true,Bool.true_or,Bool.or_false,Bool.false_or,Bool.and_true,Bool.true_and,Bool.and_false,Bool.false_and,reduceIte])
   all_goals rfl
 rw[hs]
 exact⟨_,rfl,(aW.nil ..),a⟩
 have az:=ak g
 refine bp<|sq<|sg<|Pl 1<|L0<|aP b 0<|nt<|bk<|sg<|Pl 2<|nl<|?_
 refine tn<|cb ((M.code==7)) (fun i=>?_) (fun i=>?_)
 have aC:=ae i
 refine sg<|Pl 1<|L0<|aP b 4<|Pl 1<|L0<|cK (m:=1) (e:=5) #[.int .u8 (M.value%256)] fun aD bY aH aI aK=>?_
 have aL:=cN aH (xs:=[(M.value%256)]) (by as_aux_lemma=>kernel_rfl) (am (by omega) aJ) (by(try simp only[List.length_cons,List.length_nil]);omega) aI
 refine Pl 1<|nt<|rt<|br<|tr<|rr (.slice (some ⟨aD,0,none⟩) 1 1)<|?_
 have hs:dQ dir M=[(M.value%256)]:=by
   unfold dQ
   (try simp only[d,g,i,bs,if_true,if_false,decide_true,decide_false,Bool.or_true,Bool.true_or,Bool.or_false,Bool.false_or,Bool.and_true,Bool.true_and,Bool.and_false,Bool.false_and,reduceIte])
   all_goals rfl
 rw[hs]
 exact⟨_,rfl,(aW.weaken aL a.size),(aG a aK)⟩
 have aC:=ak i
 refine sg<|Pl 2<|nt<|cb ((M.code==11)) (fun k=>?_) (fun k=>?_)
 have aO:=ae k
 refine sg<|Pl 1<|L0<|aP b 9<|Pl 1<|L0<|aP b 10<|L0<|cK (m:=2) (e:=24) #[.int .u16 M.status,.int .u16 M.events] fun c0 c1 aR aS S=>?_
 have aT:=dc aR (xs:=[M.status,M.events]) (by as_aux_lemma=>kernel_rfl) (am (by omega) (am (by omega) aJ)) (by(try simp only[List.length_cons,List.length_nil]);omega) aS
 refine L0<|Oc<|di (el (xs:=[M.status,M.events]) (aT).rd (by(try simp only[List.length_append,List.length_cons,List.length_nil]);omega)) fun aU aX c2 aY c3 c4 aZ=>Pl 1<|nt<|rt<|br<|tr<|rr (.slice aU ((aE ([M.status,M.events])).length) aX)<|?_
 have hs:dQ dir M=(aE ([M.status,M.events])):=by
   unfold dQ
   (try simp only[d,g,i,k,bs,if_true,if_false,decide_true,decide_false,Bool.or_true,Bool.true_or,Bool.or_false,Bool.false_or,Bool.and_true,Bool.true_and,Bool.and_false,Bool.false_and,reduceIte])
   all_goals rfl
 rw[hs]
 exact⟨_,rfl,(aW.weaken aY (le a.size S.size)),(aG a (aG S aZ))⟩
 have aO:=ak k
 refine sg<|Pl 2<|nt<|cb ((M.code==12)) (fun l=>?_) (fun l=>?_)
 have b0:=ae l
 refine sq<|Rg 16 (fun w'=>w'.cell? ⟨C,14,none⟩=some (.slice Ad M.data.length kd)∧w'.cell? ⟨C,9,none⟩=some (.int .u16 M.status)∧w'.cell? ⟨C,10,none⟩=some (.int .u16 M.events)∧w'.cell? ⟨C,11,none⟩=some (.int .u16 M.messages)) fun c5 c=>?_
 have n:=ub c b
 refine bj ⟨(ah n rfl),(ah n rfl),(ah n rfl),(ah n rfl)⟩ fun f=>Rt 0 f<|Rl 1 f (fun _ hs=>hs.1)<|Rt 2 f<|Rr 3 f (.int .i64 (((M.data.length:Nat) : Int)+6)) (fun _ _=>bZ (.int .i64 (IntKind.i64.wrap (((M.data.length:Nat) : Int)+6))) (by kernel_rfl) (congrArg (Value.int .i64) (IntWalk.i64_in _ (by omega))))<|Rt 4 f<|Rt 6 f<|Rl 7 f (fun _ hs=>hs.2.1)<|Rt 8 f<|Rl 9 f (fun _ hs=>hs.2.2.1)<|Rt 10 f<|Rl 11 f (fun _ hs=>hs.2.2.2)<|?_
 refine R2 5 12 rfl rfl ?_ ?_
 refine  cK (m:=1) (e:=5) #[.int .u8 ((((M.data.length:Nat) : Int)+6)%256)] fun b1 c6 b2 b3 H=>?_
 have I:=cN b2 (xs:=[((((M.data.length:Nat) : Int)+6)%256)]) (by as_aux_lemma=>kernel_rfl) (am (by omega) aJ) (by(try simp only[List.length_cons,List.length_nil]);omega) b3
 have p:=ub H n
 refine bj ⟨(ah p rfl),(ah p rfl),(ah p rfl),(ah p rfl)⟩ fun c7=>R0 12 rfl<|cK (m:=3) (e:=24) #[.int .u16 M.status,.int .u16 M.events,.int .u16 M.messages] fun c8 c9 b4 b5 J=>?_
 have b6:=dc b4 (xs:=[M.status,M.events,M.messages]) (by as_aux_lemma=>kernel_rfl) (am (by omega) (am (by omega) (am (by omega) aJ))) (by(try simp only[List.length_cons,List.length_nil]);omega) b5
 have q:=ub J p
 refine bj ⟨(ah q rfl),(ah q rfl),(ah q rfl),(ah q rfl)⟩ fun ca=>R0 13 rfl<|Oc<|di (el (xs:=[M.status,M.events,M.messages]) (b6).rd (by(try simp only[List.length_append,List.length_cons,List.length_nil]);omega)) fun cc cd ce b7 cf cg K=>?_
 have r:=ub K q
 refine bj ⟨(ah r rfl),(ah r rfl),(ah r rfl),(ah r rfl)⟩ fun ch=>?_
 have T:=aG J K
 refine R0 14 rfl<|bE aV (xs:=([((((M.data.length:Nat) : Int)+6)%256)])) (ys:=(aE ([M.status,M.events,M.messages]))) (.int .u8 0) 1 (aq I T (fun x hx=>aA) (fun _ _ h=>h)) (b7).rd (by(try simp only[List.length_append,List.length_cons,List.length_nil,ay]);omega) (le (le H.size J.size) K.size) fun ci cj ck U V=>?_
 have s:=aF.blk V (bf (aB (au b) c.size I) aA) r
 refine bj ⟨(ah s rfl),(ah s rfl),(ah s rfl),(ah s rfl)⟩ fun b8=>Rt 15 b8<|re<|tn<|sg<|Pl 2<|L0<|aP s 14<|?_
 have W:=ut H (ut (aF.mono (S':=(ob (some ⟨b1,0,none⟩)++[])) T av) V (al il av)) (al (aM I lr) av)
 have X:=aG a (aG c W)
 refine L0<|bE aV (xs:=([((((M.data.length:Nat) : Int)+6)%256)]++(aE ([M.status,M.events,M.messages])))) (ys:=M.data) (.int .u8 0) 1 U (bh.old hd X) (by(try simp only[List.length_append,List.length_cons,List.length_nil,ay]);omega) W.size fun b9 ba cl bb bc=>Pl 1<|nt<|rt<|br<|tr<|rr (.slice b9 ((([((((M.data.length:Nat) : Int)+6)%256)]++(aE ([M.status,M.events,M.messages])))++M.data).length) ba)<|?_
 have hs:dQ dir M=(([((((M.data.length:Nat) : Int)+6)%256)]++(aE ([M.status,M.events,M.messages])))++M.data):=by
   unfold dQ
   (try simp only[d,g,i,k,l,bs,if_true,if_false,decide_true,decide_false,Bool.or_true,Bool.true_or,Bool.or_false,Bool.false_or,Bool.and_true,Bool.true_and,Bool.and_false,Bool.false_and,reduceIte])
   all_goals rfl
 rw[hs]
 exact⟨_,rfl,(aW.weaken bb (le a.size c.size)),(ut X bc (al (aM U (le a.size c.size)) av))⟩
 refine  cK (m:=3) (e:=24) #[.int .u16 M.status,.int .u16 M.events,.int .u16 M.messages] fun cm cn bd be j=>?_
 have Y:=dc bd (xs:=[M.status,M.events,M.messages]) (by as_aux_lemma=>kernel_rfl) (am (by omega) (am (by omega) (am (by omega) aJ))) (by(try simp only[List.length_cons,List.length_nil]);omega) be
 have o:=ub j n
 refine bj ⟨(ah o rfl),(ah o rfl),(ah o rfl),(ah o rfl)⟩ fun co=>?_
 refine R2 5 13 rfl rfl ?_ ?_
 refine  cK (m:=1) (e:=5) #[.int .u8 ((((M.data.length:Nat) : Int)+6)%256)] fun bg cp bi bl E=>?_
 have L:=cN bi (xs:=[((((M.data.length:Nat) : Int)+6)%256)]) (by as_aux_lemma=>kernel_rfl) (am (by omega) aJ) (by(try simp only[List.length_cons,List.length_nil]);omega) bl
 have t:=ub E o
 refine bj ⟨(ah t rfl),(ah t rfl),(ah t rfl),(ah t rfl)⟩ fun cq=>?_
 refine R0 13 rfl<|Oc<|di (el (xs:=[M.status,M.events,M.messages]) ((aq Y E (fun x hx=>aA) (fun _ _ h=>h))).rd (by(try simp only[List.length_append,List.length_cons,List.length_nil]);omega)) fun cr ct cu bm cv cw F=>?_
 have u:=ub F t
 refine bj ⟨(ah u rfl),(ah u rfl),(ah u rfl),(ah u rfl)⟩ fun cx=>?_
 refine R0 14 rfl<|bE aV (xs:=([((((M.data.length:Nat) : Int)+6)%256)])) (ys:=(aE ([M.status,M.events,M.messages]))) (.int .u8 0) 1 (aq L F (fun x hx=>aA) (fun _ _ h=>h)) (bm).rd (by(try simp only[List.length_append,List.length_cons,List.length_nil,ay]);omega) (le E.size F.size) fun cy cz cA Z a0=>?_
 have v:=aF.blk a0 (bf (aB (au b) (le c.size j.size) L) aA) u
 refine bj ⟨(ah v rfl),(ah v rfl),(ah v rfl),(ah v rfl)⟩ fun bo=>Rt 15 bo<|re<|tn<|sg<|Pl 2<|L0<|aP v 14<|?_
 have a1:=ut E (ut (aF.mono (S':=(ob (some ⟨bg,0,none⟩)++[])) F av) a0 (al il av)) (al (aM L lr) av)
 have a2:=aG a (aG c (aG j a1))
 refine L0<|bE aV (xs:=([((((M.data.length:Nat) : Int)+6)%256)]++(aE ([M.status,M.events,M.messages])))) (ys:=M.data) (.int .u8 0) 1 Z (bh.old hd a2) (by(try simp only[List.length_append,List.length_cons,List.length_nil,ay]);omega) a1.size fun bq bt cB bv bw=>Pl 1<|nt<|rt<|br<|tr<|rr (.slice bq ((([((((M.data.length:Nat) : Int)+6)%256)]++(aE ([M.status,M.events,M.messages])))++M.data).length) bt)<|?_
 have hs:dQ dir M=(([((((M.data.length:Nat) : Int)+6)%256)]++(aE ([M.status,M.events,M.messages])))++M.data):=by
   unfold dQ
   (try simp only[d,g,i,k,l,bs,if_true,if_false,decide_true,decide_false,Bool.or_true,Bool.true_or,Bool.or_false,Bool.false_or,Bool.and_true,Bool.true_and,Bool.and_false,Bool.false_and,reduceIte])
   all_goals rfl
 rw[hs]
 exact⟨_,rfl,(aW.weaken bv (le (le a.size c.size) j.size)),(ut a2 bw (al (aM Z (le (le a.size c.size) j.size)) av))⟩
 refine  Oc<|di (el (xs:=[M.status,M.events,M.messages]) (Y).rd (by(try simp only[List.length_append,List.length_cons,List.length_nil]);omega)) fun cC cD cE bx cF cG y=>?_
 have z:=ub y o
 refine bj ⟨(ah z rfl),(ah z rfl),(ah z rfl),(ah z rfl)⟩ fun cH=>R0 5 rfl<|cK (m:=1) (e:=5) #[.int .u8 ((((M.data.length:Nat) : Int)+6)%256)] fun cI cJ bz bA G=>?_
 have N:=cN bz (xs:=[((((M.data.length:Nat) : Int)+6)%256)]) (by as_aux_lemma=>kernel_rfl) (am (by omega) aJ) (by(try simp only[List.length_cons,List.length_nil]);omega) bA
 have A:=ub G z
 refine bj ⟨(ah A rfl),(ah A rfl),(ah A rfl),(ah A rfl)⟩ fun cL=>?_
 refine R0 14 rfl<|bE aV (xs:=([((((M.data.length:Nat) : Int)+6)%256)])) (ys:=(aE ([M.status,M.events,M.messages]))) (.int .u8 0) 1 N ((aq bx G (fun x hx=>aA) (fun _ _ h=>h))).rd (by(try simp only[List.length_append,List.length_cons,List.length_nil,ay]);omega) G.size fun cM cO cP a3 a4=>?_
 have B:=aF.blk a4 (bf (aB (au b) (le (le c.size j.size) y.size) N) aA) A
 refine bj ⟨(ah B rfl),(ah B rfl),(ah B rfl),(ah B rfl)⟩ fun bB=>Rt 15 bB<|re<|tn<|sg<|Pl 2<|L0<|aP B 14<|?_
 have a5:=ut G a4 (al (aM N lr) av)
 have a6:=aG a (aG c (aG j (aG y a5)))
 refine L0<|bE aV (xs:=([((((M.data.length:Nat) : Int)+6)%256)]++(aE ([M.status,M.events,M.messages])))) (ys:=M.data) (.int .u8 0) 1 a3 (bh.old hd a6) (by(try simp only[List.length_append,List.length_cons,List.length_nil,ay]);omega) a5.size fun bC bD cQ bF bG=>Pl 1<|nt<|rt<|br<|tr<|rr (.slice bC ((([((((M.data.length:Nat) : Int)+6)%256)]++(aE ([M.status,M.events,M.messages])))++M.data).length) bD)<|?_
 have hs:dQ dir M=(([((((M.data.length:Nat) : Int)+6)%256)]++(aE ([M.status,M.events,M.messages])))++M.data):=by
   unfold dQ
   (try simp only[d,g,i,k,l,bs,if_true,if_false,decide_true,decide_false,Bool.or_true,Bool.true_or,Bool.or_false,Bool.false_or,Bool.and_true,Bool.true_and,Bool.and_false,Bool.false_and,reduceIte])
   all_goals rfl
 rw[hs]
 exact⟨_,rfl,(aW.weaken bF (le (le (le a.size c.size) j.size) y.size)),(ut a6 bG (al (aM a3 (le (le (le a.size c.size) j.size) y.size)) av))⟩
 have b0:=ak l
 refine sk<|bn<|tn<|sg<|Pl 1<|L0<|aP b 14<|Pl 2<|L0<|cK (m:=1) (e:=5) #[.int .u8 (((M.data.length:Nat) : Int)%256)] fun cR cS bH bI O=>?_
 have a7:=cN bH (xs:=[(((M.data.length:Nat) : Int)%256)]) (by as_aux_lemma=>kernel_rfl) (am (by omega) aJ) (by(try simp only[List.length_cons,List.length_nil]);omega) bI
 refine Pl 1<|?_
 refine L0<|aP (ub O b) 14<|?_
 have a8:=aG a O
 refine L0<|bE aV (xs:=([(((M.data.length:Nat) : Int)%256)])) (ys:=M.data) (.int .u8 0) 1 a7 (bh.old hd a8) (by(try simp only[List.length_append,List.length_cons,List.length_nil,ay]);omega) O.size fun bJ bK cT bL bN=>Pl 1<|nt<|rt<|rr (.slice bJ (([(((M.data.length:Nat) : Int)%256)]++M.data).length) bK)<|?_
 have hs:dQ dir M=([(((M.data.length:Nat) : Int)%256)]++M.data):=by
   unfold dQ
   (try simp only[d,g,i,k,l,bs,if_true,if_false,decide_true,decide_false,Bool.or_true,Bool.true_or,Bool.or_false,Bool.false_or,Bool.and_true,Bool.true_and,Bool.and_false,Bool.false_and,reduceIte])
   all_goals rfl
 rw[hs]
 exact⟨_,rfl,(aW.weaken bL a.size),(ut a8 bN (al (aM a7 a.size) av))⟩
theorem nG{m:Md}{cs:Array Value}{M:aQ}{w:World}{dir:Int}(h:aN m w cs.toList M)(hf:bM M)(eu:(dir==1)=true)(hd0:(dir==0)=false) : Calls Tryz.prog 167 #[.int .i64 dir,.agg cs] w (fm (cc dir M) w):=by
 obtain⟨vw,vb,vd,vr,vo,h0,hw,hbt,hd,hr,ho,hR⟩:=h
 obtain rfl:cs=(bu M vw vb vd vr vo).toArray:=by apply Array.toList_inj.1;simpa using h0
 clear h0
 obtain⟨Aw,kw,rfl,_,_⟩:=hw.shape
 obtain⟨Ab,kb,rfl,_,_⟩:=hbt.shape
 obtain⟨Ad,kd,rfl,_,_⟩:=hd.shape
 obtain⟨Ar,kr,rfl,_,_⟩:=hr.shape
 obtain⟨Ao,ko,rfl,_,_⟩:=ho.shape
 obtain⟨q0,q1,q2,q3,q4,q5,q6,q7,q8,q9,Y,Z,a0,a1,a2,a3,a4⟩:=hR
 simp only[B8,dB] at q0 q1 q2 q3 q4 q5 q6 q7 q8 q9 Y Z a0 a1 a2 a3 a4
 have hf1:=hf.words
 have hf2:=hf.bits
 have hf3:=hf.data
 have hf4:=hf.recs
 have hf5:=hf.objects
 refine en 137 Tryz.func167 rfl<|sg<|L0<|dv (mG M.code M.fail M.addr M.count M.value M.and_ M.or_ M.addr2 M.sub M.status M.events M.messages (.slice Aw M.words.length kw) (.slice Ab M.bits.length kb) (.slice Ad M.data.length kd) (.slice Ar M.recs.length kr) M.mei M.kind M.level M.more M.next (.slice Ao M.objects.length ko)) fun bo bq bt E p=>Pl 1<|ng<|Pl 1<|L0<|aP E 12<|?_
 refine L0<|Oc<|di (el (xs:=M.words) (dP.old hw p) (by(try simp only[List.length_append,List.length_cons,List.length_nil]);omega)) fun bv bw bx v bz bA q=>Pl 1<|ng<|Pl 1<|?_
 have a:=ub q E
 refine L0<|aP a 12<|Pl 2<|ng<|Pl 1<|ng<|Pl 1<|nt<|?_
 refine sq<|bk<|sg<|Pl 3<|sy 19 eu<|Pl 1<|L1<|aP a 0<|Pl 2<|cu 4 [23] 27 (((M.code==3)||(M.code==4))) (fun K F=>?_) ?_
 refine bl 23 ((M.code==3)) (fun r=>?_) (fun r=>?_)
 have a5:=ae r
 exact Pl 4<|ce F true (by rw[r];rfl)
 have a5:=ak r
 exact Pl 1<|L1<|aP a 0<|Pl 2<|ce F (M.code==4) (by rw[r];rfl)
 refine Pl 1<|cu 4 [28] 32 ((((M.code==3)||(M.code==4))||(M.code==23))) (fun K G=>?_) ?_
 refine bl 28 (((M.code==3)||(M.code==4))) (fun s=>?_) (fun s=>?_)
 exact Pl 4<|ce G true (by rw[s];rfl)
 have a6:=(aH s).1
 have a7:=(aH s).2
 have bB:=ak a6
 have bC:=ak a7
 exact Pl 1<|L1<|aP a 0<|Pl 2<|ce G (M.code==23) (by rw[s];rfl)
 refine Pl 2<|nt<|?_
 have j:=aG p q
 refine cb ((((M.code==3)||(M.code==4))||(M.code==23))) (fun g=>?_) (fun g=>?_)
 refine sk<|bn<|tn<|sg<|Pl 1<|L0<|Oc<|di (el (xs:=[]) (aS.nil true _ _ _ _) (by(try simp only[List.length_append,List.length_cons,List.length_nil]);omega)) fun a8 bD bF H bG bH I=>Pl 1<|nt<|sq<|sg<|Pl 1<|nl<|?_
 refine tn<|c1<|go<|Pl 2<|L0<|Oi (2*((M.words.length:Nat) : Int))<|Pl 1<|L0<|cK (m:=1) (e:=5) #[.int .u8 ((2*((M.words.length:Nat) : Int))%256)] fun bI bJ a9 aa y=>?_
 have ab:=cN a9 (xs:=[((2*((M.words.length:Nat) : Int))%256)]) (by as_aux_lemma=>kernel_rfl) (am (by omega) aJ) (by(try simp only[List.length_cons,List.length_nil]);omega) aa
 refine L0<|bE aV (xs:=(aE ([]))) (ys:=([((2*((M.words.length:Nat) : Int))%256)])) (.int .u8 0) 1 (aq H y (fun x hx=>aA) (fun _ _ h=>h)) (ab).rd (by(try simp only[List.length_append,List.length_cons,List.length_nil,ay]);omega) (le I.size y.size) fun bK bL bN J ac=>Pl 1<|ng<|Pl 2<|?_
 have z:=ut I (ut (aF.mono (S':=(ob a8++[])) y av) ac (al il av)) (al (aM H lr) av)
 refine L0<|bE aV (xs:=((aE ([]))++[((2*((M.words.length:Nat) : Int))%256)])) (ys:=(aE M.words)) (.int .u8 0) 1 J ((aq v z (fun x hx=>aA) (fun _ _ h=>h))).rd (by(try simp only[List.length_append,List.length_cons,List.length_nil,ay]);omega) z.size fun ad af bO ag ah=>Pl 1<|nt<|rt<|rr (.slice ad ((((aE ([]))++[((2*((M.words.length:Nat) : Int))%256)])++(aE M.words)).length) af)<|?_
 have hs:cc dir M=(((aE ([]))++[((2*((M.words.length:Nat) : Int))%256)])++(aE M.words)):=by
   unfold cc
   (try simp only[eu,hd0,g,bs,if_true,if_false,decide_true,decide_false,Bool.or_true,Bool.true_or,Bool.or_false,Bool.false_or,Bool.and_true,Bool.true_and,Bool.and_false,Bool.false_and,reduceIte])
   all_goals rfl
 rw[hs]
 exact⟨_,rfl,(aW.weaken ag j.size),(aG j (ut z ah (al (aM J lr) av)))⟩
 have k:=(aH g).1
 have l:=(aH g).2
 have n:=(aH k).1
 have o:=(aH k).2
 have q31aap:=ak n
 have q31abp:=ak o
 have bP:=ak l
 refine sg<|Pl 1<|L0<|aP a 0<|Pl 2<|sy 38 n<|Pl 1<|L1<|aP a 0<|Pl 3<|sy 43 o<|Pl 1<|L1<|aP a 0<|Pl 2<|cu 3 [47] 50 (((M.code==16)&&(dir==1))) (fun K L=>?_) ?_
 refine bl 47 ((M.code==16)) (fun t=>?_) (fun t=>?_)
 have ai:=ae t
 exact Pl 3<|ce L (dir==1) (by rw[t];rfl)
 have ai:=ak t
 exact Pl 3<|ce L false (by rw[t];rfl)
 refine Pl 2<|nt<|cb (((M.code==16)&&(dir==1))) (fun i=>?_) (fun i=>?_)
 have b:=(aZ i).1
 have N:=(aZ i).2
 have aj:=ae b
 have bQ:=ae N
 refine sg<|Pl 1<|L0<|aP a 2<|Pl 1<|L0<|aP a 3<|L0<|cK (m:=2) (e:=24) #[.int .u16 M.addr,.int .u16 M.count] fun bR bS an ao O=>?_
 have ap:=dc an (xs:=[M.addr,M.count]) (by as_aux_lemma=>kernel_rfl) (am (by omega) (am (by omega) aJ)) (by(try simp only[List.length_cons,List.length_nil]);omega) ao
 refine L0<|Oc<|di (el (xs:=[M.addr,M.count]) (ap).rd (by(try simp only[List.length_append,List.length_cons,List.length_nil]);omega)) fun ar au bT aw bU bV ax=>Pl 1<|nt<|rt<|br<|tr<|rr (.slice ar ((aE ([M.addr,M.count])).length) au)<|?_
 have hs:cc dir M=(aE ([M.addr,M.count])):=by
   unfold cc
   (try simp only[show(M.code==3)=false from(by rw[ae b];rfl),show(M.code==4)=false from(by rw[ae b];rfl),show(M.code==6)=false from(by rw[ae b];rfl),show(M.code==22)=false from(by rw[ae b];rfl),show(M.code==23)=false from(by rw[ae b];rfl),show(M.code==24)=false from(by rw[ae b];rfl),N,hd0,g,k,n,o,l,i,b,bs,if_true,if_false,decide_true,decide_false,Bool.or_true,Bool.true_or,Bool.or_false,Bool.false_or,Bool.and_true,Bool.true_and,Bool.and_false,Bool.false_and,reduceIte])
   all_goals rfl
 rw[hs]
 exact⟨_,rfl,(aW.weaken aw (le (le p.size q.size) O.size)),(aG j (aG O ax))⟩
 have b:(M.code==16)=false:=by simpa only[eu,bs] using i
 have aj:=ak b
 refine sg<|Pl 1<|L0<|aP a 0<|Pl 2<|nt<|cb ((M.code==6)) (fun c=>?_) (fun c=>?_)
 have az:=ae c
 refine sg<|Pl 1<|L0<|aP a 2<|Pl 1<|L0<|aP a 4<|L0<|cK (m:=2) (e:=24) #[.int .u16 M.addr,.int .u16 M.value] fun bW bX aB aC P=>?_
 have aD:=dc aB (xs:=[M.addr,M.value]) (by as_aux_lemma=>kernel_rfl) (am (by omega) (am (by omega) aJ)) (by(try simp only[List.length_cons,List.length_nil]);omega) aC
 refine L0<|Oc<|di (el (xs:=[M.addr,M.value]) (aD).rd (by(try simp only[List.length_append,List.length_cons,List.length_nil]);omega)) fun aI aK bY aL bZ c2 aO=>Pl 1<|nt<|rt<|br<|tr<|rr (.slice aI ((aE ([M.addr,M.value])).length) aK)<|?_
 have hs:cc dir M=(aE ([M.addr,M.value])):=by
   unfold cc
   (try simp only[show(M.code==3)=false from(by rw[ae c];rfl),show(M.code==4)=false from(by rw[ae c];rfl),show(M.code==16)=false from(by rw[ae c];rfl),show(M.code==22)=false from(by rw[ae c];rfl),show(M.code==23)=false from(by rw[ae c];rfl),show(M.code==24)=false from(by rw[ae c];rfl),eu,hd0,g,k,n,o,l,i,b,c,bs,if_true,if_false,decide_true,decide_false,Bool.or_true,Bool.true_or,Bool.or_false,Bool.false_or,Bool.and_true,Bool.true_and,Bool.and_false,Bool.false_and,reduceIte])
   all_goals rfl
 rw[hs]
 exact⟨_,rfl,(aW.weaken aL (le (le p.size q.size) P.size)),(aG j (aG P aO))⟩
 have az:=ak c
 refine sg<|Pl 1<|L0<|aP a 0<|Pl 2<|nt<|cf b<|sg<|Pl 1<|L0<|aP a 0<|Pl 2<|nl<|?_
 refine tn<|cb ((M.code==22)) (fun d=>?_) (fun d=>?_)
 have aR:=ae d
 refine sg<|Pl 1<|L0<|aP a 2<|Pl 1<|L0<|aP a 5<|Pl 1<|L0<|aP a 6<|L0<|cK (m:=3) (e:=24) #[.int .u16 M.addr,.int .u16 M.and_,.int .u16 M.or_] fun c3 c4 aT aU Q=>?_
 have aX:=dc aT (xs:=[M.addr,M.and_,M.or_]) (by as_aux_lemma=>kernel_rfl) (am (by omega) (am (by omega) (am (by omega) aJ))) (by(try simp only[List.length_cons,List.length_nil]);omega) aU
 refine L0<|Oc<|di (el (xs:=[M.addr,M.and_,M.or_]) (aX).rd (by(try simp only[List.length_append,List.length_cons,List.length_nil]);omega)) fun aY b0 c5 b1 c6 c7 b2=>Pl 1<|nt<|rt<|br<|tr<|rr (.slice aY ((aE ([M.addr,M.and_,M.or_])).length) b0)<|?_
 have hs:cc dir M=(aE ([M.addr,M.and_,M.or_])):=by
   unfold cc
   (try simp only[show(M.code==3)=false from(by rw[ae d];rfl),show(M.code==4)=false from(by rw[ae d];rfl),show(M.code==6)=false from(by rw[ae d];rfl),show(M.code==16)=false from(by rw[ae d];rfl),show(M.code==23)=false from(by rw[ae d];rfl),show(M.code==24)=false from(by rw[ae d];rfl),eu,hd0,g,k,n,o,l,i,b,c,d,bs,if_true,if_false,decide_true,decide_false,Bool.or_true,Bool.true_or,Bool.or_false,Bool.false_or,Bool.and_true,Bool.true_and,Bool.and_false,Bool.false_and,reduceIte])
   all_goals rfl
 rw[hs]
 exact⟨_,rfl,(aW.weaken b1 (le (le p.size q.size) Q.size)),(aG j (aG Q b2))⟩
 have aR:=ak d
 refine sg<|Pl 1<|L0<|aP a 0<|Pl 2<|nt<|cf l<|sg<|Pl 1<|L0<|aP a 0<|Pl 2<|cu 3 [106] 109 (((M.code==24)&&(dir==0))) (fun K R=>?_) ?_
 refine bl 106 ((M.code==24)) (fun u=>?_) (fun u=>?_)
 have b3:=ae u
 exact Pl 3<|ce R (dir==0) (by rw[u];rfl)
 have b3:=ak u
 exact Pl 3<|ce R false (by rw[u];rfl)
 refine Pl 1<|nt<|?_
 have A:((M.code==24)&&(dir==0))=false:=by simp only[hd0,bs]
 refine cf A<|sg<|Pl 1<|L0<|aP a 0<|Pl 2<|nt<|cb ((M.code==24)) (fun f=>?_) (fun f=>?_)
 have b4:=ae f
 refine sg<|Pl 1<|L0<|Oi (2*((M.words.length:Nat) : Int))<|L0<|Oi ((2*((M.words.length:Nat) : Int))+2)<|Pl 3<|L0<|cK (m:=2) (e:=24) #[.int .u16 (((2*((M.words.length:Nat) : Int))+2)%65536),.int .u16 (((M.words.length:Nat) : Int)%65536)] fun c8 c9 b5 b6 B=>?_
 have b7:=dc b5 (xs:=[(((2*((M.words.length:Nat) : Int))+2)%65536),(((M.words.length:Nat) : Int)%65536)]) (by as_aux_lemma=>kernel_rfl) (am (by omega) (am (by omega) aJ)) (by(try simp only[List.length_cons,List.length_nil]);omega) b6
 refine Pl 1<|nt<|go<|Pl 1<|nl<|bn<|tn<|sg<|Pl 1<|L0<|Oc<|di (el (xs:=[(((2*((M.words.length:Nat) : Int))+2)%65536),(((M.words.length:Nat) : Int)%65536)]) (b7).rd (by(try simp only[List.length_append,List.length_cons,List.length_nil]);omega)) fun ca cd cg S ch ci T=>Pl 1<|nl<|?_
 refine tn<|sq<|sg<|Pl 1<|nt<|c0<|bp<|sg<|Pl 2<|?_
 have U:=aG B T
 refine L0<|bE aV (xs:=(aE ([(((2*((M.words.length:Nat) : Int))+2)%65536),(((M.words.length:Nat) : Int)%65536)]))) (ys:=(aE M.words)) (.int .u8 0) 1 S ((aq v U (fun x hx=>aA) (fun _ _ h=>h))).rd (by(try simp only[List.length_append,List.length_cons,List.length_nil,ay]);omega) T.size fun b8 b9 cj ba bb=>Pl 1<|nt<|rt<|rr (.slice b8 (((aE ([(((2*((M.words.length:Nat) : Int))+2)%65536),(((M.words.length:Nat) : Int)%65536)]))++(aE M.words)).length) b9)<|?_
 have hs:cc dir M=((aE ([(((2*((M.words.length:Nat) : Int))+2)%65536),(((M.words.length:Nat) : Int)%65536)]))++(aE M.words)):=by
   unfold cc
   (try simp only[show(M.code==3)=false from(by rw[ae f];rfl),show(M.code==4)=false from(by rw[ae f];rfl),show(M.code==6)=false from(by rw[ae f];rfl),show(M.code==16)=false from(by rw[ae f];rfl),show(M.code==22)=false from(by rw[ae f];rfl),show(M.code==23)=false from(by rw[ae f];rfl),eu,hd0,g,k,n,o,l,i,b,c,d,A,f,bs,if_true,if_false,decide_true,decide_false,Bool.or_true,Bool.true_or,Bool.or_false,Bool.false_or,Bool.and_true,Bool.true_and,Bool.and_false,Bool.false_and,reduceIte])
   all_goals rfl
 rw[hs]
 exact⟨_,rfl,(aW.weaken ba (le (le p.size q.size) B.size)),(aG j (ut U bb (al (aM S B.size) av)))⟩
 have b4:=ak f
 refine sk<|bn<|tn<|sg<|Pl 1<|L0<|Oc<|di (el (xs:=[]) (aS.nil true _ _ _ _) (by(try simp only[List.length_append,List.length_cons,List.length_nil]);omega)) fun bc ck cl V cm cn W=>Pl 1<|nt<|sq<|sg<|Pl 1<|nl<|?_
 refine tn<|c1<|go<|Pl 2<|L0<|Oi (2*((M.words.length:Nat) : Int))<|Pl 1<|L0<|cK (m:=1) (e:=5) #[.int .u8 ((2*((M.words.length:Nat) : Int))%256)] fun co cp bd be C=>?_
 have bf:=cN bd (xs:=[((2*((M.words.length:Nat) : Int))%256)]) (by as_aux_lemma=>kernel_rfl) (am (by omega) aJ) (by(try simp only[List.length_cons,List.length_nil]);omega) be
 refine L0<|bE aV (xs:=(aE ([]))) (ys:=([((2*((M.words.length:Nat) : Int))%256)])) (.int .u8 0) 1 (aq V C (fun x hx=>aA) (fun _ _ h=>h)) (bf).rd (by(try simp only[List.length_append,List.length_cons,List.length_nil,ay]);omega) (le W.size C.size) fun cq cr ct X bg=>Pl 1<|ng<|Pl 2<|?_
 have D:=ut W (ut (aF.mono (S':=(ob bc++[])) C av) bg (al il av)) (al (aM V lr) av)
 refine L0<|bE aV (xs:=((aE ([]))++[((2*((M.words.length:Nat) : Int))%256)])) (ys:=(aE M.words)) (.int .u8 0) 1 X ((aq v D (fun x hx=>aA) (fun _ _ h=>h))).rd (by(try simp only[List.length_append,List.length_cons,List.length_nil,ay]);omega) D.size fun bh bi cv bj bm=>Pl 1<|nt<|rt<|rr (.slice bh ((((aE ([]))++[((2*((M.words.length:Nat) : Int))%256)])++(aE M.words)).length) bi)<|?_
 have hs:cc dir M=(((aE ([]))++[((2*((M.words.length:Nat) : Int))%256)])++(aE M.words)):=by
   unfold cc
   (try simp only[eu,hd0,g,k,n,o,l,i,b,c,d,A,f,bs,if_true,if_false,decide_true,decide_false,Bool.or_true,Bool.true_or,Bool.or_false,Bool.false_or,Bool.and_true,Bool.true_and,Bool.and_false,Bool.false_and,reduceIte])
   all_goals rfl
 rw[hs]
 exact⟨_,rfl,(aW.weaken bj j.size),(aG j (ut D bm (al (aM X lr) av)))⟩
theorem oH{m:Md}{cs:Array Value}{M:aQ}{w:World}{dir:Int}(h:aN m w cs.toList M)(hf:bM M)(eu:(dir==1)=false)(hd0:(dir==0)=true) : Calls Tryz.prog 167 #[.int .i64 dir,.agg cs] w (fm (cc dir M) w):=by
 obtain⟨vw,vb,vd,vr,vo,h0,hw,hbt,hd,hr,ho,hR⟩:=h
 obtain rfl:cs=(bu M vw vb vd vr vo).toArray:=by apply Array.toList_inj.1;simpa using h0
 clear h0
 obtain⟨Aw,kw,rfl,_,_⟩:=hw.shape
 obtain⟨Ab,kb,rfl,_,_⟩:=hbt.shape
 obtain⟨Ad,kd,rfl,_,_⟩:=hd.shape
 obtain⟨Ar,kr,rfl,_,_⟩:=hr.shape
 obtain⟨Ao,ko,rfl,_,_⟩:=ho.shape
 obtain⟨q0,q1,q2,q3,q4,q5,q6,q7,q8,q9,a5,a6,a7,a8,a9,aa,ab⟩:=hR
 simp only[B8,dB] at q0 q1 q2 q3 q4 q5 q6 q7 q8 q9 a5 a6 a7 a8 a9 aa ab
 have hf1:=hf.words
 have hf2:=hf.bits
 have hf3:=hf.data
 have hf4:=hf.recs
 have hf5:=hf.objects
 refine en 137 Tryz.func167 rfl<|sg<|L0<|dv (mG M.code M.fail M.addr M.count M.value M.and_ M.or_ M.addr2 M.sub M.status M.events M.messages (.slice Aw M.words.length kw) (.slice Ab M.bits.length kb) (.slice Ad M.data.length kd) (.slice Ar M.recs.length kr) M.mei M.kind M.level M.more M.next (.slice Ao M.objects.length ko)) fun bR bS bT F k=>Pl 1<|ng<|Pl 1<|L0<|aP F 12<|?_
 refine L0<|Oc<|di (el (xs:=M.words) (dP.old hw k) (by(try simp only[List.length_append,List.length_cons,List.length_nil]);omega)) fun bU bV bW y bX bY l=>Pl 1<|ng<|Pl 1<|?_
 have a:=ub l F
 refine L0<|aP a 12<|Pl 2<|ng<|Pl 1<|ng<|Pl 1<|nt<|?_
 refine sq<|bk<|sg<|Pl 3<|sy 19 eu<|Pl 15<|nt<|c0<|sg<|Pl 1<|L0<|aP a 0<|?_
 refine Pl 2<|cu 4 [38] 42 (((M.code==3)||(M.code==4))) (fun K G=>?_) ?_
 refine bl 38 ((M.code==3)) (fun s=>?_) (fun s=>?_)
 have ac:=ae s
 exact Pl 4<|ce G true (by rw[s];rfl)
 have ac:=ak s
 exact Pl 1<|L1<|aP a 0<|Pl 2<|ce G (M.code==4) (by rw[s];rfl)
 refine Pl 1<|cu 8 [43] 51 ((((M.code==3)||(M.code==4))||((M.code==16)&&(dir==1)))) (fun K H=>?_) ?_
 refine bl 43 (((M.code==3)||(M.code==4))) (fun t=>?_) (fun t=>?_)
 exact Pl 8<|ce H true (by rw[t];rfl)
 have ad:=(aH t).1
 have af:=(aH t).2
 have bZ:=ak ad
 have c2:=ak af
 refine Pl 1<|L1<|aP a 0<|Pl 2<|cu 3 [47] 50 (((M.code==16)&&(dir==1))) (fun K I=>?_) ?_
 refine bl 47 ((M.code==16)) (fun u=>?_) (fun u=>?_)
 have ag:=ae u
 exact Pl 3<|ce I (dir==1) (by rw[u];rfl)
 have ag:=ak u
 exact Pl 3<|ce I false (by rw[u];rfl)
 exact Pl 1<|ce H ((M.code==16)&&(dir==1)) (by rw[t];rfl)
 refine Pl 1<|nt<|?_
 have J:((M.code==16)&&(dir==1))=false:=by simp only[eu,bs]
 have n:=aG k l
 refine cb ((((M.code==3)||(M.code==4))||((M.code==16)&&(dir==1)))) (fun i=>?_) (fun i=>?_)
 have j:((M.code==3)||(M.code==4))=true:=by simpa only[J,bs] using i
 refine sg<|Pl 1<|L0<|aP a 2<|Pl 1<|L0<|aP a 3<|L0<|cK (m:=2) (e:=24) #[.int .u16 M.addr,.int .u16 M.count] fun c3 c4 ah ai L=>?_
 have aj:=dc ah (xs:=[M.addr,M.count]) (by as_aux_lemma=>kernel_rfl) (am (by omega) (am (by omega) aJ)) (by(try simp only[List.length_cons,List.length_nil]);omega) ai
 refine L0<|Oc<|di (el (xs:=[M.addr,M.count]) (aj).rd (by(try simp only[List.length_append,List.length_cons,List.length_nil]);omega)) fun an ao c5 ap c6 c7 ar=>Pl 1<|nt<|rt<|br<|tr<|rr (.slice an ((aE ([M.addr,M.count])).length) ao)<|?_
 have hs:cc dir M=(aE ([M.addr,M.count])):=by
   unfold cc
   (try simp only[eu,hd0,J,i,j,bs,if_true,if_false,decide_true,decide_false,Bool.or_true,Bool.true_or,Bool.or_false,Bool.false_or,Bool.and_true,Bool.true_and,Bool.and_false,Bool.false_and,reduceIte])
   all_goals rfl
 rw[hs]
 exact⟨_,rfl,(aW.weaken ap (le (le k.size l.size) L.size)),(aG n (aG L ar))⟩
 have j:=(aH i).1
 have q:=(aH i).2
 have o:=(aH j).1
 have p:=(aH j).2
 have q34aap:=ak o
 have q34abp:=ak p
 refine sg<|Pl 1<|L0<|aP a 0<|Pl 2<|nt<|cb ((M.code==6)) (fun b=>?_) (fun b=>?_)
 have au:=ae b
 refine sg<|Pl 1<|L0<|aP a 2<|Pl 1<|L0<|aP a 4<|L0<|cK (m:=2) (e:=24) #[.int .u16 M.addr,.int .u16 M.value] fun c8 c9 aw ax N=>?_
 have az:=dc aw (xs:=[M.addr,M.value]) (by as_aux_lemma=>kernel_rfl) (am (by omega) (am (by omega) aJ)) (by(try simp only[List.length_cons,List.length_nil]);omega) ax
 refine L0<|Oc<|di (el (xs:=[M.addr,M.value]) (az).rd (by(try simp only[List.length_append,List.length_cons,List.length_nil]);omega)) fun aB aC ca aD cd cg aI=>Pl 1<|nt<|rt<|br<|tr<|rr (.slice aB ((aE ([M.addr,M.value])).length) aC)<|?_
 have hs:cc dir M=(aE ([M.addr,M.value])):=by
   unfold cc
   (try simp only[show(M.code==3)=false from(by rw[ae b];rfl),show(M.code==4)=false from(by rw[ae b];rfl),show(M.code==16)=false from(by rw[ae b];rfl),show(M.code==22)=false from(by rw[ae b];rfl),show(M.code==23)=false from(by rw[ae b];rfl),show(M.code==24)=false from(by rw[ae b];rfl),eu,hd0,q,i,j,o,p,b,bs,if_true,if_false,decide_true,decide_false,Bool.or_true,Bool.true_or,Bool.or_false,Bool.false_or,Bool.and_true,Bool.true_and,Bool.and_false,Bool.false_and,reduceIte])
   all_goals rfl
 rw[hs]
 exact⟨_,rfl,(aW.weaken aD (le (le k.size l.size) N.size)),(aG n (aG N aI))⟩
 have au:=ak b
 refine sg<|Pl 1<|L0<|aP a 0<|Pl 2<|nt<|cb ((M.code==16)) (fun c=>?_) (fun c=>?_)
 have aK:=ae c
 refine go<|Pl 1<|L0<|aP a 2<|Pl 1<|L0<|aP a 3<|L0<|cK (m:=2) (e:=24) #[.int .u16 M.addr,.int .u16 M.count] fun ch ci aL aO z=>?_
 have aR:=dc aL (xs:=[M.addr,M.count]) (by as_aux_lemma=>kernel_rfl) (am (by omega) (am (by omega) aJ)) (by(try simp only[List.length_cons,List.length_nil]);omega) aO
 refine Pl 1<|nl<|bn<|tn<|sg<|Pl 1<|L0<|Oc<|di (el (xs:=[M.addr,M.count]) (aR).rd (by(try simp only[List.length_append,List.length_cons,List.length_nil]);omega)) fun aT cj ck O cl cm P=>Pl 1<|nt<|sq<|sg<|?_
 refine Pl 1<|nt<|c1<|go<|Pl 2<|L0<|Oi (2*((M.words.length:Nat) : Int))<|Pl 1<|L0<|cK (m:=1) (e:=5) #[.int .u8 ((2*((M.words.length:Nat) : Int))%256)] fun cn co aU aX A=>?_
 have aY:=cN aU (xs:=[((2*((M.words.length:Nat) : Int))%256)]) (by as_aux_lemma=>kernel_rfl) (am (by omega) aJ) (by(try simp only[List.length_cons,List.length_nil]);omega) aX
 refine L0<|bE aV (xs:=(aE ([M.addr,M.count]))) (ys:=([((2*((M.words.length:Nat) : Int))%256)])) (.int .u8 0) 1 (aq O A (fun x hx=>aA) (fun _ _ h=>h)) (aY).rd (by(try simp only[List.length_append,List.length_cons,List.length_nil,ay]);omega) (le P.size A.size) fun cp cq cr Q b0=>Pl 1<|ng<|Pl 2<|?_
 have R:=ut P (ut (aF.mono (S':=(ob aT++[])) A av) b0 (al il av)) (al (aM O lr) av)
 have S:=aG z R
 refine L0<|bE aV (xs:=((aE ([M.addr,M.count]))++[((2*((M.words.length:Nat) : Int))%256)])) (ys:=(aE M.words)) (.int .u8 0) 1 Q ((aq y S (fun x hx=>aA) (fun _ _ h=>h))).rd (by(try simp only[List.length_append,List.length_cons,List.length_nil,ay]);omega) R.size fun b1 b2 ct b3 b4=>Pl 1<|nt<|rt<|rr (.slice b1 ((((aE ([M.addr,M.count]))++[((2*((M.words.length:Nat) : Int))%256)])++(aE M.words)).length) b2)<|?_
 have hs:cc dir M=(((aE ([M.addr,M.count]))++[((2*((M.words.length:Nat) : Int))%256)])++(aE M.words)):=by
   unfold cc
   (try simp only[show(M.code==3)=false from(by rw[ae c];rfl),show(M.code==4)=false from(by rw[ae c];rfl),show(M.code==6)=false from(by rw[ae c];rfl),show(M.code==22)=false from(by rw[ae c];rfl),show(M.code==23)=false from(by rw[ae c];rfl),show(M.code==24)=false from(by rw[ae c];rfl),eu,hd0,q,i,j,o,p,b,c,bs,if_true,if_false,decide_true,decide_false,Bool.or_true,Bool.true_or,Bool.or_false,Bool.false_or,Bool.and_true,Bool.true_and,Bool.and_false,Bool.false_and,reduceIte])
   all_goals rfl
 rw[hs]
 exact⟨_,rfl,(aW.weaken b3 (le (le k.size l.size) z.size)),(aG n (ut S b4 (al (aM Q z.size) av)))⟩
 have aK:=ak c
 refine sg<|Pl 1<|L0<|aP a 0<|Pl 2<|nt<|cb ((M.code==22)) (fun d=>?_) (fun d=>?_)
 have b5:=ae d
 refine sg<|Pl 1<|L0<|aP a 2<|Pl 1<|L0<|aP a 5<|Pl 1<|L0<|aP a 6<|L0<|cK (m:=3) (e:=24) #[.int .u16 M.addr,.int .u16 M.and_,.int .u16 M.or_] fun cv cw b6 b7 T=>?_
 have b8:=dc b6 (xs:=[M.addr,M.and_,M.or_]) (by as_aux_lemma=>kernel_rfl) (am (by omega) (am (by omega) (am (by omega) aJ))) (by(try simp only[List.length_cons,List.length_nil]);omega) b7
 refine L0<|Oc<|di (el (xs:=[M.addr,M.and_,M.or_]) (b8).rd (by(try simp only[List.length_append,List.length_cons,List.length_nil]);omega)) fun b9 ba cx bb cy cz bc=>Pl 1<|nt<|rt<|br<|tr<|rr (.slice b9 ((aE ([M.addr,M.and_,M.or_])).length) ba)<|?_
 have hs:cc dir M=(aE ([M.addr,M.and_,M.or_])):=by
   unfold cc
   (try simp only[show(M.code==3)=false from(by rw[ae d];rfl),show(M.code==4)=false from(by rw[ae d];rfl),show(M.code==6)=false from(by rw[ae d];rfl),show(M.code==16)=false from(by rw[ae d];rfl),show(M.code==23)=false from(by rw[ae d];rfl),show(M.code==24)=false from(by rw[ae d];rfl),eu,hd0,q,i,j,o,p,b,c,d,bs,if_true,if_false,decide_true,decide_false,Bool.or_true,Bool.true_or,Bool.or_false,Bool.false_or,Bool.and_true,Bool.true_and,Bool.and_false,Bool.false_and,reduceIte])
   all_goals rfl
 rw[hs]
 exact⟨_,rfl,(aW.weaken bb (le (le k.size l.size) T.size)),(aG n (aG T bc))⟩
 have b5:=ak d
 refine sg<|Pl 1<|L0<|aP a 0<|Pl 2<|nt<|cb ((M.code==23)) (fun f=>?_) (fun f=>?_)
 have bd:=ae f
 refine go<|Pl 1<|L0<|aP a 2<|Pl 1<|L0<|aP a 3<|Pl 1<|L0<|aP a 7<|Pl 2<|L0<|cK (m:=4) (e:=24) #[.int .u16 M.addr,.int .u16 M.count,.int .u16 M.addr2,.int .u16 (((M.words.length:Nat) : Int)%65536)] fun cA cB be bf B=>?_
 have bg:=dc be (xs:=[M.addr,M.count,M.addr2,(((M.words.length:Nat) : Int)%65536)]) (by as_aux_lemma=>kernel_rfl) (am (by omega) (am (by omega) (am (by omega) (am (by omega) aJ)))) (by(try simp only[List.length_cons,List.length_nil]);omega) bf
 refine Pl 1<|nl<|bn<|tn<|sg<|Pl 1<|L0<|Oc<|di (el (xs:=[M.addr,M.count,M.addr2,(((M.words.length:Nat) : Int)%65536)]) (bg).rd (by(try simp only[List.length_append,List.length_cons,List.length_nil]);omega)) fun bh cC cD U cE cF V=>Pl 1<|nt<|sq<|sg<|?_
 refine Pl 1<|nt<|c1<|go<|Pl 2<|L0<|Oi (2*((M.words.length:Nat) : Int))<|Pl 1<|L0<|cK (m:=1) (e:=5) #[.int .u8 ((2*((M.words.length:Nat) : Int))%256)] fun cG cH bi bj C=>?_
 have bm:=cN bi (xs:=[((2*((M.words.length:Nat) : Int))%256)]) (by as_aux_lemma=>kernel_rfl) (am (by omega) aJ) (by(try simp only[List.length_cons,List.length_nil]);omega) bj
 refine L0<|bE aV (xs:=(aE ([M.addr,M.count,M.addr2,(((M.words.length:Nat) : Int)%65536)]))) (ys:=([((2*((M.words.length:Nat) : Int))%256)])) (.int .u8 0) 1 (aq U C (fun x hx=>aA) (fun _ _ h=>h)) (bm).rd (by(try simp only[List.length_append,List.length_cons,List.length_nil,ay]);omega) (le V.size C.size) fun cI cJ cL W bo=>Pl 1<|ng<|Pl 2<|?_
 have X:=ut V (ut (aF.mono (S':=(ob bh++[])) C av) bo (al il av)) (al (aM U lr) av)
 have Y:=aG B X
 refine L0<|bE aV (xs:=((aE ([M.addr,M.count,M.addr2,(((M.words.length:Nat) : Int)%65536)]))++[((2*((M.words.length:Nat) : Int))%256)])) (ys:=(aE M.words)) (.int .u8 0) 1 W ((aq y Y (fun x hx=>aA) (fun _ _ h=>h))).rd (by(try simp only[List.length_append,List.length_cons,List.length_nil,ay]);omega) X.size fun bp bq cM bt bv=>Pl 1<|nt<|rt<|rr (.slice bp ((((aE ([M.addr,M.count,M.addr2,(((M.words.length:Nat) : Int)%65536)]))++[((2*((M.words.length:Nat) : Int))%256)])++(aE M.words)).length) bq)<|?_
 have hs:cc dir M=(((aE ([M.addr,M.count,M.addr2,(((M.words.length:Nat) : Int)%65536)]))++[((2*((M.words.length:Nat) : Int))%256)])++(aE M.words)):=by
   unfold cc
   (try simp only[show(M.code==3)=false from(by rw[ae f];rfl),show(M.code==4)=false from(by rw[ae f];rfl),show(M.code==6)=false from(by rw[ae f];rfl),show(M.code==16)=false from(by rw[ae f];rfl),show(M.code==22)=false from(by rw[ae f];rfl),show(M.code==24)=false from(by rw[ae f];rfl),eu,hd0,q,i,j,o,p,b,c,d,f,bs,if_true,if_false,decide_true,decide_false,Bool.or_true,Bool.true_or,Bool.or_false,Bool.false_or,Bool.and_true,Bool.true_and,Bool.and_false,Bool.false_and,reduceIte])
   all_goals rfl
 rw[hs]
 exact⟨_,rfl,(aW.weaken bt (le (le k.size l.size) B.size)),(aG n (ut Y bv (al (aM W B.size) av)))⟩
 have bd:=ak f
 refine sg<|Pl 1<|L0<|aP a 0<|Pl 2<|cu 3 [106] 109 (((M.code==24)&&(dir==0))) (fun K Z=>?_) ?_
 refine bl 106 ((M.code==24)) (fun v=>?_) (fun v=>?_)
 have bw:=ae v
 exact Pl 3<|ce Z (dir==0) (by rw[v];rfl)
 have bw:=ak v
 exact Pl 3<|ce Z false (by rw[v];rfl)
 refine Pl 1<|nt<|cb (((M.code==24)&&(dir==0))) (fun r=>?_) (fun r=>?_)
 have g:=(aZ r).1
 have a0:=(aZ r).2
 have bx:=ae g
 have cO:=ae a0
 refine sg<|Pl 1<|L0<|aP a 2<|L0<|cK (m:=1) (e:=24) #[.int .u16 M.addr] fun cP cQ bz bA a1=>?_
 have bB:=dc bz (xs:=[M.addr]) (by as_aux_lemma=>kernel_rfl) (am (by omega) aJ) (by(try simp only[List.length_cons,List.length_nil]);omega) bA
 refine L0<|Oc<|di (el (xs:=[M.addr]) (bB).rd (by(try simp only[List.length_append,List.length_cons,List.length_nil]);omega)) fun bC bD cR bF cS cT bG=>Pl 1<|nt<|rt<|br<|tr<|rr (.slice bC ((aE ([M.addr])).length) bD)<|?_
 have hs:cc dir M=(aE ([M.addr])):=by
   unfold cc
   (try simp only[show(M.code==3)=false from(by rw[ae g];rfl),show(M.code==4)=false from(by rw[ae g];rfl),show(M.code==6)=false from(by rw[ae g];rfl),show(M.code==16)=false from(by rw[ae g];rfl),show(M.code==22)=false from(by rw[ae g];rfl),show(M.code==23)=false from(by rw[ae g];rfl),eu,a0,q,i,j,o,p,b,c,d,f,r,g,bs,if_true,if_false,decide_true,decide_false,Bool.or_true,Bool.true_or,Bool.or_false,Bool.false_or,Bool.and_true,Bool.true_and,Bool.and_false,Bool.false_and,reduceIte])
   all_goals rfl
 rw[hs]
 exact⟨_,rfl,(aW.weaken bF (le (le k.size l.size) a1.size)),(aG n (aG a1 bG))⟩
 have g:(M.code==24)=false:=by simpa only[hd0,bs] using r
 have bx:=ak g
 refine sg<|Pl 1<|L0<|aP a 0<|Pl 2<|nt<|cf g<|sk<|bn<|tn<|sg<|Pl 1<|L0<|Oc<|di (el (xs:=[]) (aS.nil true _ _ _ _) (by(try simp only[List.length_append,List.length_cons,List.length_nil]);omega)) fun bH cU cV a2 cW cX a3=>?_
 refine Pl 1<|nt<|sq<|sg<|Pl 1<|nt<|c1<|go<|Pl 2<|L0<|Oi (2*((M.words.length:Nat) : Int))<|Pl 1<|L0<|cK (m:=1) (e:=5) #[.int .u8 ((2*((M.words.length:Nat) : Int))%256)] fun cY cZ bI bJ D=>?_
 have bK:=cN bI (xs:=[((2*((M.words.length:Nat) : Int))%256)]) (by as_aux_lemma=>kernel_rfl) (am (by omega) aJ) (by(try simp only[List.length_cons,List.length_nil]);omega) bJ
 refine L0<|bE aV (xs:=(aE ([]))) (ys:=([((2*((M.words.length:Nat) : Int))%256)])) (.int .u8 0) 1 (aq a2 D (fun x hx=>aA) (fun _ _ h=>h)) (bK).rd (by(try simp only[List.length_append,List.length_cons,List.length_nil,ay]);omega) (le a3.size D.size) fun d0 d1 d2 a4 bL=>Pl 1<|ng<|Pl 2<|?_
 have E:=ut a3 (ut (aF.mono (S':=(ob bH++[])) D av) bL (al il av)) (al (aM a2 lr) av)
 refine L0<|bE aV (xs:=((aE ([]))++[((2*((M.words.length:Nat) : Int))%256)])) (ys:=(aE M.words)) (.int .u8 0) 1 a4 ((aq y E (fun x hx=>aA) (fun _ _ h=>h))).rd (by(try simp only[List.length_append,List.length_cons,List.length_nil,ay]);omega) E.size fun bN bO d3 bP bQ=>Pl 1<|nt<|rt<|rr (.slice bN ((((aE ([]))++[((2*((M.words.length:Nat) : Int))%256)])++(aE M.words)).length) bO)<|?_
 have hs:cc dir M=(((aE ([]))++[((2*((M.words.length:Nat) : Int))%256)])++(aE M.words)):=by
   unfold cc
   (try simp only[eu,hd0,q,i,j,o,p,b,c,d,f,r,g,bs,if_true,if_false,decide_true,decide_false,Bool.or_true,Bool.true_or,Bool.or_false,Bool.false_or,Bool.and_true,Bool.true_and,Bool.and_false,Bool.false_and,reduceIte])
   all_goals rfl
 rw[hs]
 exact⟨_,rfl,(aW.weaken bP n.size),(aG n (ut E bQ (al (aM a4 lr) av)))⟩
theorem oJ{m:Md}{cs:Array Value}{M:aQ}{w:World}{dir:Int}(h:aN m w cs.toList M)(hf:bM M)(eu:(dir==1)=false)(hd0:(dir==0)=false) : Calls Tryz.prog 167 #[.int .i64 dir,.agg cs] w (fm (cc dir M) w):=by
 obtain⟨vw,vb,vd,vr,vo,h0,hw,hbt,hd,hr,ho,hR⟩:=h
 obtain rfl:cs=(bu M vw vb vd vr vo).toArray:=by apply Array.toList_inj.1;simpa using h0
 clear h0
 obtain⟨Aw,kw,rfl,_,_⟩:=hw.shape
 obtain⟨Ab,kb,rfl,_,_⟩:=hbt.shape
 obtain⟨Ad,kd,rfl,_,_⟩:=hd.shape
 obtain⟨Ar,kr,rfl,_,_⟩:=hr.shape
 obtain⟨Ao,ko,rfl,_,_⟩:=ho.shape
 obtain⟨q0,q1,q2,q3,q4,q5,q6,q7,q8,q9,a7,a8,a9,aa,ab,ac,ad⟩:=hR
 simp only[B8,dB] at q0 q1 q2 q3 q4 q5 q6 q7 q8 q9 a7 a8 a9 aa ab ac ad
 have hf1:=hf.words
 have hf2:=hf.bits
 have hf3:=hf.data
 have hf4:=hf.recs
 have hf5:=hf.objects
 refine en 137 Tryz.func167 rfl<|sg<|L0<|dv (mG M.code M.fail M.addr M.count M.value M.and_ M.or_ M.addr2 M.sub M.status M.events M.messages (.slice Aw M.words.length kw) (.slice Ab M.bits.length kb) (.slice Ad M.data.length kd) (.slice Ar M.recs.length kr) M.mei M.kind M.level M.more M.next (.slice Ao M.objects.length ko)) fun bT bU bV G k=>Pl 1<|ng<|Pl 1<|L0<|aP G 12<|?_
 refine L0<|Oc<|di (el (xs:=M.words) (dP.old hw k) (by(try simp only[List.length_append,List.length_cons,List.length_nil]);omega)) fun bW bX bY v bZ c2 l=>Pl 1<|ng<|Pl 1<|?_
 have a:=ub l G
 refine L0<|aP a 12<|Pl 2<|ng<|Pl 1<|ng<|Pl 1<|nt<|?_
 refine sq<|bk<|sg<|Pl 3<|sy 19 eu<|Pl 15<|nt<|c0<|sg<|Pl 1<|L0<|aP a 0<|?_
 refine Pl 2<|cu 4 [38] 42 (((M.code==3)||(M.code==4))) (fun K H=>?_) ?_
 refine bl 38 ((M.code==3)) (fun r=>?_) (fun r=>?_)
 have af:=ae r
 exact Pl 4<|ce H true (by rw[r];rfl)
 have af:=ak r
 exact Pl 1<|L1<|aP a 0<|Pl 2<|ce H (M.code==4) (by rw[r];rfl)
 refine Pl 1<|cu 8 [43] 51 ((((M.code==3)||(M.code==4))||((M.code==16)&&(dir==1)))) (fun K I=>?_) ?_
 refine bl 43 (((M.code==3)||(M.code==4))) (fun s=>?_) (fun s=>?_)
 exact Pl 8<|ce I true (by rw[s];rfl)
 have ag:=(aH s).1
 have ah:=(aH s).2
 have c3:=ak ag
 have c4:=ak ah
 refine Pl 1<|L1<|aP a 0<|Pl 2<|cu 3 [47] 50 (((M.code==16)&&(dir==1))) (fun K J=>?_) ?_
 refine bl 47 ((M.code==16)) (fun t=>?_) (fun t=>?_)
 have ai:=ae t
 exact Pl 3<|ce J (dir==1) (by rw[t];rfl)
 have ai:=ak t
 exact Pl 3<|ce J false (by rw[t];rfl)
 exact Pl 1<|ce I ((M.code==16)&&(dir==1)) (by rw[s];rfl)
 refine Pl 1<|nt<|?_
 have L:((M.code==16)&&(dir==1))=false:=by simp only[eu,bs]
 have n:=aG k l
 refine cb ((((M.code==3)||(M.code==4))||((M.code==16)&&(dir==1)))) (fun g=>?_) (fun g=>?_)
 have j:((M.code==3)||(M.code==4))=true:=by simpa only[L,bs] using g
 refine sg<|Pl 1<|L0<|aP a 2<|Pl 1<|L0<|aP a 3<|L0<|cK (m:=2) (e:=24) #[.int .u16 M.addr,.int .u16 M.count] fun c5 c6 aj an N=>?_
 have ao:=dc aj (xs:=[M.addr,M.count]) (by as_aux_lemma=>kernel_rfl) (am (by omega) (am (by omega) aJ)) (by(try simp only[List.length_cons,List.length_nil]);omega) an
 refine L0<|Oc<|di (el (xs:=[M.addr,M.count]) (ao).rd (by(try simp only[List.length_append,List.length_cons,List.length_nil]);omega)) fun ap ar c7 au c8 c9 aw=>Pl 1<|nt<|rt<|br<|tr<|rr (.slice ap ((aE ([M.addr,M.count])).length) ar)<|?_
 have hs:cc dir M=(aE ([M.addr,M.count])):=by
   unfold cc
   (try simp only[eu,hd0,L,g,j,bs,if_true,if_false,decide_true,decide_false,Bool.or_true,Bool.true_or,Bool.or_false,Bool.false_or,Bool.and_true,Bool.true_and,Bool.and_false,Bool.false_and,reduceIte])
   all_goals rfl
 rw[hs]
 exact⟨_,rfl,(aW.weaken au (le (le k.size l.size) N.size)),(aG n (aG N aw))⟩
 have j:=(aH g).1
 have q:=(aH g).2
 have o:=(aH j).1
 have p:=(aH j).2
 have q34aap:=ak o
 have q34abp:=ak p
 refine sg<|Pl 1<|L0<|aP a 0<|Pl 2<|nt<|cb ((M.code==6)) (fun b=>?_) (fun b=>?_)
 have ax:=ae b
 refine sg<|Pl 1<|L0<|aP a 2<|Pl 1<|L0<|aP a 4<|L0<|cK (m:=2) (e:=24) #[.int .u16 M.addr,.int .u16 M.value] fun ca cd az aB O=>?_
 have aC:=dc az (xs:=[M.addr,M.value]) (by as_aux_lemma=>kernel_rfl) (am (by omega) (am (by omega) aJ)) (by(try simp only[List.length_cons,List.length_nil]);omega) aB
 refine L0<|Oc<|di (el (xs:=[M.addr,M.value]) (aC).rd (by(try simp only[List.length_append,List.length_cons,List.length_nil]);omega)) fun aD aI cg aK ch ci aL=>Pl 1<|nt<|rt<|br<|tr<|rr (.slice aD ((aE ([M.addr,M.value])).length) aI)<|?_
 have hs:cc dir M=(aE ([M.addr,M.value])):=by
   unfold cc
   (try simp only[show(M.code==3)=false from(by rw[ae b];rfl),show(M.code==4)=false from(by rw[ae b];rfl),show(M.code==16)=false from(by rw[ae b];rfl),show(M.code==22)=false from(by rw[ae b];rfl),show(M.code==23)=false from(by rw[ae b];rfl),show(M.code==24)=false from(by rw[ae b];rfl),eu,hd0,q,g,j,o,p,b,bs,if_true,if_false,decide_true,decide_false,Bool.or_true,Bool.true_or,Bool.or_false,Bool.false_or,Bool.and_true,Bool.true_and,Bool.and_false,Bool.false_and,reduceIte])
   all_goals rfl
 rw[hs]
 exact⟨_,rfl,(aW.weaken aK (le (le k.size l.size) O.size)),(aG n (aG O aL))⟩
 have ax:=ak b
 refine sg<|Pl 1<|L0<|aP a 0<|Pl 2<|nt<|cb ((M.code==16)) (fun c=>?_) (fun c=>?_)
 have aO:=ae c
 refine go<|Pl 1<|L0<|aP a 2<|Pl 1<|L0<|aP a 3<|L0<|cK (m:=2) (e:=24) #[.int .u16 M.addr,.int .u16 M.count] fun cj ck aR aT y=>?_
 have aU:=dc aR (xs:=[M.addr,M.count]) (by as_aux_lemma=>kernel_rfl) (am (by omega) (am (by omega) aJ)) (by(try simp only[List.length_cons,List.length_nil]);omega) aT
 refine Pl 1<|nl<|bn<|tn<|sg<|Pl 1<|L0<|Oc<|di (el (xs:=[M.addr,M.count]) (aU).rd (by(try simp only[List.length_append,List.length_cons,List.length_nil]);omega)) fun aX cl cm P cn co Q=>Pl 1<|nt<|sq<|sg<|?_
 refine Pl 1<|nt<|c1<|go<|Pl 2<|L0<|Oi (2*((M.words.length:Nat) : Int))<|Pl 1<|L0<|cK (m:=1) (e:=5) #[.int .u8 ((2*((M.words.length:Nat) : Int))%256)] fun cp cq aY aZ z=>?_
 have b0:=cN aY (xs:=[((2*((M.words.length:Nat) : Int))%256)]) (by as_aux_lemma=>kernel_rfl) (am (by omega) aJ) (by(try simp only[List.length_cons,List.length_nil]);omega) aZ
 refine L0<|bE aV (xs:=(aE ([M.addr,M.count]))) (ys:=([((2*((M.words.length:Nat) : Int))%256)])) (.int .u8 0) 1 (aq P z (fun x hx=>aA) (fun _ _ h=>h)) (b0).rd (by(try simp only[List.length_append,List.length_cons,List.length_nil,ay]);omega) (le Q.size z.size) fun cr ct cv R b1=>Pl 1<|ng<|Pl 2<|?_
 have S:=ut Q (ut (aF.mono (S':=(ob aX++[])) z av) b1 (al il av)) (al (aM P lr) av)
 have T:=aG y S
 refine L0<|bE aV (xs:=((aE ([M.addr,M.count]))++[((2*((M.words.length:Nat) : Int))%256)])) (ys:=(aE M.words)) (.int .u8 0) 1 R ((aq v T (fun x hx=>aA) (fun _ _ h=>h))).rd (by(try simp only[List.length_append,List.length_cons,List.length_nil,ay]);omega) S.size fun b2 b3 cw b4 b5=>Pl 1<|nt<|rt<|rr (.slice b2 ((((aE ([M.addr,M.count]))++[((2*((M.words.length:Nat) : Int))%256)])++(aE M.words)).length) b3)<|?_
 have hs:cc dir M=(((aE ([M.addr,M.count]))++[((2*((M.words.length:Nat) : Int))%256)])++(aE M.words)):=by
   unfold cc
   (try simp only[show(M.code==3)=false from(by rw[ae c];rfl),show(M.code==4)=false from(by rw[ae c];rfl),show(M.code==6)=false from(by rw[ae c];rfl),show(M.code==22)=false from(by rw[ae c];rfl),show(M.code==23)=false from(by rw[ae c];rfl),show(M.code==24)=false from(by rw[ae c];rfl),eu,hd0,q,g,j,o,p,b,c,bs,if_true,if_false,decide_true,decide_false,Bool.or_true,Bool.true_or,Bool.or_false,Bool.false_or,Bool.and_true,Bool.true_and,Bool.and_false,Bool.false_and,reduceIte])
   all_goals rfl
 rw[hs]
 exact⟨_,rfl,(aW.weaken b4 (le (le k.size l.size) y.size)),(aG n (ut T b5 (al (aM R y.size) av)))⟩
 have aO:=ak c
 refine sg<|Pl 1<|L0<|aP a 0<|Pl 2<|nt<|cb ((M.code==22)) (fun d=>?_) (fun d=>?_)
 have b6:=ae d
 refine sg<|Pl 1<|L0<|aP a 2<|Pl 1<|L0<|aP a 5<|Pl 1<|L0<|aP a 6<|L0<|cK (m:=3) (e:=24) #[.int .u16 M.addr,.int .u16 M.and_,.int .u16 M.or_] fun cx cy b7 b8 U=>?_
 have b9:=dc b7 (xs:=[M.addr,M.and_,M.or_]) (by as_aux_lemma=>kernel_rfl) (am (by omega) (am (by omega) (am (by omega) aJ))) (by(try simp only[List.length_cons,List.length_nil]);omega) b8
 refine L0<|Oc<|di (el (xs:=[M.addr,M.and_,M.or_]) (b9).rd (by(try simp only[List.length_append,List.length_cons,List.length_nil]);omega)) fun ba bb cz bc cA cB bd=>Pl 1<|nt<|rt<|br<|tr<|rr (.slice ba ((aE ([M.addr,M.and_,M.or_])).length) bb)<|?_
 have hs:cc dir M=(aE ([M.addr,M.and_,M.or_])):=by
   unfold cc
   (try simp only[show(M.code==3)=false from(by rw[ae d];rfl),show(M.code==4)=false from(by rw[ae d];rfl),show(M.code==6)=false from(by rw[ae d];rfl),show(M.code==16)=false from(by rw[ae d];rfl),show(M.code==23)=false from(by rw[ae d];rfl),show(M.code==24)=false from(by rw[ae d];rfl),eu,hd0,q,g,j,o,p,b,c,d,bs,if_true,if_false,decide_true,decide_false,Bool.or_true,Bool.true_or,Bool.or_false,Bool.false_or,Bool.and_true,Bool.true_and,Bool.and_false,Bool.false_and,reduceIte])
   all_goals rfl
 rw[hs]
 exact⟨_,rfl,(aW.weaken bc (le (le k.size l.size) U.size)),(aG n (aG U bd))⟩
 have b6:=ak d
 refine sg<|Pl 1<|L0<|aP a 0<|Pl 2<|nt<|cb ((M.code==23)) (fun f=>?_) (fun f=>?_)
 have be:=ae f
 refine go<|Pl 1<|L0<|aP a 2<|Pl 1<|L0<|aP a 3<|Pl 1<|L0<|aP a 7<|Pl 2<|L0<|cK (m:=4) (e:=24) #[.int .u16 M.addr,.int .u16 M.count,.int .u16 M.addr2,.int .u16 (((M.words.length:Nat) : Int)%65536)] fun cC cD bf bg A=>?_
 have bh:=dc bf (xs:=[M.addr,M.count,M.addr2,(((M.words.length:Nat) : Int)%65536)]) (by as_aux_lemma=>kernel_rfl) (am (by omega) (am (by omega) (am (by omega) (am (by omega) aJ)))) (by(try simp only[List.length_cons,List.length_nil]);omega) bg
 refine Pl 1<|nl<|bn<|tn<|sg<|Pl 1<|L0<|Oc<|di (el (xs:=[M.addr,M.count,M.addr2,(((M.words.length:Nat) : Int)%65536)]) (bh).rd (by(try simp only[List.length_append,List.length_cons,List.length_nil]);omega)) fun bi cE cF V cG cH W=>Pl 1<|nt<|sq<|sg<|?_
 refine Pl 1<|nt<|c1<|go<|Pl 2<|L0<|Oi (2*((M.words.length:Nat) : Int))<|Pl 1<|L0<|cK (m:=1) (e:=5) #[.int .u8 ((2*((M.words.length:Nat) : Int))%256)] fun cI cJ bj bm B=>?_
 have bo:=cN bj (xs:=[((2*((M.words.length:Nat) : Int))%256)]) (by as_aux_lemma=>kernel_rfl) (am (by omega) aJ) (by(try simp only[List.length_cons,List.length_nil]);omega) bm
 refine L0<|bE aV (xs:=(aE ([M.addr,M.count,M.addr2,(((M.words.length:Nat) : Int)%65536)]))) (ys:=([((2*((M.words.length:Nat) : Int))%256)])) (.int .u8 0) 1 (aq V B (fun x hx=>aA) (fun _ _ h=>h)) (bo).rd (by(try simp only[List.length_append,List.length_cons,List.length_nil,ay]);omega) (le W.size B.size) fun cL cM cO X bq=>Pl 1<|ng<|Pl 2<|?_
 have Y:=ut W (ut (aF.mono (S':=(ob bi++[])) B av) bq (al il av)) (al (aM V lr) av)
 have Z:=aG A Y
 refine L0<|bE aV (xs:=((aE ([M.addr,M.count,M.addr2,(((M.words.length:Nat) : Int)%65536)]))++[((2*((M.words.length:Nat) : Int))%256)])) (ys:=(aE M.words)) (.int .u8 0) 1 X ((aq v Z (fun x hx=>aA) (fun _ _ h=>h))).rd (by(try simp only[List.length_append,List.length_cons,List.length_nil,ay]);omega) Y.size fun bt bv cP bw bx=>Pl 1<|nt<|rt<|rr (.slice bt ((((aE ([M.addr,M.count,M.addr2,(((M.words.length:Nat) : Int)%65536)]))++[((2*((M.words.length:Nat) : Int))%256)])++(aE M.words)).length) bv)<|?_
 have hs:cc dir M=(((aE ([M.addr,M.count,M.addr2,(((M.words.length:Nat) : Int)%65536)]))++[((2*((M.words.length:Nat) : Int))%256)])++(aE M.words)):=by
   unfold cc
   (try simp only[show(M.code==3)=false from(by rw[ae f];rfl),show(M.code==4)=false from(by rw[ae f];rfl),show(M.code==6)=false from(by rw[ae f];rfl),show(M.code==16)=false from(by rw[ae f];rfl),show(M.code==22)=false from(by rw[ae f];rfl),show(M.code==24)=false from(by rw[ae f];rfl),eu,hd0,q,g,j,o,p,b,c,d,f,bs,if_true,if_false,decide_true,decide_false,Bool.or_true,Bool.true_or,Bool.or_false,Bool.false_or,Bool.and_true,Bool.true_and,Bool.and_false,Bool.false_and,reduceIte])
   all_goals rfl
 rw[hs]
 exact⟨_,rfl,(aW.weaken bw (le (le k.size l.size) A.size)),(aG n (ut Z bx (al (aM X A.size) av)))⟩
 have be:=ak f
 refine sg<|Pl 1<|L0<|aP a 0<|Pl 2<|cu 3 [106] 109 (((M.code==24)&&(dir==0))) (fun K a0=>?_) ?_
 refine bl 106 ((M.code==24)) (fun u=>?_) (fun u=>?_)
 have bz:=ae u
 exact Pl 3<|ce a0 (dir==0) (by rw[u];rfl)
 have bz:=ak u
 exact Pl 3<|ce a0 false (by rw[u];rfl)
 refine Pl 1<|nt<|?_
 have C:((M.code==24)&&(dir==0))=false:=by simp only[hd0,bs]
 refine cf C<|sg<|Pl 1<|L0<|aP a 0<|Pl 2<|nt<|cb ((M.code==24)) (fun i=>?_) (fun i=>?_)
 have bA:=ae i
 refine sg<|Pl 1<|L0<|Oi (2*((M.words.length:Nat) : Int))<|L0<|Oi ((2*((M.words.length:Nat) : Int))+2)<|Pl 3<|L0<|cK (m:=2) (e:=24) #[.int .u16 (((2*((M.words.length:Nat) : Int))+2)%65536),.int .u16 (((M.words.length:Nat) : Int)%65536)] fun cQ cR bB bC D=>?_
 have bD:=dc bB (xs:=[(((2*((M.words.length:Nat) : Int))+2)%65536),(((M.words.length:Nat) : Int)%65536)]) (by as_aux_lemma=>kernel_rfl) (am (by omega) (am (by omega) aJ)) (by(try simp only[List.length_cons,List.length_nil]);omega) bC
 refine Pl 1<|nt<|go<|Pl 1<|nl<|bn<|tn<|sg<|Pl 1<|L0<|Oc<|di (el (xs:=[(((2*((M.words.length:Nat) : Int))+2)%65536),(((M.words.length:Nat) : Int)%65536)]) (bD).rd (by(try simp only[List.length_append,List.length_cons,List.length_nil]);omega)) fun cS cT cU a1 cV cW a2=>Pl 1<|nl<|?_
 refine tn<|sq<|sg<|Pl 1<|nt<|c0<|bp<|sg<|Pl 2<|?_
 have a3:=aG D a2
 refine L0<|bE aV (xs:=(aE ([(((2*((M.words.length:Nat) : Int))+2)%65536),(((M.words.length:Nat) : Int)%65536)]))) (ys:=(aE M.words)) (.int .u8 0) 1 a1 ((aq v a3 (fun x hx=>aA) (fun _ _ h=>h))).rd (by(try simp only[List.length_append,List.length_cons,List.length_nil,ay]);omega) a2.size fun bF bG cX bH bI=>Pl 1<|nt<|rt<|rr (.slice bF (((aE ([(((2*((M.words.length:Nat) : Int))+2)%65536),(((M.words.length:Nat) : Int)%65536)]))++(aE M.words)).length) bG)<|?_
 have hs:cc dir M=((aE ([(((2*((M.words.length:Nat) : Int))+2)%65536),(((M.words.length:Nat) : Int)%65536)]))++(aE M.words)):=by
   unfold cc
   (try simp only[show(M.code==3)=false from(by rw[ae i];rfl),show(M.code==4)=false from(by rw[ae i];rfl),show(M.code==6)=false from(by rw[ae i];rfl),show(M.code==16)=false from(by rw[ae i];rfl),show(M.code==22)=false from(by rw[ae i];rfl),show(M.code==23)=false from(by rw[ae i];rfl),eu,hd0,q,g,j,o,p,b,c,d,f,C,i,bs,if_true,if_false,decide_true,decide_false,Bool.or_true,Bool.true_or,Bool.or_false,Bool.false_or,Bool.and_true,Bool.true_and,Bool.and_false,Bool.false_and,reduceIte])
   all_goals rfl
 rw[hs]
 exact⟨_,rfl,(aW.weaken bH (le (le k.size l.size) D.size)),(aG n (ut a3 bI (al (aM a1 D.size) av)))⟩
 have bA:=ak i
 refine sk<|bn<|tn<|sg<|Pl 1<|L0<|Oc<|di (el (xs:=[]) (aS.nil true _ _ _ _) (by(try simp only[List.length_append,List.length_cons,List.length_nil]);omega)) fun bJ cY cZ a4 d0 d1 a5=>Pl 1<|nt<|sq<|sg<|Pl 1<|nl<|?_
 refine tn<|c1<|go<|Pl 2<|L0<|Oi (2*((M.words.length:Nat) : Int))<|Pl 1<|L0<|cK (m:=1) (e:=5) #[.int .u8 ((2*((M.words.length:Nat) : Int))%256)] fun d2 d3 bK bL E=>?_
 have bN:=cN bK (xs:=[((2*((M.words.length:Nat) : Int))%256)]) (by as_aux_lemma=>kernel_rfl) (am (by omega) aJ) (by(try simp only[List.length_cons,List.length_nil]);omega) bL
 refine L0<|bE aV (xs:=(aE ([]))) (ys:=([((2*((M.words.length:Nat) : Int))%256)])) (.int .u8 0) 1 (aq a4 E (fun x hx=>aA) (fun _ _ h=>h)) (bN).rd (by(try simp only[List.length_append,List.length_cons,List.length_nil,ay]);omega) (le a5.size E.size) fun d4 d5 d6 a6 bO=>Pl 1<|ng<|Pl 2<|?_
 have F:=ut a5 (ut (aF.mono (S':=(ob bJ++[])) E av) bO (al il av)) (al (aM a4 lr) av)
 refine L0<|bE aV (xs:=((aE ([]))++[((2*((M.words.length:Nat) : Int))%256)])) (ys:=(aE M.words)) (.int .u8 0) 1 a6 ((aq v F (fun x hx=>aA) (fun _ _ h=>h))).rd (by(try simp only[List.length_append,List.length_cons,List.length_nil,ay]);omega) F.size fun bP bQ d7 bR bS=>Pl 1<|nt<|rt<|rr (.slice bP ((((aE ([]))++[((2*((M.words.length:Nat) : Int))%256)])++(aE M.words)).length) bQ)<|?_
 have hs:cc dir M=(((aE ([]))++[((2*((M.words.length:Nat) : Int))%256)])++(aE M.words)):=by
   unfold cc
   (try simp only[eu,hd0,q,g,j,o,p,b,c,d,f,C,i,bs,if_true,if_false,decide_true,decide_false,Bool.or_true,Bool.true_or,Bool.or_false,Bool.false_or,Bool.and_true,Bool.true_and,Bool.and_false,Bool.false_and,reduceIte])
   all_goals rfl
 rw[hs]
 exact⟨_,rfl,(aW.weaken bR n.size),(aG n (ut F bS (al (aM a6 lr) av)))⟩
theorem qD{m:Md}{cs:Array Value}{M:aQ}{w:World}{dir:Int}(h:aN m w cs.toList M)(hf:bM M) : Calls Tryz.prog 167 #[.int .i64 dir,.agg cs] w (fm (cc dir M) w):=by
  rcases dU (dir==1) with h1|h1
  · exact nG h hf h1 (by rw[ae h1];rfl)
  · rcases dU (dir==0) with h0 | h0
    · exact oH h hf h1 h0
    · exact oJ h hf h1 h0
open Go.RowKit
def kF (dir code:Int)(r:dr) : List Int:=(if code==20&&dir==1 then [(2*(r.words.length:Int)+1)%256,6] else [6]++aE [r.file,r.record,r.count])++aE r.words
def dn (dir code:Int) : List dr→List Int
  | []=>[]
  | r :: rs=>kF dir code r++dn dir code rs
theorem j9(dir code:Int)(xs:List dr)(k:Nat)(h:k<xs.length) : dn dir code (xs.drop k)=kF dir code (xs.getD k ⟨0,0,0,[]⟩)++dn dir code (xs.drop (k+1)):=by
  rw[List.drop_eq_getElem_cons h]
  simp[dn,List.getD_eq_getElem?_getD,List.getElem?_eq_getElem h]
def ej (dir:Int)(M:aQ) : List Int:=[((dn dir M.code M.recs).length:Int)%256]++dn dir M.code M.recs
theorem nH{m:Md}{cs:Array Value}{M:aQ}{w:World}{dir:Int}(h:aN m w cs.toList M)(hf:bM M) : Calls Tryz.prog 169 #[.int .i64 dir,.agg cs] w (fm (ej dir M) w):=by
 obtain⟨vw,vb,vd,vr,vo,h0,hw,hbt,hd,hr,ho,hR⟩:=h
 obtain rfl:cs=(bu M vw vb vd vr vo).toArray:=by apply Array.toList_inj.1;simpa using h0
 clear h0
 obtain⟨Aw,kw,rfl,_,_⟩:=hw.shape
 obtain⟨Ab,kb,rfl,_,_⟩:=hbt.shape
 obtain⟨Ad,kd,rfl,_,_⟩:=hd.shape
 obtain⟨Ar,kr,rfl,_,_⟩:=hr.shape
 obtain⟨Ao,ko,rfl,_,_⟩:=ho.shape
 obtain⟨q0,q1,q2,q3,q4,q5,q6,q7,q8,q9,a4,a5,a6,a7,a8,a9,aa⟩:=hR
 simp only[B8,dB] at q0 q1 q2 q3 q4 q5 q6 q7 q8 q9 a4 a5 a6 a7 a8 a9 aa
 have hf1:=hf.words
 have hf2:=hf.bits
 have hf3:=hf.data
 have hf4:=hf.recs
 have hf5:=hf.objects
 refine en 60 Tryz.func169 rfl<|sg<|L0<|dv (mG M.code M.fail M.addr M.count M.value M.and_ M.or_ M.addr2 M.sub M.status M.events M.messages (.slice Aw M.words.length kw) (.slice Ab M.bits.length kb) (.slice Ad M.data.length kd) (.slice Ar M.recs.length kr) M.mei M.kind M.level M.more M.next (.slice Ao M.objects.length ko)) fun N o b9 ab p=>Pl 1<|ng<|Pl 1<|nt<|sq<|sq<|?_
 refine go<|Pl 1<|nt<|bk<|?_
 refine js (fun x=>[(0,.int .i64 dir),(3,.pointer (some ⟨N,0,none⟩)),(4,.slice none 0 0),(5,.slice x.2.2.1 x.2.1.length x.2.2.2),(6,.int .i64 ((x.1:Nat) : Int))]) (fun(x:Nat × List Int × Option Addr × Nat) w'=>aF [] o w'∧eI o.heap.size w' (.slice x.2.2.1 x.2.1.length x.2.2.2) x.2.1∧(x.1≤M.recs.length)∧(x.2.1++dn dir M.code (M.recs.drop x.1)=([])++dn dir M.code M.recs)∧(x.2.1.length≤16+x.1*2060)∧(0≤x.2.1.length)) (fun x=>M.recs.length-x.1) (0,[],none,0) ⟨aF.refl _ _,(aW.nil o.heap.size _ _ t9 _),(by(try dsimp only);omega),rfl,(by(try dsimp only);(try simp only[List.length_cons,List.length_nil]);omega),(by(try dsimp only);(try simp only[List.length_cons,List.length_nil]);omega)⟩ ?_
 rintro⟨k,L,A,cp⟩ ac ⟨a,ad,af,ag,ah,ai⟩
 refine ju [(0,.int .i64 dir),(3,.pointer (some ⟨N,0,none⟩)),(4,.slice none 0 0),(5,.slice A L.length cp),(6,.int .i64 ((k:Nat) : Int))] ?_
 have b:eI o.heap.size ac (.slice A L.length cp) L:=ad
 have ba:k≤M.recs.length:=af
 have bb:L++dn dir M.code (M.recs.drop k)=([])++dn dir M.code M.recs:=ag
 have bc:L.length≤16+k*2060:=ah
 have bd:0≤L.length:=ai
 have hL:L++dn dir M.code (M.recs.drop k)=([])++dn dir M.code M.recs:=by assumption
 have hv0:=fun(h:k<M.recs.length)=>hf.recw _ (dj ⟨0,0,0,[]⟩ M.recs k h)
 refine sq<|sg<|Pl 2<|?_
 have y:=ub a ab
 refine L0<|aP y 15<|Pl 2<|nt<|?_
 have q:=aG p a
 refine cb ((decide (((k:Nat) : Int)<((M.recs.length:Nat) : Int)))) (fun f=>?_) (fun f=>?_)
 have aj:=of_decide_eq_true f
 refine bp<|sq<|bk<|sg<|Pl 1<|L0<|aP y 15<|Pl 1<|jh (kZ.elt hr k (by omega)) fun bg bh bi bj bm O P an ao Q bo ap=>L0<|nf 4 M.recs.length k an (by omega)<|?_
 refine L0<|xe [.int .u16 ((M.recs.getD k ⟨0,0,0,[]⟩).file),.int .u16 ((M.recs.getD k ⟨0,0,0,[]⟩).record),.int .u16 ((M.recs.getD k ⟨0,0,0,[]⟩).count),.slice O ((M.recs.getD k ⟨0,0,0,[]⟩).words.length) P] (ub q ao) ap<|L0<|bO #[.int .u16 0,.int .u16 0,.int .u16 0,.slice none 0 0] fun bq br z ar c=>L0<|be ar #[.int .u16 ((M.recs.getD k ⟨0,0,0,[]⟩).file),.int .u16 ((M.recs.getD k ⟨0,0,0,[]⟩).record),.int .u16 ((M.recs.getD k ⟨0,0,0,[]⟩).count),.slice O ((M.recs.getD k ⟨0,0,0,[]⟩).words.length) P] fun bt B d=>nt<|sq<|sg<|Pl 1<|?_
 have r:=ud c d z
 refine L0<|aP (ub r y) 0<|Pl 2<|cu 3 [23] 26 (((M.code==20)&&(dir==1))) (fun K R=>?_) ?_
 refine bl 23 ((M.code==20)) (fun g=>?_) (fun g=>?_)
 have au:=ae g
 exact Pl 3<|ce R (dir==1) (by rw[g];rfl)
 have au:=ak g
 exact Pl 3<|ce R false (by rw[g];rfl)
 refine nt<|?_
 have S:=aG q r
 refine cb (((M.code==20)&&(dir==1))) (fun i=>?_) (fun i=>?_)
 have T:=(aZ i).1
 have U:=(aZ i).2
 have bv:=ae T
 have bw:=ae U
 refine go<|Pl 2<|L0<|aP B 3<|Pl 1<|L0<|Oi (2*(((M.recs.getD k ⟨0,0,0,[]⟩).words.length:Nat) : Int))<|L0<|Oi ((2*(((M.recs.getD k ⟨0,0,0,[]⟩).words.length:Nat) : Int))+1)<|Pl 1<|L0<|cK (m:=2) (e:=5) #[.int .u8 (((2*(((M.recs.getD k ⟨0,0,0,[]⟩).words.length:Nat) : Int))+1)%256),.int .u8 6] fun bz bA aw ax s=>?_
 have az:=cN aw (xs:=[(((2*(((M.recs.getD k ⟨0,0,0,[]⟩).words.length:Nat) : Int))+1)%256),6]) (by as_aux_lemma=>kernel_rfl) (am (by omega) (am (by omega) aJ)) (by(try simp only[List.length_cons,List.length_nil]);omega) ax
 have V:=aG r s
 refine L0<|bE aV (xs:=L) (ys:=([(((2*(((M.recs.getD k ⟨0,0,0,[]⟩).words.length:Nat) : Int))+1)%256),6])) (.int .u8 0) 1 (aq b V (fun x hx=>aA) (fun _ _ h=>h)) (az).rd (by(try simp only[List.length_append,List.length_cons,List.length_nil,ay]);omega) (le (le (le a.size c.size) d.size) s.size) fun C bB bC W D=>Pl 1<|nt<|go<|Pl 2<|?_
 have X:=ut (aF.mono (S':=(ob A++[])) s av) D (al il av)
 refine L0<|aP (aF.blk X (bf (dT b lr z) aA) B) 3<|?_
 refine L0<|Oc<|di (el (xs:=(M.recs.getD k ⟨0,0,0,[]⟩).words) (dP.old Q (ut S X (al (aM b p.size) av))) (by(try simp only[List.length_append,List.length_cons,List.length_nil]);omega)) fun bD bF bG aB bH bI E=>?_
 refine L0<|bE aV (xs:=(L++[(((2*(((M.recs.getD k ⟨0,0,0,[]⟩).words.length:Nat) : Int))+1)%256),6])) (ys:=(aE ((M.recs.getD k ⟨0,0,0,[]⟩).words))) (.int .u8 0) 1 (aq W E (fun x hx=>aA) (fun _ _ h=>h)) (aB).rd (by(try simp only[List.length_append,List.length_cons,List.length_nil,ay]);omega) (le (le (le (le (le a.size c.size) d.size) s.size) D.size) E.size) fun aC aD bJ aH aI=>Pl 1<|nl<|bn<|tn<|go<|Pl 1<|L0<|Oi (((k:Nat) : Int)+1)<|Pl 1<|nl<|?_
 exact gM ((k+1),((L++[(((2*(((M.recs.getD k ⟨0,0,0,[]⟩).words.length:Nat) : Int))+1)%256),6])++(aE ((M.recs.getD k ⟨0,0,0,[]⟩).words))),aC,aD) ⟨(ut a (ut (aF.mono (S':=(ob A++(ob C++[]))) V av) (ut (aF.mono (S':=(ob A++(ob C++[]))) D (al il av)) (ut (aF.mono (S':=(ob C++[])) E av) aI (al il av)) (al il av)) (al il (al il av))) (al (aM b lr) (al (aM W lr) av))),aH,(by(try dsimp only);omega),(by(try dsimp only);rw[← hL,j9 dir M.code M.recs k (by omega)];simp only[kF,f,i,T,U,bs,if_true,if_false,decide_true,decide_false,List.append_assoc]),(by(try dsimp only);have hv:=hf.recw _ (dj ⟨0,0,0,[]⟩ M.recs k (by omega));(try simp only[List.length_append,List.length_cons,List.length_nil,ay]);omega),(by(try dsimp only);(try simp only[List.length_append,List.length_cons,List.length_nil]);omega)⟩ (by omega)
 refine sg<|Pl 1<|L0<|cK (m:=1) (e:=5) #[.int .u8 6] fun bK bL aK aL j=>?_
 have aO:=cN aK (xs:=[6]) (by as_aux_lemma=>kernel_rfl) (am (by omega) aJ) (by(try simp only[List.length_cons,List.length_nil]);omega) aL
 have Y:=aG r j
 refine L0<|bE aV (xs:=L) (ys:=([6])) (.int .u8 0) 1 (aq b Y (fun x hx=>aA) (fun _ _ h=>h)) (aO).rd (by(try simp only[List.length_append,List.length_cons,List.length_nil,ay]);omega) (le (le (le a.size c.size) d.size) j.size) fun l bN bP t u=>Pl 1<|nt<|go<|Pl 2<|?_
 have Z:=ut (aF.mono (S':=(ob A++[])) j av) u (al il av)
 have n:=aF.blk Z (bf (dT b lr z) aA) B
 refine L0<|aP n 0<|Pl 1<|L0<|aP n 1<|Pl 1<|L0<|aP n 2<|L0<|cK (m:=3) (e:=24) #[.int .u16 ((M.recs.getD k ⟨0,0,0,[]⟩).file),.int .u16 ((M.recs.getD k ⟨0,0,0,[]⟩).record),.int .u16 ((M.recs.getD k ⟨0,0,0,[]⟩).count)] fun bQ bR aR aS F=>?_
 have aT:=dc aR (xs:=[(M.recs.getD k ⟨0,0,0,[]⟩).file,(M.recs.getD k ⟨0,0,0,[]⟩).record,(M.recs.getD k ⟨0,0,0,[]⟩).count]) (by as_aux_lemma=>kernel_rfl) (am (by omega) (am (by omega) (am (by omega) aJ))) (by(try simp only[List.length_cons,List.length_nil]);omega) aS
 refine L0<|Oc<|di (el (xs:=[(M.recs.getD k ⟨0,0,0,[]⟩).file,(M.recs.getD k ⟨0,0,0,[]⟩).record,(M.recs.getD k ⟨0,0,0,[]⟩).count]) (aT).rd (by(try simp only[List.length_append,List.length_cons,List.length_nil]);omega)) fun bS bT bU aU bV bW G=>?_
 have a0:=aG F G
 refine L0<|bE aV (xs:=(L++[6])) (ys:=(aE ([(M.recs.getD k ⟨0,0,0,[]⟩).file,(M.recs.getD k ⟨0,0,0,[]⟩).record,(M.recs.getD k ⟨0,0,0,[]⟩).count]))) (.int .u8 0) 1 (aq t a0 (fun x hx=>aA) (fun _ _ h=>h)) (aU).rd (by(try simp only[List.length_append,List.length_cons,List.length_nil,ay]);omega) (le (le (le (le (le (le a.size c.size) d.size) j.size) u.size) F.size) G.size) fun v bX bY a1 a2=>Pl 1<|nt<|go<|Pl 2<|?_
 have H:=ut (aF.mono (S':=(ob l++[])) a0 av) a2 (al il av)
 refine L0<|aP (aF.blk H (bf (dI n t (by decide)) aA) n) 3<|?_
 refine L0<|Oc<|di (el (xs:=(M.recs.getD k ⟨0,0,0,[]⟩).words) (dP.old Q (ut S (ut (aF.mono (S':=(ob A++(ob l++[]))) Z (al il av)) H (al il av)) (al (aM b p.size) (al (aM t p.size) av)))) (by(try simp only[List.length_append,List.length_cons,List.length_nil]);omega)) fun bZ c0 c1 aX c2 c3 I=>?_
 refine L0<|bE aV (xs:=((L++[6])++(aE ([(M.recs.getD k ⟨0,0,0,[]⟩).file,(M.recs.getD k ⟨0,0,0,[]⟩).record,(M.recs.getD k ⟨0,0,0,[]⟩).count])))) (ys:=(aE ((M.recs.getD k ⟨0,0,0,[]⟩).words))) (.int .u8 0) 1 (aq a1 I (fun x hx=>aA) (fun _ _ h=>h)) (aX).rd (by(try simp only[List.length_append,List.length_cons,List.length_nil,ay]);omega) (le (le (le (le (le (le (le (le a.size c.size) d.size) j.size) u.size) F.size) G.size) a2.size) I.size) fun aY b0 c4 b1 b2=>Pl 1<|nl<|bn<|tn<|go<|Pl 1<|L0<|Oi (((k:Nat) : Int)+1)<|Pl 1<|nl<|?_
 exact gM ((k+1),(((L++[6])++(aE ([(M.recs.getD k ⟨0,0,0,[]⟩).file,(M.recs.getD k ⟨0,0,0,[]⟩).record,(M.recs.getD k ⟨0,0,0,[]⟩).count])))++(aE ((M.recs.getD k ⟨0,0,0,[]⟩).words))),aY,b0) ⟨(ut a (ut (aF.mono (S':=(ob A++(ob l++(ob v++[])))) Y av) (ut (aF.mono (S':=(ob A++(ob l++(ob v++[])))) u (al il av)) (ut (aF.mono (S':=(ob l++(ob v++[]))) H (al il av)) (ut (aF.mono (S':=(ob v++[])) I av) b2 (al il av)) (al il av)) (al il (al il av))) (al il (al il (al il av)))) (al (aM b lr) (al (aM t lr) (al (aM a1 lr) av)))),b1,(by(try dsimp only);omega),(by(try dsimp only);rw[← hL,j9 dir M.code M.recs k (by omega)];simp only[kF,f,i,bs,if_true,if_false,decide_true,decide_false,List.append_assoc]),(by(try dsimp only);have hv:=hf.recw _ (dj ⟨0,0,0,[]⟩ M.recs k (by omega));(try simp only[List.length_append,List.length_cons,List.length_nil,ay]);omega),(by(try dsimp only);(try simp only[List.length_append,List.length_cons,List.length_nil]);omega)⟩ (by omega)
 have aj:=of_decide_eq_false f
 refine xt<|tx<|tx<|bx<|tn<|sg<|Pl 3<|L0<|cK (m:=1) (e:=5) #[.int .u8 (((L.length:Nat) : Int)%256)] fun c5 c6 b3 b4 J=>?_
 have a3:=cN b3 (xs:=[(((L.length:Nat) : Int)%256)]) (by as_aux_lemma=>kernel_rfl) (am (by omega) aJ) (by(try simp only[List.length_cons,List.length_nil]);omega) b4
 refine Pl 1<|?_
 refine L0<|bE aV (xs:=([(((L.length:Nat) : Int)%256)])) (ys:=L) (.int .u8 0) 1 a3 ((aq b J (fun x hx=>aA) (fun _ _ h=>h))).rd (by(try simp only[List.length_append,List.length_cons,List.length_nil,ay]);omega) J.size fun b5 b6 c7 b7 b8=>Pl 1<|nt<|rt<|rr (.slice b5 (([(((L.length:Nat) : Int)%256)]++L).length) b6)<|?_
 have hL2:L=dn dir M.code M.recs:=by rw[show k=M.recs.length by omega,List.drop_length] at hL;rw[show dn dir M.code []=[] from rfl,List.append_nil] at hL;exact hL
 have hs:ej dir M=([(((L.length:Nat) : Int)%256)]++L):=by unfold ej;rw[← hL2]
 rw[hs]
 exact⟨_,rfl,(aW.weaken b7 q.size),(aG q (ut J b8 (al (aM a3 lr) av)))⟩
open Go.RowKit
def fe (dir:Int)(M:aQ) : List Int :=
  if M.mei==13 then [13]++M.data
  else if dir==0 then [M.mei,M.kind,M.next]
  else [M.mei,M.kind,M.level,M.more,M.next,(M.objects.length:Int)%256]++eY M.objects
theorem rA{m:Md}{cs:Array Value}{M:aQ}{w:World}{dir:Int}(h:aN m w cs.toList M)(hf:bM M) : Calls Tryz.prog 170 #[.int .i64 dir,.agg cs] w (fm (fe dir M) w):=by
 obtain⟨vw,vb,vd,vr,vo,h0,hw,hbt,hd,hr,ho,hR⟩:=h
 obtain rfl:cs=(bu M vw vb vd vr vo).toArray:=by apply Array.toList_inj.1;simpa using h0
 clear h0
 obtain⟨Aw,kw,rfl,_,_⟩:=hw.shape
 obtain⟨Ab,kb,rfl,_,_⟩:=hbt.shape
 obtain⟨Ad,kd,rfl,_,_⟩:=hd.shape
 obtain⟨Ar,kr,rfl,_,_⟩:=hr.shape
 obtain⟨Ao,ko,rfl,_,_⟩:=ho.shape
 obtain⟨q0,q1,q2,q3,q4,q5,q6,q7,q8,q9,X,Y,Z,a0,a1,a2,a3⟩:=hR
 simp only[B8,dB] at q0 q1 q2 q3 q4 q5 q6 q7 q8 q9 X Y Z a0 a1 a2 a3
 have hf1:=hf.words
 have hf2:=hf.bits
 have hf3:=hf.data
 have hf4:=hf.recs
 have hf5:=hf.objects
 refine en 71 Tryz.func170 rfl<|sg<|L0<|dv (mG M.code M.fail M.addr M.count M.value M.and_ M.or_ M.addr2 M.sub M.status M.events M.messages (.slice Aw M.words.length kw) (.slice Ab M.bits.length kb) (.slice Ad M.data.length kd) (.slice Ar M.recs.length kr) M.mei M.kind M.level M.more M.next (.slice Ao M.objects.length ko)) fun q r aX b c=>Pl 1<|nt<|sq<|sg<|Pl 1<|L0<|aP b 16<|Pl 1<|nl<|?_
 refine tn<|cb ((M.mei==13)) (fun g=>?_) (fun g=>?_)
 have a4:=ae g
 refine sg<|L0<|cK (m:=1) (e:=5) #[.int .u8 13] fun aY aZ a5 a6 s=>?_
 have G:=cN a5 (xs:=[13]) (by as_aux_lemma=>kernel_rfl) (am (by omega) aJ) (by(try simp only[List.length_cons,List.length_nil]);omega) a6
 refine Pl 1<|?_
 refine L0<|aP (ub s b) 14<|?_
 have H:=aG c s
 refine L0<|bE aV (xs:=([13])) (ys:=M.data) (.int .u8 0) 1 G (bh.old hd H) (by(try simp only[List.length_append,List.length_cons,List.length_nil,ay]);omega) s.size fun a7 a8 b0 a9 aa=>Pl 1<|nt<|rt<|tr<|rr (.slice a7 (([13]++M.data).length) a8)<|?_
 have hs:fe dir M=([13]++M.data):=by
   unfold fe
   (try simp only[g,bs,if_true,if_false,decide_true,decide_false,Bool.or_true,Bool.true_or,Bool.or_false,Bool.false_or,Bool.and_true,Bool.true_and,Bool.and_false,Bool.false_and,reduceIte])
   all_goals rfl
 rw[hs]
 exact⟨_,rfl,(aW.weaken a9 c.size),(ut H aa (al (aM G c.size) av))⟩
 have a4:=ak g
 refine bp<|sq<|sg<|Pl 2<|nt<|cb ((dir==0)) (fun n=>?_) (fun n=>?_)
 have ab:=ae n
 refine sg<|Pl 1<|L0<|aP b 16<|Pl 1<|L0<|aP b 17<|Pl 1<|L0<|aP b 20<|L0<|cK (m:=3) (e:=5) #[.int .u8 M.mei,.int .u8 M.kind,.int .u8 M.next] fun ac b1 ad af ag=>?_
 have ai:=cN ad (xs:=[M.mei,M.kind,M.next]) (by as_aux_lemma=>kernel_rfl) (am (by omega) (am (by omega) (am (by omega) aJ))) (by(try simp only[List.length_cons,List.length_nil]);omega) af
 refine Pl 1<|nt<|rt<|tr<|rr (.slice (some ⟨ac,0,none⟩) 3 3)<|?_
 have hs:fe dir M=[M.mei,M.kind,M.next]:=by
   unfold fe
   (try simp only[g,n,bs,if_true,if_false,decide_true,decide_false,Bool.or_true,Bool.true_or,Bool.or_false,Bool.false_or,Bool.and_true,Bool.true_and,Bool.and_false,Bool.false_and,reduceIte])
   all_goals rfl
 rw[hs]
 exact⟨_,rfl,(aW.weaken ai c.size),(aG c ag)⟩
 have ab:=ak n
 refine bp<|sg<|Pl 1<|L0<|aP b 16<|Pl 1<|L0<|aP b 17<|Pl 1<|L0<|aP b 18<|Pl 1<|L0<|aP b 19<|Pl 1<|L0<|aP b 20<|?_
 refine Pl 1<|L0<|aP b 21<|Pl 2<|L0<|cK (m:=6) (e:=5) #[.int .u8 M.mei,.int .u8 M.kind,.int .u8 M.level,.int .u8 M.more,.int .u8 M.next,.int .u8 (((M.objects.length:Nat) : Int)%256)] fun aj an ao ap t=>?_
 have ar:=cN ao (xs:=[M.mei,M.kind,M.level,M.more,M.next,(((M.objects.length:Nat) : Int)%256)]) (by as_aux_lemma=>kernel_rfl) (am (by omega) (am (by omega) (am (by omega) (am (by omega) (am (by omega) (am (by omega) aJ)))))) (by(try simp only[List.length_cons,List.length_nil]);omega) ap
 refine Pl 1<|nt<|sq<|sg<|Pl 1<|nt<|bk<|?_
 refine js (fun x=>[(3,.pointer (some ⟨q,0,none⟩)),(4,.slice none 0 0),(5,.slice x.2.2.1 x.2.1.length x.2.2.2),(6,.int .i64 ((x.1:Nat) : Int))]) (fun(x:Nat × List Int × Option Addr × Nat) w'=>aF [] r w'∧an.heap.size≤w'.heap.size∧eI r.heap.size w' (.slice x.2.2.1 x.2.1.length x.2.2.2) x.2.1∧(x.1≤M.objects.length)∧(x.2.1++eY (M.objects.drop x.1)=([M.mei,M.kind,M.level,M.more,M.next,(((M.objects.length:Nat) : Int)%256)])++eY M.objects)∧(x.2.1.length≤16+x.1*1026)∧(6≤x.2.1.length)) (fun x=>M.objects.length-x.1) (0,[M.mei,M.kind,M.level,M.more,M.next,(((M.objects.length:Nat) : Int)%256)],some ⟨aj,0,none⟩,6) ⟨t,lr,ar,(by(try dsimp only);omega),rfl,(by(try dsimp only);(try simp only[List.length_cons,List.length_nil]);omega),(by(try dsimp only);(try simp only[List.length_cons,List.length_nil]);omega)⟩ ?_
 rintro⟨k,L,A,cp⟩ aw ⟨u,y,ax,az,aC,aD,aE⟩
 refine ju [(3,.pointer (some ⟨q,0,none⟩)),(4,.slice none 0 0),(5,.slice A L.length cp),(6,.int .i64 ((k:Nat) : Int))] ?_
 have i:eI r.heap.size aw (.slice A L.length cp) L:=ax
 have b2:k≤M.objects.length:=az
 have b3:L++eY (M.objects.drop k)=([M.mei,M.kind,M.level,M.more,M.next,(((M.objects.length:Nat) : Int)%256)])++eY M.objects:=aC
 have b4:L.length≤16+k*1026:=aD
 have b5:6≤L.length:=aE
 have hL:L++eY (M.objects.drop k)=([M.mei,M.kind,M.level,M.more,M.next,(((M.objects.length:Nat) : Int)%256)])++eY M.objects:=by assumption
 have hv0:=fun(h:k<M.objects.length)=>hf.objv _ (dj ⟨0,[]⟩ M.objects k h)
 refine sq<|sg<|Pl 2<|?_
 have I:=ub u b
 refine L0<|aP I 21<|Pl 2<|nt<|?_
 have J:=aG c u
 refine cb ((decide (((k:Nat) : Int)<((M.objects.length:Nat) : Int)))) (fun o=>?_) (fun o=>?_)
 have aH:=of_decide_eq_true o
 refine bp<|sq<|bk<|sq<|jh (mj.elt ho k (by omega)) fun z B b6 b7 b8 K N C O aI b9 d=>Rg 18 (fun w'=>w'.cell? ⟨q,21,none⟩=some (.slice Ao M.objects.length ko)∧w'.cell? ⟨z,B+k*2+0,none⟩=some (.int .u8 ((M.objects.getD k ⟨0,[]⟩).id))∧w'.cell? ⟨z,B+k*2+1,none⟩=some (.slice K ((M.objects.getD k ⟨0,[]⟩).value.length) N)) fun ba j=>?_
 have P:=ub j I
 have Q:=aG J j
 have D:=ub Q O
 refine bj ⟨(ah P rfl),(fM D d 0 rfl (by decide)),(fM D d 1 rfl (by decide))⟩ fun a=>Rt 0 a<|Rt 1 a<|Rl 2 a (fun _ hs=>hs.1)<|Rt 3 a<|Ri 4 a 2 M.objects.length k ((k:Nat) : Int) rfl C (by omega)<|Rt 5 a<|Rl 6 a (fun _ hs=>hs.2.1)<|Rt 7 a<|Rl 8 a (fun _ hs=>hs.1)<|Rt 9 a<|Ri 10 a 2 M.objects.length k ((k:Nat) : Int) rfl C (by omega)<|Rt 11 a<|Rl 12 a (fun _ hs=>hs.2.2)<|?_
 refine Rt 13 a<|Rt 14 a<|R0 15 rfl<|cK (m:=2) (e:=5) #[.int .u8 ((M.objects.getD k ⟨0,[]⟩).id),.int .u8 ((((M.objects.getD k ⟨0,[]⟩).value.length:Nat) : Int)%256)] fun bb bc aK aL f=>?_
 have aO:=cN aK (xs:=[(M.objects.getD k ⟨0,[]⟩).id,((((M.objects.getD k ⟨0,[]⟩).value.length:Nat) : Int)%256)]) (by as_aux_lemma=>kernel_rfl) (am (by omega) (am (by omega) aJ)) (by(try simp only[List.length_cons,List.length_nil]);omega) aL
 have R:=ub f P
 have E:=ub f D
 refine bj ⟨(ah R rfl),(fM E d 0 rfl (by decide)),(fM E d 1 rfl (by decide))⟩ fun bd=>?_
 have S:=aG j f
 refine R0 16 rfl<|bE aV (xs:=L) (ys:=([(M.objects.getD k ⟨0,[]⟩).id,((((M.objects.getD k ⟨0,[]⟩).value.length:Nat) : Int)%256)])) (.int .u8 0) 1 (aq i S (fun x hx=>aA) (fun _ _ h=>h)) (aO).rd (by(try simp only[List.length_append,List.length_cons,List.length_nil,ay]);omega) (le (le (le t.size y) j.size) f.size) fun T be bg U l=>?_
 have V:=aF.blk l (bf (aB (au b) lr i) aA) R
 have F:=aF.blk l (bf (aB (au O) c.size i) aA) E
 refine bj ⟨(ah V rfl),(fM F d 0 rfl (by decide)),(fM F d 1 rfl (by decide))⟩ fun aR=>Rt 17 aR<|re<|tn<|go<|Pl 2<|L0<|aP V 21<|Pl 1<|L0<|nf 2 M.objects.length k C (by omega)<|Pl 1<|L0<|ez (p:=⟨z,B+k*2+1,none⟩) (v:=.slice K ((M.objects.getD k ⟨0,[]⟩).value.length) N) (fM F d 1 rfl (by decide))<|?_
 refine L0<|bE aV (xs:=(L++[(M.objects.getD k ⟨0,[]⟩).id,((((M.objects.getD k ⟨0,[]⟩).value.length:Nat) : Int)%256)])) (ys:=((M.objects.getD k ⟨0,[]⟩).value)) (.int .u8 0) 1 U (bh.old aI (ut Q (ut (aF.mono (S':=(ob A++[])) f av) l (al il av)) (al (aM i c.size) av))) (by(try simp only[List.length_append,List.length_cons,List.length_nil,ay]);omega) (le (le (le (le t.size y) j.size) f.size) l.size) fun aS aT bi aU W=>Pl 1<|nl<|bn<|tn<|go<|Pl 1<|L0<|Oi (((k:Nat) : Int)+1)<|Pl 1<|nl<|?_
 exact gM ((k+1),((L++[(M.objects.getD k ⟨0,[]⟩).id,((((M.objects.getD k ⟨0,[]⟩).value.length:Nat) : Int)%256)])++(M.objects.getD k ⟨0,[]⟩).value),aS,aT) ⟨(ut u (ut (aF.mono (S':=(ob A++(ob T++[]))) S av) (ut (aF.mono (S':=(ob A++(ob T++[]))) l (al il av)) W (al il av)) (al il (al il av))) (al (aM i lr) (al (aM U lr) av))),(le (le (le (le y j.size) f.size) l.size) W.size),aU,(by(try dsimp only);omega),(by(try dsimp only);rw[← hL,ms  M.objects k (by omega)];simp only[List.append_assoc]),(by(try dsimp only);have hv:=hf.objv _ (dj ⟨0,[]⟩ M.objects k (by omega));(try simp only[List.length_append,List.length_cons,List.length_nil,ay]);omega),(by(try dsimp only);(try simp only[List.length_append,List.length_cons,List.length_nil]);omega)⟩ (by omega)
 have aH:=of_decide_eq_false o
 refine xt<|tx<|tx<|bx<|tn<|sg<|Pl 2<|nt<|rt<|rr (.slice A L.length cp)<|?_
 have hk:k=M.objects.length:=by omega
 rw[hk,List.drop_length] at hL
 have hL2:L=([M.mei,M.kind,M.level,M.more,M.next,(((M.objects.length:Nat) : Int)%256)])++eY M.objects:=by rw[← hL];simp[eY]
 have hs:fe dir M=L:=by
   rw[hL2]
   unfold fe
   (try simp only[g,n,o,bs,if_true,if_false,decide_true,decide_false,reduceIte])
   all_goals rfl
 rw[hs]
 exact⟨_,rfl,(aW.weaken i c.size),J⟩
end Go.Proofs.YtogbnemojakcpaaGreat
