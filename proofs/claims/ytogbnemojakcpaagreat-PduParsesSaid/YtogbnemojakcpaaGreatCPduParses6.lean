/- Contracts of functions, part CPduParses6. -/
import Derived.Test.YtogbnemojakcpaaGreatCPduParses1
import Derived.Test.YtogbnemojakcpaaGreatCPduParses2
import Derived.Test.YtogbnemojakcpaaGreatCPduParses3
import Derived.Test.YtogbnemojakcpaaGreatCPduParses4
import Derived.Test.YtogbnemojakcpaaGreatCPduParses5
set_option linter.unusedVariables false
set_option linter.unusedSimpArgs false
set_option maxRecDepth 100000
set_option maxHeartbeats 4000000
namespace Go.Proofs.YtogbnemojakcpaaGreat
open Go.RowKit
theorem RC.safe{w0:World}{m:Md}{A:Option Addr}{cp:Nat}{full:List Int}{w:World}{g:Nat}{C:aa}(h:RC w0 m A cp full w g C)(D:List TypeId)(hD:159∉D) : cU true D [g] w:=by
  obtain⟨k,h1,_⟩:=h.cell
  exact cU.one h1 hD
theorem RC.nrow{α:Type}{base sz n c:Nat}{e:TypeId}{R:World→α→List Value→Prop}{B:Option Addr}{xs:List α}{w0:World}{m:Md}{A:Option Addr}{cp:Nat}{full:List Int}{w:World}{g:Nat}{C:aa}(h:RC w0 m A cp full w g C)(ho:bf base e sz R w (.slice B n c) xs)(ht:(159==e)=false) : g∉ob B:=by
  obtain⟨k,h1,_⟩:=h.cell
  exact dl h1 ho ht
theorem RC.fld2{w0:World}{m:Md}{A:Option Addr}{cp:Nat}{full:List Int}{w:World}{g:Nat}{C:aa}(h:RC w0 m A cp full w g C) : w.cell? ⟨g,2,none⟩=some (.bool C.sh):=by
  obtain⟨k,h1,_⟩:=h.cell
  rw[bv h1]
  rfl
def rR (w0:World)(m:Md)(A:Option Addr)(cp:Nat)(full:List Int)(g:Nat)(C':aa)(r:de)(w:World)(e:Ending)(w':World) : Prop:=e = .returned (.agg #[.int .u16 r.file,.int .u16 r.record,.int .u16 r.count,.slice none 0 0])∧dx r.file∧dx r.record∧dx r.count∧RC w0 m A cp full w' g C'∧aE [g] w w'
theorem jY{x:Int}(h : -1≤x∧x≤255) : 0≤Int.tdiv x 2∧Int.tdiv x 2≤127:=by
  by_cases h0:x = -1
  · subst h0;decide
  · rw[Int.tdiv_eq_ediv_of_nonneg (by omega)]
    omega
theorem fX{one:Int→aa→Int × aa × de}{n:Nat}{s:Int}{C:aa}{L:List de}{R:aa × List de}(h3:(C.e=0∧C.l.length≤n∧aN one n s C L=R)∨(C.e≠0∧R.1=C))(hc:0<C.l.length)(he:C.e=0)(hlt:(one s C).2.1.l.length<C.l.length) :
    ((one s C).2.1.e=0∧(one s C).2.1.l.length≤n-1∧aN one (n-1) (one s C).1 (one s C).2.1 (L++[(one s C).2.2])=R)∨((one s C).2.1.e≠0∧R.1=(one s C).2.1):=by
  rcases h3 with⟨_,hn,hR⟩|⟨h,_⟩
  · obtain⟨k,rfl⟩ : ∃ k,n=k+1:=⟨n-1,by omega⟩
    unfold aN at hR
    rw[if_pos (by rw[he];simpa using hc)] at hR
    by_cases hz:(one s C).2.1.e=0
    · rw[if_neg (by rw[hz];decide)] at hR
      exact .inl ⟨hz,by omega,hR⟩
    · rw[if_pos (by simpa using hz)] at hR
      exact .inr ⟨hz,by rw[← hR]⟩
  · exact absurd he h
theorem eJ{one:Int→aa→Int × aa × de}{n:Nat}{s:Int}{C:aa}{L:List de}{R:aa × List de}(h3:(C.e=0∧C.l.length≤n∧aN one n s C L=R)∨(C.e≠0∧R.1=C))(hq:(decide (0<((C.l.length:Nat) : Int))&&C.e==0)=false) : R.1.e=C.e∧(C.e=0→R.2=L):=by
  rcases h3 with⟨he,hn,hR⟩|⟨h,h2⟩
  · rw[fs one n s C L hq] at hR
    rw[← hR]
    exact⟨rfl,fun _=>rfl⟩
  · rw[h2]
    exact⟨rfl,fun h3=>absurd h3 h⟩
def f7 (R:aa × List de)(w:World)(e:Ending)(w':World) : Prop:=∃ A2 n2 c2,e = .returned (.tuple #[.slice A2 n2 c2,.int .i64 (bq R.1.e)])∧(bq R.1.e=0→bf w.heap.size 109 4 (bt true) w' (.slice A2 n2 c2) R.2)∧aE [] w w'
theorem iz{f:FuncId}{args:Array Value}{R:aa × List de}{w:World}(h:Calls Tryz.prog f args w (f7 R w))(h0:bq R.1.e=0) : Calls Tryz.prog f args w (fun e w'=>∃ v,e = .returned (.tuple #[v,.int .i64 0])∧bf w.heap.size 109 4 (bt true) w' v R.2∧aE [] w w'):=by
  refine h.mono ?_
  rintro e w' ⟨A2,n2,c2,rfl,h1,h2⟩
  exact⟨_,by rw[h0],h1 h0,h2⟩
theorem gZ{f:FuncId}{args:Array Value}{R:aa × List de}{w:World}(h:Calls Tryz.prog f args w (f7 R w)) : Calls Tryz.prog f args w (fun e w'=>∃ A2 n2 c2,e = .returned (.tuple #[.slice A2 n2 c2,.int .i64 (bq R.1.e)])∧aE [] w w'):=by
  refine h.mono ?_
  rintro e w' ⟨A2,n2,c2,rfl,h1,h2⟩
  exact⟨A2,n2,c2,rfl,h2⟩
theorem rU{w0:World}{m:Md}{A:Option Addr}{cp:Nat}{full:List Int}{w:World}{g:Nat}{C:aa}(hC:RC w0 m A cp full w g C) : Calls Tryz.prog 218 #[.pointer (some ⟨g,0,none⟩)] w (rR w0 m A cp full g (dt C) (aL C) w):=by
 have hr:gQ C:=RC.rng hC
 refine en 42 Tryz.func218 rfl<|sg<|L0<|bK #[.int .u16 0,.int .u16 0,.int .u16 0,.slice none 0 0] fun N O b i a=>ng<|Pl 1<|?_
 refine L0<|Oc<|m3 (dB (RC.upd hC a ay (aE.step (RC.u hC) a))) fun P c j Q=>Pl 1<|ng<|Pl 4<|L0<|ec (p:=⟨g,2,none⟩) (v:=.bool ((C.bytesC 1).sh)) (RC.fld2 c)<|Pl 1<|L0<|Oc<|m2 (aU ((!((C.bytesC 1).sh))) 5 c) fun R k l=>ng<|?_
 refine Pl 3<|L0<|Oc<|m2 (aU ((C.byteV==6)) 9 k) fun S n o=>?_
 refine eX n fun x26 q r=>?_
 refine ng<|Pl 1<|L0<|Oc<|m3 (cK r) fun T s t U=>Pl 1<|ng<|Pl 3<|L0<|Oc<|m2 (aU ((decide (0<x26.wordV))) 6 s) fun V y z=>nl<|?_
 refine tn<|sg<|Pl 1<|L0<|Oc<|m3 (cK y) fun W B D X=>Pl 1<|ng<|Pl 3<|L0<|Oc<|m2 (aU ((decide ((((x26.wordsC 1).need (decide (0<x26.wordV)) 6).wordV)≤9999))) 7 B) fun Y E F=>?_
 refine eX E fun x43 G H=>?_
 refine ng<|Pl 1<|L0<|Oc<|m3 (cK H) fun Z I J a0=>Pl 1<|ng<|Pl 3<|L0<|Oc<|m2 (aU ((decide (0<x43.wordV))) 5 I) fun a1 K L=>nl<|?_
 refine tn<|sg<|Pl 4<|?_
 have d:=u1 j (u1 l (u1 o (u1 t (u1 z (u1 D (u1 F (u1 J L im) im) im) im) im) im) im) im
 have e:=nb (RC.lt hC) lr b
 refine L0<|b7 (aT d (Ne.symm e) i) #[.int .u16 x26.wordV,.int .u16 (((x26.wordsC 1).need (decide (0<x26.wordV)) 6).wordV),.int .u16 x43.wordV,.slice none 0 0] fun a2 M f=>nt<|rt<|sZ M<|?_
 subst G q
 have e1:dt C=(((((((((C.bytesC 1).need (!((C.bytesC 1).sh)) 5).need (C.byteV==6) 9).wordsC 1).need (decide (0<(((C.bytesC 1).need (!((C.bytesC 1).sh)) 5).need (C.byteV==6) 9).wordV)) 6).wordsC 1).need (decide (((((((C.bytesC 1).need (!((C.bytesC 1).sh)) 5).need (C.byteV==6) 9).wordsC 1).need (decide (0<(((C.bytesC 1).need (!((C.bytesC 1).sh)) 5).need (C.byteV==6) 9).wordV)) 6).wordV)≤9999)) 7).wordsC 1).need (decide (0<(((((((C.bytesC 1).need (!((C.bytesC 1).sh)) 5).need (C.byteV==6) 9).wordsC 1).need (decide (0<(((C.bytesC 1).need (!((C.bytesC 1).sh)) 5).need (C.byteV==6) 9).wordV)) 6).wordsC 1).need (decide (((((((C.bytesC 1).need (!((C.bytesC 1).sh)) 5).need (C.byteV==6) 9).wordsC 1).need (decide (0<(((C.bytesC 1).need (!((C.bytesC 1).sh)) 5).need (C.byteV==6) 9).wordV)) 6).wordV)≤9999)) 7).wordV)) 5):=by rw[← nO hr];rfl
 have e2:(aL C).file=(((C.bytesC 1).need (!((C.bytesC 1).sh)) 5).need (C.byteV==6) 9).wordV:=by show(gB C).wordV=_;rw[← oX];rfl
 have e3:(aL C).record=(((((C.bytesC 1).need (!((C.bytesC 1).sh)) 5).need (C.byteV==6) 9).wordsC 1).need (decide (0<(((C.bytesC 1).need (!((C.bytesC 1).sh)) 5).need (C.byteV==6) 9).wordV)) 6).wordV:=by show(gC C).wordV=_;rw[← pX hr];rfl
 have e4:(aL C).count=(((((((C.bytesC 1).need (!((C.bytesC 1).sh)) 5).need (C.byteV==6) 9).wordsC 1).need (decide (0<(((C.bytesC 1).need (!((C.bytesC 1).sh)) 5).need (C.byteV==6) 9).wordV)) 6).wordsC 1).need (decide (((((((C.bytesC 1).need (!((C.bytesC 1).sh)) 5).need (C.byteV==6) 9).wordsC 1).need (decide (0<(((C.bytesC 1).need (!((C.bytesC 1).sh)) 5).need (C.byteV==6) 9).wordV)) 6).wordV)≤9999)) 7).wordV:=by show(l9 C).wordV=_;rw[← pu hr];rfl
 have h:=ue a (us d f) b
 unfold rR
 rw[e1,e2,e3,e4]
 exact⟨rfl,aB (by omega),aB (by omega),aB (by omega),(RC.upd K f (ae e ay) (hC.u.trans' h (fun x hx=>.inr (by simp at hx;subst hx;exact hC.new)))),h⟩
theorem pg{m:Md}{A:Option Addr}{cp:Nat}{b:List Int}{w:World}(hsl:bi m w (.slice A b.length cp) b)(hb:b.length≤1048576) :
    Calls Tryz.prog 163 #[.int .i64 0,.int .u8 20,.slice A b.length cp] w (f7 (aN cL b.length 0 ⟨b,false,0⟩ []) w):=by
 have hln:(b.length:Int)≤1048576:=by omega
 refine en 108 Tryz.func163 rfl<|sg<|Pl 2<|ng<|Pl 2<|L0<|du #[.slice A b.length cp,.int .i64 0,.bool false,.int .i64 0] fun d U E a8 F=>Pl 1<|nt<|sq<|?_
 refine go<|Pl 1<|ng<|Pl 1<|nt<|sq<|bk<|?_
 have V:RC w _ A cp b U d (aa.mk b false 0):=⟨hsl,F,E,⟨0,a8,Nat.zero_le _,rfl⟩,by omega⟩
 refine jc (fun x=>[(0,.int .i64 0),(1,.int .u8 20),(6,.slice none 0 0),(7,.int .i64 0),(8,.pointer (some ⟨d,0,none⟩)),(9,.slice x.2.2.2.1 x.2.2.1.length x.2.2.2.2.1),(10,.int .i64 x.2.2.2.2.2)]) (fun(x:Nat × aa × List de × Option Addr × Nat × Int) w'=>aE [] w w'∧U.heap.size≤w'.heap.size∧RC w m A cp b w' d x.2.1∧bf w.heap.size 109 4 (bt true) w' (.slice x.2.2.2.1 x.2.2.1.length x.2.2.2.2.1) x.2.2.1∧(0≤x.2.2.2.2.2)∧(x.2.1.e=0→x.2.2.2.2.2≤245)∧(x.2.2.1.length+x.2.1.l.length≤b.length)∧((x.2.1.e=0∧x.2.1.l.length≤x.1∧aN cL x.1 x.2.2.2.2.2 x.2.1 x.2.2.1=aN cL b.length 0 ⟨b,false,0⟩ [])∨(x.2.1.e≠0∧(aN cL b.length 0 ⟨b,false,0⟩ []).1=x.2.1))) (fun x=>x.2.1.l.length) (b.length,(aa.mk b false 0),[],none,0,0) ⟨F,lr,V,(bf.nil w.heap.size _ _ (bt true) _),(by(try dsimp only);omega),(fun _=>(show(0:Int)≤245 from by decide)),(by(try dsimp only);simp),.inl ⟨rfl,Nat.le_refl _,rfl⟩⟩ ?_
 rintro⟨n,C,L,B,cq,s⟩ W ⟨a9,G,ab,ad,af,ag,ah,ai⟩
 refine jf [(0,.int .i64 0),(1,.int .u8 20),(6,.slice none 0 0),(7,.int .i64 0),(8,.pointer (some ⟨d,0,none⟩)),(9,.slice B L.length cq),(10,.int .i64 s)] ?_
 have a:RC w m A cp b W d C:=ab
 have hlC:=RC.clen a
 have hrC:gQ C:=RC.rng a
 have i:bf w.heap.size 109 4 (bt true) W (.slice B L.length cq) L:=ad
 have aP:0≤s:=af
 have aQ:C.e=0→s≤245:=ag
 have aS:L.length+C.l.length≤b.length:=ah
 have H:(C.e=0∧C.l.length≤n∧aN cL n s C L=aN cL b.length 0 ⟨b,false,0⟩ [])∨(C.e≠0∧(aN cL b.length 0 ⟨b,false,0⟩ []).1=C):=ai
 refine sq<|sg<|Pl 1<|L0<|Oc<|m1 (gl a) fun aX c=>?_
 have aY:=RC.clen a
 refine Pl 2<|cu 6 [20] 26 (((decide (0<((C.l.length:Nat) : Int)))&&(C.e==0))) (fun K X=>?_) ?_
 refine bl 20 ((decide (0<((C.l.length:Nat) : Int)))) (fun j=>?_) (fun j=>?_)
 have aj:=of_decide_eq_true j
 refine Pl 3<|?_
 exact L1<|ec (p:=⟨d,3,none⟩) (v:=.int .i64 C.e) (RC.fld (RC.upd a c ay (aE.step (RC.u a) c)))<|Pl 2<|ce X (C.e==0) (by rw[j];rfl)
 have aj:=of_decide_eq_false j
 exact Pl 6<|ce X false (by rw[j];rfl)
 refine nt<|?_
 have I:=aI a9 c
 refine cb (((decide (0<((C.l.length:Nat) : Int)))&&(C.e==0))) (fun f=>?_) (fun f=>?_)
 have J:=(aW f).1
 have M:=(aW f).2
 have aZ:=of_decide_eq_true J
 have b0:=am M
 refine bz<|bk<|sg<|Pl 1<|L0<|bK #[.int .u16 0,.int .u16 0,.int .u16 0,.slice none 0 0] fun b1 b2 k ak N=>L0<|b7 ak #[.int .u16 0,.int .u16 0,.int .u16 0,.slice none 0 0] fun b3 an O=>nt<|sq<|sg<|Pl 6<|nl<|?_
 refine tn<|c0<|sg<|Pl 1<|?_
 have Y:=ud N O k
 have r:=aI c Y
 refine L0<|Oc<|m5 (rU (RC.upd a r ay (aE.step (RC.u a) r))) fun b4 ao ar av aw t=>?_
 obtain⟨b5,b6⟩:=ao
 obtain⟨b8,b9⟩:=ar
 obtain⟨ba,bb⟩:=av
 have P:=nb (RC.lt V) (le G c.size) k
 refine L0<|b7 (aT t (Ne.symm P) an) #[.int .u16 ((aL C).file),.int .u16 ((aL C).record),.int .u16 ((aL C).count),.slice none 0 0] fun bc Z y=>ng<|Pl 2<|nt<|c0<|sg<|Pl 1<|L0<|Oi (s+2)<|Pl 1<|L0<|aR Z 2<|?_
 refine L0<|Oi ((aL C).count)<|L0<|Oi (2*((aL C).count))<|L0<|Oi ((s+2)+(2*((aL C).count)))<|Pl 1<|nt<|go<|Pl 3<|?_
 have Q:=us t y
 have a0:=ud I (ue Y Q k) E
 refine L0<|Oc<|m2 (aU ((decide (((s+2)+(2*((aL C).count)))≤245))) 5 (RC.upd aw y (ae P ay) a0)) fun bd az o=>?_
 refine eX az fun x68 aA a1=>?_
 refine nt<|go<|Pl 1<|?_
 refine L0<|bZ (aT o (Ne.symm P) Z)<|L0<|dv (m:=1) (e:=109) #[.int .u16 ((aL C).file),.int .u16 ((aL C).record),.int .u16 ((aL C).count),.slice none 0 0] fun be bg bm aD z=>?_
 have aF:=ik (R:=bt true) (x:=(de.mk ((aL C).file) ((aL C).record) ((aL C).count) ([]))) aD rfl ⟨_,rfl,(aK.nil true _ _ _ _),aB (x:=(aL C).file) (by omega),aB (x:=(aL C).record) (by omega),aB (x:=(aL C).count) (by omega)⟩
 have a2:=aI o z
 have a3:=ue r (u1 Q a2 im) (le c.size k)
 have a4:=ax i a3 (fun x hx=>(ae (fun e=>(RC.nrow a i (by decide)) (e▸hx)) ay)) (bt.upd16 a3 (al (RC.safe a _ (by decide)) aG))
 refine L0<|fI (xs:=L) (ys:=([(de.mk ((aL C).file) ((aL C).record) ((aL C).count) ([]))])) (.agg #[.int .u16 0,.int .u16 0,.int .u16 0,.slice none 0 0]) 4 32 a4 aF (by simp) bt.ones (fun w' hv=>bt.upd16 hv (cM (d9 _ a4 (by decide)) aG)) (by(try simp only[List.length_append,List.length_cons,List.length_nil,aC]);omega) (le (le (le (le (le (le (le (le F.size G) c.size) N.size) O.size) t.size) y.size) o.size) z.size) fun aH aJ bo aM S=>Pl 1<|nl<|bn<|?_
 subst aA
 have hC2:(cL s C).2.1=((dt C).need (decide (((s+2)+(2*((aL C).count)))≤245)) 5):=by show eo s C=_;(try simp only[eo,e9,← Int.add_assoc,f,J,M,bs,if_true,if_false,decide_true,decide_false]);all_goals rfl
 have hM2:[(cL s C).2.2]=[(de.mk ((aL C).file) ((aL C).record) ((aL C).count) ([]))]:=by show[aL C]=_;(try simp only[eo,e9,← Int.add_assoc,f,J,M,bs,if_true,if_false,decide_true,decide_false]);all_goals rfl
 have hS2:(cL s C).1=((s+2)+(2*((aL C).count))):=by(try (show e9 s C=_));(try simp only[e9,← Int.add_assoc]);all_goals rfl
 have hlt:=nm s C (by omega)
 have h9:=fX (one:=cL) H (by omega) (by omega) hlt
 rw[hC2,hM2,hS2] at h9
 rw[hC2] at hlt
 have a5:=ut a0 (ut (aE.mono (S':=(d :: (ob B++[]))) a2 (ac im aq)) S (au il aq)) (ac (nr E) (au (aV i lr) aq))
 have a6:=ue r (u1 Q o im) (le c.size k)
 exact gf ((n-1),((dt C).need (decide (((s+2)+(2*((aL C).count)))≤245)) 5),(L++[(de.mk ((aL C).file) ((aL C).record) ((aL C).count) ([]))]),aH,aJ,((s+2)+(2*((aL C).count)))) ⟨a5,(le (le (le (le (le (le (le (le G c.size) N.size) O.size) t.size) y.size) o.size) z.size) S.size),(RC.upd a1 (ut (aE.mono (S':=(ob B++[])) z aq) S (au il aq)) (bj (RC.nrow a1 (ax i a6 (fun x hx=>(ae (fun e=>(RC.nrow a i (by decide)) (e▸hx)) ay)) (bt.upd16 a6 (al (RC.safe a _ (by decide)) aG))) (by decide)) ay) a5),aM,(by(try dsimp only);omega),(by(try dsimp only);intro he;have hk:=(p4 (by decide) he).2;simp only[decide_eq_true_eq] at hk;omega),(by(try dsimp only);simp only[List.length_append,List.length_cons,List.length_nil];omega),h9⟩ (by omega)
 refine xt<|tx<|tx<|bx<|tn<|sq<|sg<|Pl 3<|?_
 have T:=RC.upd a c ay (aE.step (RC.u a) c)
 refine L0<|ec (p:=⟨d,3,none⟩) (v:=.int .i64 C.e) (RC.fld T)<|Pl 1<|nt<|cb ((C.e==2)) (fun q=>?_) (fun q=>?_)
 have aO:=am q
 refine sg<|Pl 2<|nt<|rt<|tr<|rr (.tuple #[.slice none 0 0,.int .i64 5])<|?_
 obtain⟨gB,gC⟩:=eJ H f
 have hw:bq (aN cL b.length 0 ⟨b,false,0⟩ []).1.e=5:=by unfold bq;rw[gB,if_pos q]
 refine⟨none,0,0,by rw[hw],fun h=>absurd (hw.symm.trans h) (by decide),I⟩
 have aO:=ap q
 refine bz<|sq<|Rg 7 (fun w'=>w'.cell? ⟨d,3,none⟩=some (.int .i64 C.e)) fun bp D=>?_
 refine bh (RC.fld (RC.upd T D ay (aE.step (RC.u T) D))) fun g=>Rt 0 g<|Rt 1 g<|Rt 2 g<|Rt 3 g<|Rl 4 g (fun _ hs=>hs)<|Rt 5 g<|Rt 6 g<|re<|tn<|rt<|rr (.tuple #[.slice B L.length cq,.int .i64 C.e])<|?_
 obtain⟨gB,gC⟩:=eJ H f
 have hw:bq (aN cL b.length 0 ⟨b,false,0⟩ []).1.e=C.e:=by unfold bq;rw[gB,if_neg (by rw[q];decide)]
 have a7:=aI c D
 refine⟨_,_,_,by rw[hw],fun h=>by rw[gC (hw.symm.trans h)];exact(ax i a7 (fun x hx=>ay) (bt.upd16 a7 aG)),(aI I D)⟩
theorem pf{m:Md}{A:Option Addr}{cp:Nat}{b:List Int}{w:World}(hsl:bi m w (.slice A b.length cp) b)(hb:b.length≤1048576) :
    Calls Tryz.prog 163 #[.int .i64 1,.int .u8 20,.slice A b.length cp] w (f7 (aN bG b.length 0 ⟨b,false,0⟩ []) w):=by
 have hln:(b.length:Int)≤1048576:=by omega
 refine en 108 Tryz.func163 rfl<|sg<|Pl 2<|ng<|Pl 2<|L0<|du #[.slice A b.length cp,.int .i64 0,.bool false,.int .i64 0] fun f ah M b9 N=>Pl 1<|nt<|sq<|?_
 refine go<|Pl 1<|ng<|Pl 1<|nt<|sq<|bk<|?_
 have Z:RC w _ A cp b ah f (aa.mk b false 0):=⟨hsl,N,M,⟨0,b9,Nat.zero_le _,rfl⟩,by omega⟩
 refine jc (fun x=>[(0,.int .i64 1),(1,.int .u8 20),(6,.slice none 0 0),(7,.int .i64 0),(8,.pointer (some ⟨f,0,none⟩)),(9,.slice x.2.2.2.1 x.2.2.1.length x.2.2.2.2.1),(10,.int .i64 x.2.2.2.2.2)]) (fun(x:Nat × aa × List de × Option Addr × Nat × Int) w'=>aE [] w w'∧ah.heap.size≤w'.heap.size∧RC w m A cp b w' f x.2.1∧bf w.heap.size 109 4 (bt true) w' (.slice x.2.2.2.1 x.2.2.1.length x.2.2.2.2.1) x.2.2.1∧(0≤x.2.2.2.2.2)∧(x.2.1.e=0→x.2.2.2.2.2≤245)∧(x.2.2.1.length+x.2.1.l.length≤b.length)∧((x.2.1.e=0∧x.2.1.l.length≤x.1∧aN bG x.1 x.2.2.2.2.2 x.2.1 x.2.2.1=aN bG b.length 0 ⟨b,false,0⟩ [])∨(x.2.1.e≠0∧(aN bG b.length 0 ⟨b,false,0⟩ []).1=x.2.1))) (fun x=>x.2.1.l.length) (b.length,(aa.mk b false 0),[],none,0,0) ⟨N,lr,Z,(bf.nil w.heap.size _ _ (bt true) _),(by(try dsimp only);omega),(fun _=>(show(0:Int)≤245 from by decide)),(by(try dsimp only);simp),.inl ⟨rfl,Nat.le_refl _,rfl⟩⟩ ?_
 rintro⟨n,C,L,B,cq,s⟩ ai ⟨ba,r,bb,bc,bd,be,bg,bm⟩
 refine jf [(0,.int .i64 1),(1,.int .u8 20),(6,.slice none 0 0),(7,.int .i64 0),(8,.pointer (some ⟨f,0,none⟩)),(9,.slice B L.length cq),(10,.int .i64 s)] ?_
 have a:RC w m A cp b ai f C:=bb
 have hlC:=RC.clen a
 have hrC:gQ C:=RC.rng a
 have d:bf w.heap.size 109 4 (bt true) ai (.slice B L.length cq) L:=bc
 have bY:0≤s:=bd
 have c0:C.e=0→s≤245:=be
 have c2:L.length+C.l.length≤b.length:=bg
 have O:(C.e=0∧C.l.length≤n∧aN bG n s C L=aN bG b.length 0 ⟨b,false,0⟩ [])∨(C.e≠0∧(aN bG b.length 0 ⟨b,false,0⟩ []).1=C):=bm
 refine sq<|sg<|Pl 1<|L0<|Oc<|m1 (gl a) fun c3 c=>?_
 have c4:=RC.clen a
 refine Pl 2<|cu 6 [20] 26 (((decide (0<((C.l.length:Nat) : Int)))&&(C.e==0))) (fun K aj=>?_) ?_
 refine bl 20 ((decide (0<((C.l.length:Nat) : Int)))) (fun z=>?_) (fun z=>?_)
 have bo:=of_decide_eq_true z
 refine Pl 3<|?_
 exact L1<|ec (p:=⟨f,3,none⟩) (v:=.int .i64 C.e) (RC.fld (RC.upd a c ay (aE.step (RC.u a) c)))<|Pl 2<|ce aj (C.e==0) (by rw[z];rfl)
 have bo:=of_decide_eq_false z
 exact Pl 6<|ce aj false (by rw[z];rfl)
 refine nt<|?_
 have D:=aI ba c
 refine cb (((decide (0<((C.l.length:Nat) : Int)))&&(C.e==0))) (fun g=>?_) (fun g=>?_)
 have E:=(aW g).1
 have F:=(aW g).2
 have c5:=of_decide_eq_true E
 have c6:=am F
 refine bz<|bk<|sg<|Pl 1<|L0<|bK #[.int .u16 0,.int .u16 0,.int .u16 0,.slice none 0 0] fun P c7 j a0 G=>L0<|b7 a0 #[.int .u16 0,.int .u16 0,.int .u16 0,.slice none 0 0] fun c8 an k=>nt<|sq<|sg<|Pl 6<|nl<|?_
 refine tn<|c1<|sg<|Pl 1<|?_
 have ao:=ud G k j
 have t:=aI c ao
 refine L0<|Oc<|m3 (dB (RC.upd a t ay (aE.step (RC.u a) t))) fun c9 H i ca=>L0<|Oi C.byteV<|Pl 1<|ng<|Pl 2<|L0<|Oe (.int .i64 (Int.tmod C.byteV 2)) (.int .i64 (C.byteV%2)) (congrArg (Value.int .i64) (Int.tmod_eq_emod_of_nonneg (by omega)))<|Pl 2<|cu 3 [41] 44 ((((C.byteV%2)==1)&&(decide (3≤C.byteV)))) (fun K ar=>?_) ?_
 refine bl 41 (((C.byteV%2)==1)) (fun I=>?_) (fun I=>?_)
 have bp:=am I
 exact Pl 3<|ce ar (decide (3≤C.byteV)) (by rw[I];rfl)
 have bp:=ap I
 exact Pl 3<|ce ar false (by rw[I];rfl)
 refine Pl 1<|?_
 have av:=ud D (uz ao i) M
 refine bl 45 ((((C.byteV%2)==1)&&(decide (3≤C.byteV)))) (fun o=>?_) (fun o=>?_)
 have a1:=(aW o).1
 have a2:=(aW o).2
 have cc:=am a1
 have cd:=of_decide_eq_true a2
 refine Pl 2<|L1<|Oc<|m1 (gl H) fun cf y=>?_
 have cg:=RC.clen H
 refine Pl 2<|?_
 refine L0<|Oc<|m2 (aU ((decide (C.byteV≤(((C.bytesC 1).l.length:Nat) : Int)))) 5 (RC.upd H y ay (aE.step (RC.u H) y))) fun ch br Q=>?_
 refine eX br fun x66 bu bv=>?_
 refine ng<|Pl 1<|L0<|Oc<|m3 (dB bv) fun ci bw S cj=>Pl 1<|ng<|Pl 3<|L0<|Oc<|m2 (aU ((x66.byteV==6)) 9 bw) fun ck bA T=>nl<|?_
 refine tn<|go<|Pl 2<|L0<|Oi (C.byteV-1)<|?_
 have cl:=jY (x:=(C.byteV-1)) (by omega)
 refine L0<|Oe (.int .i64 (IntKind.i64.wrap (Int.tdiv (C.byteV-1) 2))) (.int .i64 (Int.tdiv (C.byteV-1) 2)) (congrArg (Value.int .i64) (iO (by omega) (by omega)))<|L0<|Oc<|kY (fa (n:=(Int.tdiv (C.byteV-1) 2)) (by omega) bA) fun aw az cm aD cn co bB a3=>?_
 refine eX bB fun x82 bC aF=>?_
 refine Pl 1<|?_
 have aH:=uz y (u1 Q (u1 S (u1 T a3 im) im) im)
 have a4:=u1 i aH im
 have aJ:=nb (RC.lt Z) (le r c.size) j
 refine L0<|bU (aT a4 (Ne.symm aJ) an) 3 #[.int .u16 0,.int .u16 0,.int .u16 0,.slice aw ((((x66.bytesC 1).need (x66.byteV==6) 9).wordsR (Int.tdiv (C.byteV-1) 2)).length) az] fun cr bD a5=>nt<|go<|Pl 1<|L0<|bZ bD<|L0<|dv (m:=1) (e:=109) #[.int .u16 0,.int .u16 0,.int .u16 0,.slice aw ((((x66.bytesC 1).need (x66.byteV==6) 9).wordsR (Int.tdiv (C.byteV-1) 2)).length) az] fun cs ct cv bE a6=>?_
 have a7:=aI a5 a6
 have bF:=ik (R:=bt true) (x:=(de.mk 0 0 0 (((x66.bytesC 1).need (x66.byteV==6) 9).wordsR (Int.tdiv (C.byteV-1) 2)))) bE rfl ⟨_,rfl,((ax aD a7 (fun x hx=>(ae (fun e=>(aA (ak a0) (le (le (le (le (le k.size i.size) y.size) Q.size) S.size) T.size) aD) (e▸hx)) ay)) (fun _ _ h=>h))).rd,aB (x:=0) (by omega),aB (x:=0) (by omega),aB (x:=0) (by omega)⟩
 have aK:=ue t (us a4 a7) (le c.size j)
 have aL:=ax d aK (fun x hx=>(ae (fun e=>(RC.nrow a d (by decide)) (e▸hx)) ay)) (bt.upd16 aK (al (RC.safe a _ (by decide)) aG))
 refine L0<|fI (xs:=L) (ys:=([(de.mk 0 0 0 (((x66.bytesC 1).need (x66.byteV==6) 9).wordsR (Int.tdiv (C.byteV-1) 2)))])) (.agg #[.int .u16 0,.int .u16 0,.int .u16 0,.slice none 0 0]) 4 32 aL bF (by simp) bt.ones (fun w' hv=>bt.upd16 hv (cM (d9 _ aL (by decide)) aG)) (by(try simp only[List.length_append,List.length_cons,List.length_nil,aC]);omega) (le (le (le (le (le (le (le (le (le (le (le (le N.size r) c.size) G.size) k.size) i.size) y.size) Q.size) S.size) T.size) a3.size) a5.size) a6.size) fun bH bI cw bJ aM=>Pl 1<|nl<|bn<|?_
 subst bC bu
 have hC2:(bG s C).2.1=(((((C.bytesC 1).need (decide (C.byteV≤(((C.bytesC 1).l.length:Nat) : Int))) 5).bytesC 1).need (((C.bytesC 1).need (decide (C.byteV≤(((C.bytesC 1).l.length:Nat) : Int))) 5).byteV==6) 9).wordsC (Int.tdiv (C.byteV-1) 2)):=by show et C=_;(try simp only[et,eg,gj,gg,g,E,F,o,a1,a2,bs,if_true,if_false,decide_true,decide_false]);all_goals rfl
 have hM2:[(bG s C).2.2]=[(de.mk 0 0 0 (((((C.bytesC 1).need (decide (C.byteV≤(((C.bytesC 1).l.length:Nat) : Int))) 5).bytesC 1).need (((C.bytesC 1).need (decide (C.byteV≤(((C.bytesC 1).l.length:Nat) : Int))) 5).byteV==6) 9).wordsR (Int.tdiv (C.byteV-1) 2)))]:=by show[eg C]=_;(try simp only[et,eg,gj,gg,g,E,F,o,a1,a2,bs,if_true,if_false,decide_true,decide_false]);all_goals rfl
 have hS2:(bG s C).1=s:=by(try (show s=_));(try simp only[e9,← Int.add_assoc]);all_goals rfl
 have hlt:=iv s C (by omega)
 have h9:=fX (one:=bG) O (by omega) (by omega) hlt
 rw[hC2,hM2,hS2] at h9
 rw[hC2] at hlt
 have aO:=ut (aE.mono (S':=(P :: (ob B++[]))) a7 (ac im aq)) aM (au il aq)
 have aP:=ut av (ut (aE.mono (S':=(f :: (P :: (ob B++[])))) aH (ac im aq)) aO (ac im (au il aq))) (ac (nr M) (ac (ni D.size j) (au (aV d lr) aq)))
 have aQ:=uz t a4
 exact gf ((n-1),(((((C.bytesC 1).need (decide (C.byteV≤(((C.bytesC 1).l.length:Nat) : Int))) 5).bytesC 1).need (((C.bytesC 1).need (decide (C.byteV≤(((C.bytesC 1).l.length:Nat) : Int))) 5).byteV==6) 9).wordsC (Int.tdiv (C.byteV-1) 2)),(L++[(de.mk 0 0 0 (((((C.bytesC 1).need (decide (C.byteV≤(((C.bytesC 1).l.length:Nat) : Int))) 5).bytesC 1).need (((C.bytesC 1).need (decide (C.byteV≤(((C.bytesC 1).l.length:Nat) : Int))) 5).byteV==6) 9).wordsR (Int.tdiv (C.byteV-1) 2)))]),bH,bI,s) ⟨aP,(le (le (le (le (le (le (le (le (le (le (le (le r c.size) G.size) k.size) i.size) y.size) Q.size) S.size) T.size) a3.size) a5.size) a6.size) aM.size),(RC.upd aF aO (ae aJ (bj (RC.nrow aF (ax d aQ (fun x hx=>(ae (fun e=>(RC.nrow a d (by decide)) (e▸hx)) ay)) (bt.upd16 aQ (al (RC.safe a _ (by decide)) aG))) (by decide)) ay)) aP),bJ,(by(try dsimp only);omega),(by(try dsimp only);intro he;omega),(by(try dsimp only);simp only[List.length_append,List.length_cons,List.length_nil];omega),h9⟩ (by omega)
 refine Pl 5<|L0<|Oc<|m2 (aU (false) 5 H) fun cx bL U=>ng<|Pl 1<|L0<|Oc<|m3 (dB bL) fun cy bM V cz=>Pl 1<|ng<|Pl 3<|L0<|Oc<|m2 (aU (((((C.bytesC 1).need false 5).byteV)==6)) 9 bM) fun cA bN W=>?_
 refine eX bN fun X bO bP=>?_
 refine nt<|go<|Pl 2<|L0<|Oi (C.byteV-1)<|?_
 have cB:=jY (x:=(C.byteV-1)) (by omega)
 refine L0<|Oe (.int .i64 (IntKind.i64.wrap (Int.tdiv (C.byteV-1) 2))) (.int .i64 (Int.tdiv (C.byteV-1) 2)) (congrArg (Value.int .i64) (iO (by omega) (by omega)))<|L0<|Oc<|kY (fa (n:=(Int.tdiv (C.byteV-1) 2)) (by omega) bP) fun aR aS cC aX cD cE aY a8=>Pl 1<|?_
 have aZ:=u1 U (u1 V (u1 W a8 im) im) im
 have a9:=u1 i aZ im
 have b0:=nb (RC.lt Z) (le r c.size) j
 refine L0<|bU (aT a9 (Ne.symm b0) an) 3 #[.int .u16 0,.int .u16 0,.int .u16 0,.slice aR ((X.wordsR (Int.tdiv (C.byteV-1) 2)).length) aS] fun cF bQ ab=>nt<|go<|Pl 1<|L0<|bZ bQ<|L0<|dv (m:=1) (e:=109) #[.int .u16 0,.int .u16 0,.int .u16 0,.slice aR ((X.wordsR (Int.tdiv (C.byteV-1) 2)).length) aS] fun cG cH cI bR ad=>?_
 have af:=aI ab ad
 have bS:=ik (R:=bt true) (x:=(de.mk 0 0 0 (X.wordsR (Int.tdiv (C.byteV-1) 2)))) bR rfl ⟨_,rfl,((ax aX af (fun x hx=>(ae (fun e=>(aA (ak a0) (le (le (le (le k.size i.size) U.size) V.size) W.size) aX) (e▸hx)) ay)) (fun _ _ h=>h))).rd,aB (x:=0) (by omega),aB (x:=0) (by omega),aB (x:=0) (by omega)⟩
 have b1:=ue t (us a9 af) (le c.size j)
 have b2:=ax d b1 (fun x hx=>(ae (fun e=>(RC.nrow a d (by decide)) (e▸hx)) ay)) (bt.upd16 b1 (al (RC.safe a _ (by decide)) aG))
 refine L0<|fI (xs:=L) (ys:=([(de.mk 0 0 0 (X.wordsR (Int.tdiv (C.byteV-1) 2)))])) (.agg #[.int .u16 0,.int .u16 0,.int .u16 0,.slice none 0 0]) 4 32 b2 bS (by simp) bt.ones (fun w' hv=>bt.upd16 hv (cM (d9 _ b2 (by decide)) aG)) (by(try simp only[List.length_append,List.length_cons,List.length_nil,aC]);omega) (le (le (le (le (le (le (le (le (le (le (le N.size r) c.size) G.size) k.size) i.size) U.size) V.size) W.size) a8.size) ab.size) ad.size) fun bT bV cJ bW b3=>Pl 1<|nl<|bn<|?_
 subst bO
 have hC2:(bG s C).2.1=(((((C.bytesC 1).need false 5).bytesC 1).need ((((C.bytesC 1).need false 5).byteV)==6) 9).wordsC (Int.tdiv (C.byteV-1) 2)):=by show et C=_;(try simp only[et,eg,gj,gg,g,E,F,o,bs,if_true,if_false,decide_true,decide_false]);all_goals rfl
 have hM2:[(bG s C).2.2]=[(de.mk 0 0 0 (((((C.bytesC 1).need false 5).bytesC 1).need ((((C.bytesC 1).need false 5).byteV)==6) 9).wordsR (Int.tdiv (C.byteV-1) 2)))]:=by show[eg C]=_;(try simp only[et,eg,gj,gg,g,E,F,o,bs,if_true,if_false,decide_true,decide_false]);all_goals rfl
 have hS2:(bG s C).1=s:=by(try (show s=_));(try simp only[e9,← Int.add_assoc]);all_goals rfl
 have hlt:=iv s C (by omega)
 have h9:=fX (one:=bG) O (by omega) (by omega) hlt
 rw[hC2,hM2,hS2] at h9
 rw[hC2] at hlt
 have b4:=ut (aE.mono (S':=(P :: (ob B++[]))) af (ac im aq)) b3 (au il aq)
 have b5:=ut av (ut (aE.mono (S':=(f :: (P :: (ob B++[])))) aZ (ac im aq)) b4 (ac im (au il aq))) (ac (nr M) (ac (ni D.size j) (au (aV d lr) aq)))
 have b6:=uz t a9
 exact gf ((n-1),(((((C.bytesC 1).need false 5).bytesC 1).need ((((C.bytesC 1).need false 5).byteV)==6) 9).wordsC (Int.tdiv (C.byteV-1) 2)),(L++[(de.mk 0 0 0 (((((C.bytesC 1).need false 5).bytesC 1).need ((((C.bytesC 1).need false 5).byteV)==6) 9).wordsR (Int.tdiv (C.byteV-1) 2)))]),bT,bV,s) ⟨b5,(le (le (le (le (le (le (le (le (le (le (le r c.size) G.size) k.size) i.size) U.size) V.size) W.size) a8.size) ab.size) ad.size) b3.size),(RC.upd aY b4 (ae b0 (bj (RC.nrow aY (ax d b6 (fun x hx=>(ae (fun e=>(RC.nrow a d (by decide)) (e▸hx)) ay)) (bt.upd16 b6 (al (RC.safe a _ (by decide)) aG))) (by decide)) ay)) b5),bW,(by(try dsimp only);omega),(by(try dsimp only);intro he;omega),(by(try dsimp only);simp only[List.length_append,List.length_cons,List.length_nil];omega),h9⟩ (by omega)
 refine xt<|tx<|tx<|bx<|tn<|sq<|sg<|Pl 3<|?_
 have ag:=RC.upd a c ay (aE.step (RC.u a) c)
 refine L0<|ec (p:=⟨f,3,none⟩) (v:=.int .i64 C.e) (RC.fld ag)<|Pl 1<|nt<|cb ((C.e==2)) (fun J=>?_) (fun J=>?_)
 have bX:=am J
 refine sg<|Pl 2<|nt<|rt<|tr<|rr (.tuple #[.slice none 0 0,.int .i64 5])<|?_
 obtain⟨gB,gC⟩:=eJ O g
 have hw:bq (aN bG b.length 0 ⟨b,false,0⟩ []).1.e=5:=by unfold bq;rw[gB,if_pos J]
 refine⟨none,0,0,by rw[hw],fun h=>absurd (hw.symm.trans h) (by decide),D⟩
 have bX:=ap J
 refine bz<|sq<|Rg 7 (fun w'=>w'.cell? ⟨f,3,none⟩=some (.int .i64 C.e)) fun cK Y=>?_
 refine bh (RC.fld (RC.upd ag Y ay (aE.step (RC.u ag) Y))) fun q=>Rt 0 q<|Rt 1 q<|Rt 2 q<|Rt 3 q<|Rl 4 q (fun _ hs=>hs)<|Rt 5 q<|Rt 6 q<|re<|tn<|rt<|rr (.tuple #[.slice B L.length cq,.int .i64 C.e])<|?_
 obtain⟨gB,gC⟩:=eJ O g
 have hw:bq (aN bG b.length 0 ⟨b,false,0⟩ []).1.e=C.e:=by unfold bq;rw[gB,if_neg (by rw[J];decide)]
 have b8:=aI c Y
 refine⟨_,_,_,by rw[hw],fun h=>by rw[gC (hw.symm.trans h)];exact(ax d b8 (fun x hx=>ay) (bt.upd16 b8 aG)),(aI D Y)⟩
theorem pk{m:Md}{A:Option Addr}{cp:Nat}{b:List Int}{w:World}{dir:Int}(hsl:bi m w (.slice A b.length cp) b)(hb:b.length≤1048576) :
    Calls Tryz.prog 163 #[.int .i64 dir,.int .u8 21,.slice A b.length cp] w (f7 (aN cJ b.length 0 ⟨b,false,0⟩ []) w):=by
 have hln:(b.length:Int)≤1048576:=by omega
 refine en 108 Tryz.func163 rfl<|sg<|Pl 2<|ng<|Pl 2<|L0<|du #[.slice A b.length cp,.int .i64 0,.bool false,.int .i64 0] fun d a3 N aF O=>Pl 1<|nt<|sq<|?_
 refine go<|Pl 1<|ng<|Pl 1<|nt<|sq<|bk<|?_
 have a4:RC w _ A cp b a3 d (aa.mk b false 0):=⟨hsl,O,N,⟨0,aF,Nat.zero_le _,rfl⟩,by omega⟩
 refine jc (fun x=>[(0,.int .i64 dir),(1,.int .u8 21),(6,.slice none 0 0),(7,.int .i64 0),(8,.pointer (some ⟨d,0,none⟩)),(9,.slice x.2.2.2.1 x.2.2.1.length x.2.2.2.2.1),(10,.int .i64 x.2.2.2.2.2)]) (fun(x:Nat × aa × List de × Option Addr × Nat × Int) w'=>aE [] w w'∧a3.heap.size≤w'.heap.size∧RC w m A cp b w' d x.2.1∧bf w.heap.size 109 4 (bt true) w' (.slice x.2.2.2.1 x.2.2.1.length x.2.2.2.2.1) x.2.2.1∧(0≤x.2.2.2.2.2)∧(x.2.1.e=0→x.2.2.2.2.2≤245)∧(x.2.2.1.length+x.2.1.l.length≤b.length)∧((x.2.1.e=0∧x.2.1.l.length≤x.1∧aN cJ x.1 x.2.2.2.2.2 x.2.1 x.2.2.1=aN cJ b.length 0 ⟨b,false,0⟩ [])∨(x.2.1.e≠0∧(aN cJ b.length 0 ⟨b,false,0⟩ []).1=x.2.1))) (fun x=>x.2.1.l.length) (b.length,(aa.mk b false 0),[],none,0,0) ⟨O,lr,a4,(bf.nil w.heap.size _ _ (bt true) _),(by(try dsimp only);omega),(fun _=>(show(0:Int)≤245 from by decide)),(by(try dsimp only);simp),.inl ⟨rfl,Nat.le_refl _,rfl⟩⟩ ?_
 rintro⟨n,C,L,B,cq,s⟩ a5 ⟨aH,P,aJ,aK,aM,aO,aP,aQ⟩
 refine jf [(0,.int .i64 dir),(1,.int .u8 21),(6,.slice none 0 0),(7,.int .i64 0),(8,.pointer (some ⟨d,0,none⟩)),(9,.slice B L.length cq),(10,.int .i64 s)] ?_
 have a:RC w m A cp b a5 d C:=aJ
 have hlC:=RC.clen a
 have hrC:gQ C:=RC.rng a
 have j:bf w.heap.size 109 4 (bt true) a5 (.slice B L.length cq) L:=aK
 have bg:0≤s:=aM
 have bm:C.e=0→s≤245:=aO
 have bo:L.length+C.l.length≤b.length:=aP
 have Q:(C.e=0∧C.l.length≤n∧aN cJ n s C L=aN cJ b.length 0 ⟨b,false,0⟩ [])∨(C.e≠0∧(aN cJ b.length 0 ⟨b,false,0⟩ []).1=C):=aQ
 refine sq<|sg<|Pl 1<|L0<|Oc<|m1 (gl a) fun bp c=>?_
 have br:=RC.clen a
 refine Pl 2<|cu 6 [20] 26 (((decide (0<((C.l.length:Nat) : Int)))&&(C.e==0))) (fun K a6=>?_) ?_
 refine bl 20 ((decide (0<((C.l.length:Nat) : Int)))) (fun r=>?_) (fun r=>?_)
 have aS:=of_decide_eq_true r
 refine Pl 3<|?_
 exact L1<|ec (p:=⟨d,3,none⟩) (v:=.int .i64 C.e) (RC.fld (RC.upd a c ay (aE.step (RC.u a) c)))<|Pl 2<|ce a6 (C.e==0) (by rw[r];rfl)
 have aS:=of_decide_eq_false r
 exact Pl 6<|ce a6 false (by rw[r];rfl)
 refine nt<|?_
 have F:=aI aH c
 refine cb (((decide (0<((C.l.length:Nat) : Int)))&&(C.e==0))) (fun g=>?_) (fun g=>?_)
 have S:=(aW g).1
 have T:=(aW g).2
 have bu:=of_decide_eq_true S
 have bv:=am T
 refine bz<|bk<|sg<|Pl 1<|L0<|bK #[.int .u16 0,.int .u16 0,.int .u16 0,.slice none 0 0] fun U bw k a7 V=>L0<|b7 a7 #[.int .u16 0,.int .u16 0,.int .u16 0,.slice none 0 0] fun bA aX G=>nt<|sq<|sg<|Pl 6<|nl<|?_
 refine tn<|c0<|sg<|Pl 1<|?_
 have a8:=ud V G k
 have H:=aI c a8
 refine L0<|Oc<|m5 (rU (RC.upd a H ay (aE.step (RC.u a) H))) fun bB aY aZ b0 b1 t=>?_
 obtain⟨bC,bD⟩:=aY
 obtain⟨bE,bF⟩:=aZ
 obtain⟨bG,bH⟩:=b0
 have y:=nb (RC.lt a4) (le P c.size) k
 refine L0<|b7 (aT t (Ne.symm y) aX) #[.int .u16 ((aL C).file),.int .u16 ((aL C).record),.int .u16 ((aL C).count),.slice none 0 0] fun bI b2 I=>ng<|Pl 2<|nt<|c1<|sq<|Rg 9 (fun w'=>w'.cell? ⟨U,2,none⟩=some (.int .u16 ((aL C).count))) fun bJ z=>?_
 have a9:=ub z b2
 refine bh (ah a9 rfl) fun o=>Rt 0 o<|Rt 1 o<|Rl 2 o (fun _ hs=>hs)<|Rr 3 o (.int .i64 ((aL C).count)) (fun _ _=>cI (.int .i64 (IntKind.i64.wrap ((aL C).count))) (by kernel_rfl) (congrArg (Value.int .i64) (i64_in (by omega))))<|Rr 4 o (.int .i64 (2*((aL C).count))) (fun _ _=>cI (.int .i64 (IntKind.i64.wrap (2*((aL C).count)))) (by kernel_rfl) (congrArg (Value.int .i64) (IntWalk.i64_in _ (by omega))))<|Rt 5 o<|?_
 have ab:=aI I z
 have W:=us t ab
 have ad:=ud F (ue a8 W k) N
 have J:=RC.upd b1 ab (ae y ay) ad
 refine R0 6 rfl<|Oc<|m1 (gl J) fun bL f=>?_
 have bM:=RC.clen J
 have af:=ub f a9
 refine bh (ah af rfl) fun b3=>Rt 7 b3<|?_
 refine R0 8 rfl<|Oc<|m2 (aU ((decide ((2*((aL C).count))≤(((dt C).l.length:Nat) : Int)))) 5 (RC.upd J f ay (aE.step (RC.u J) f))) fun bN b4 q=>?_
 refine eX b4 fun x93 b5 b6=>?_
 have X:=aT q (Ne.symm y) af
 refine bh (ah X rfl) fun bO=>re<|tn<|go<|Pl 2<|L0<|aR X 2<|L0<|Oi ((aL C).count)<|L0<|Oc<|kY (fa (n:=(aL C).count) (by omega) b6) fun ag ai bP aj bQ bR an D=>Pl 1<|?_
 refine L0<|bU (aT D (Ne.symm y) X) 3 #[.int .u16 ((aL C).file),.int .u16 ((aL C).record),.int .u16 ((aL C).count),.slice ag ((x93.wordsR ((aL C).count)).length) ai] fun bS b8 Y=>nt<|go<|Pl 1<|L0<|bZ b8<|L0<|dv (m:=1) (e:=109) #[.int .u16 ((aL C).file),.int .u16 ((aL C).record),.int .u16 ((aL C).count),.slice ag ((x93.wordsR ((aL C).count)).length) ai] fun bT bV bW b9 Z=>?_
 have a0:=aI Y Z
 have ba:=ik (R:=bt true) (x:=(de.mk ((aL C).file) ((aL C).record) ((aL C).count) (x93.wordsR ((aL C).count)))) b9 rfl ⟨_,rfl,((ax aj a0 (fun x hx=>(ae (fun e=>(aA (ak a7) (le (le (le (le (le G.size t.size) I.size) z.size) f.size) q.size) aj) (e▸hx)) ay)) (fun _ _ h=>h))).rd,aB (x:=(aL C).file) (by omega),aB (x:=(aL C).record) (by omega),aB (x:=(aL C).count) (by omega)⟩
 have ao:=uz f (ui q (us D a0))
 have ar:=ue H (ut W ao (ac im (ac im aq))) (le c.size k)
 have av:=ax j ar (fun x hx=>(ae (fun e=>(RC.nrow a j (by decide)) (e▸hx)) ay)) (bt.upd16 ar (al (RC.safe a _ (by decide)) aG))
 refine L0<|fI (xs:=L) (ys:=([(de.mk ((aL C).file) ((aL C).record) ((aL C).count) (x93.wordsR ((aL C).count)))])) (.agg #[.int .u16 0,.int .u16 0,.int .u16 0,.slice none 0 0]) 4 32 av ba (by simp) bt.ones (fun w' hv=>bt.upd16 hv (cM (d9 _ av (by decide)) aG)) (by(try simp only[List.length_append,List.length_cons,List.length_nil,aC]);omega) (le (le (le (le (le (le (le (le (le (le (le (le O.size P) c.size) V.size) G.size) t.size) I.size) z.size) f.size) q.size) D.size) Y.size) Z.size) fun bb bc bX bd a1=>Pl 1<|nl<|bn<|?_
 subst b5
 have hC2:(cJ s C).2.1=(((dt C).need (decide ((2*((aL C).count))≤(((dt C).l.length:Nat) : Int))) 5).wordsC ((aL C).count)):=by show gM C=_;(try simp only[gM,gx,lZ,g,S,T,bs,if_true,if_false,decide_true,decide_false]);all_goals rfl
 have hM2:[(cJ s C).2.2]=[(de.mk ((aL C).file) ((aL C).record) ((aL C).count) (((dt C).need (decide ((2*((aL C).count))≤(((dt C).l.length:Nat) : Int))) 5).wordsR ((aL C).count)))]:=by show[gx C]=_;(try simp only[gM,gx,lZ,g,S,T,bs,if_true,if_false,decide_true,decide_false]);all_goals rfl
 have hS2:(cJ s C).1=s:=by(try (show s=_));(try simp only[e9,← Int.add_assoc]);all_goals rfl
 have hlt:=ny s C (by omega)
 have h9:=fX (one:=cJ) Q (by omega) (by omega) hlt
 rw[hC2,hM2,hS2] at h9
 rw[hC2] at hlt
 have aw:=ut ad (ut (aE.mono (S':=(d :: (U :: (ob B++[])))) ao (ac im (ac im aq))) a1 (au il aq)) (ac (nr N) (ac (ni F.size k) (au (aV j lr) aq)))
 have az:=ue H (u1 W (uz f (u1 q D im)) im) (le c.size k)
 exact gf ((n-1),(((dt C).need (decide ((2*((aL C).count))≤(((dt C).l.length:Nat) : Int))) 5).wordsC ((aL C).count)),(L++[(de.mk ((aL C).file) ((aL C).record) ((aL C).count) (((dt C).need (decide ((2*((aL C).count))≤(((dt C).l.length:Nat) : Int))) 5).wordsR ((aL C).count)))]),bb,bc,s) ⟨aw,(le (le (le (le (le (le (le (le (le (le (le (le P c.size) V.size) G.size) t.size) I.size) z.size) f.size) q.size) D.size) Y.size) Z.size) a1.size),(RC.upd an (ut (aE.mono (S':=(U :: (ob B++[]))) a0 (ac im aq)) a1 (au il aq)) (ae y (bj (RC.nrow an (ax j az (fun x hx=>(ae (fun e=>(RC.nrow a j (by decide)) (e▸hx)) ay)) (bt.upd16 az (al (RC.safe a _ (by decide)) aG))) (by decide)) ay)) aw),bd,(by(try dsimp only);omega),(by(try dsimp only);intro he;omega),(by(try dsimp only);simp only[List.length_append,List.length_cons,List.length_nil];omega),h9⟩ (by omega)
 refine xt<|tx<|tx<|bx<|tn<|sq<|sg<|Pl 3<|?_
 have a2:=RC.upd a c ay (aE.step (RC.u a) c)
 refine L0<|ec (p:=⟨d,3,none⟩) (v:=.int .i64 C.e) (RC.fld a2)<|Pl 1<|nt<|cb ((C.e==2)) (fun E=>?_) (fun E=>?_)
 have be:=am E
 refine sg<|Pl 2<|nt<|rt<|tr<|rr (.tuple #[.slice none 0 0,.int .i64 5])<|?_
 obtain⟨gB,gC⟩:=eJ Q g
 have hw:bq (aN cJ b.length 0 ⟨b,false,0⟩ []).1.e=5:=by unfold bq;rw[gB,if_pos E]
 refine⟨none,0,0,by rw[hw],fun h=>absurd (hw.symm.trans h) (by decide),F⟩
 have be:=ap E
 refine bz<|sq<|Rg 7 (fun w'=>w'.cell? ⟨d,3,none⟩=some (.int .i64 C.e)) fun bY M=>?_
 refine bh (RC.fld (RC.upd a2 M ay (aE.step (RC.u a2) M))) fun i=>Rt 0 i<|Rt 1 i<|Rt 2 i<|Rt 3 i<|Rl 4 i (fun _ hs=>hs)<|Rt 5 i<|Rt 6 i<|re<|tn<|rt<|rr (.tuple #[.slice B L.length cq,.int .i64 C.e])<|?_
 obtain⟨gB,gC⟩:=eJ Q g
 have hw:bq (aN cJ b.length 0 ⟨b,false,0⟩ []).1.e=C.e:=by unfold bq;rw[gB,if_neg (by rw[E];decide)]
 have aD:=aI c M
 refine⟨_,_,_,by rw[hw],fun h=>by rw[gC (hw.symm.trans h)];exact(ax j aD (fun x hx=>ay) (bt.upd16 aD aG)),(aI F M)⟩
theorem kf{m:Md}{v:Value}{b:List Int}{w:World}(h:bi m w v b)(hb:b.length≤1048576) :
    Calls Tryz.prog 163 #[.int .i64 0,.int .u8 20,v] w (f7 (aN cL b.length 0 ⟨b,false,0⟩ []) w):=by
  obtain⟨A,cp,rfl,_,_⟩:=h.shape
  exact pg h hb
theorem jR{m:Md}{v:Value}{b:List Int}{w:World}(h:bi m w v b)(hb:b.length≤1048576) :
    Calls Tryz.prog 163 #[.int .i64 1,.int .u8 20,v] w (f7 (aN bG b.length 0 ⟨b,false,0⟩ []) w):=by
  obtain⟨A,cp,rfl,_,_⟩:=h.shape
  exact pf h hb
theorem jM{m:Md}{v:Value}{b:List Int}{w:World}{dir:Int}(h:bi m w v b)(hb:b.length≤1048576) :
    Calls Tryz.prog 163 #[.int .i64 dir,.int .u8 21,v] w (f7 (aN cJ b.length 0 ⟨b,false,0⟩ []) w):=by
  obtain⟨A,cp,rfl,_,_⟩:=h.shape
  exact pk h hb
open Go.RowKit
theorem fl{x:Int}(h:bq x=0) : x=0:=by
  unfold bq at h
  split at h
  · cases h
  · exact h
theorem gS{x:Int}(h:¬ bq x=0) : (x != 0)=true:=by
  rw[bne_iff_ne]
  rintro rfl
  exact h rfl
theorem fK:((0:Int)!=0)=false:=rfl
theorem pK{m:Md}{A:Option Addr}{cp:Nat}{b:List Int}{w:World}(hsl:bi m w (.slice A b.length cp) b)(hb:b.length≤1048576) :
    Calls Tryz.prog 96 #[.int .i64 0,.int .u8 20,.slice A b.length cp] w (d7 (.slice A b.length cp) b (bH cL dV 20 b) w):=by
 have hln:(b.length:Int)≤1048576:=by omega
 have hcp:b.length≤cp:=by obtain⟨_,_,hv,h1,_⟩:=aK.shape hsl;injection hv with _ _ h3;omega
 have hrb:=bi.range hsl
 refine en 101 Tryz.func96 rfl<|sg<|L0<|bK mZ fun a9 aa i g j=>Pl 1<|nt<|sq<|sg<|Pl 6<|nt<|c0<|?_
 refine bz<|sq<|sg<|Pl 6<|nt<|c0<|bz<|sq<|sg<|?_
 refine Pl 3<|nt<|cb ((((b.length:Nat) : Int)==0)) (fun a=>?_) (fun a=>?_)
 have J:=am a
 refine sg<|Pl 1<|L0<|b7 g mZ fun ab L M=>Pl 1<|nt<|rt<|tr<|bL L (.int .i64 2)<|?_
 have hs:bH cL dV 20 b=(aP.zero,2):=by
   unfold bH dj cN dV
   (try simp only[a,bs,if_true,if_false,decide_true,decide_false,fK,reduceIte])
   all_goals rfl
 rw[hs]
 exact bu (ud j M i)
 have J:=ap a
 refine bz<|sg<|Pl 1<|?_
 have t:=bi.old hsl j
 refine fM (bi.at_ t 0 (by omega)) fun N O Q R ac=>L0<|kj b.length 0 Q (by omega)<|L0<|ec (p:=⟨N,O+0,none⟩) (v:=.int .u8 (b.getD 0 0)) R<|L0<|Oi (b.getD 0 0)<|Pl 1<|ng<|Pl 3<|cu 3 [36] 39 (((decide (9≤(b.getD 0 0)))&&(decide ((b.getD 0 0)≤251)))) (fun K C=>?_) ?_
 refine bl 36 ((decide (9≤(b.getD 0 0)))) (fun l=>?_) (fun l=>?_)
 have S:=of_decide_eq_true l
 exact Pl 3<|ce C (decide ((b.getD 0 0)≤251)) (by rw[l];rfl)
 have S:=of_decide_eq_false l
 exact Pl 3<|ce C false (by rw[l];rfl)
 refine Pl 1<|nt<|sq<|sg<|Pl 6<|nt<|c1<|go<|Pl 3<|cu 3 [48] 51 (((decide (7≤(b.getD 0 0)))&&(decide ((b.getD 0 0)≤245)))) (fun K D=>?_) ?_
 refine bl 48 ((decide (7≤(b.getD 0 0)))) (fun o=>?_) (fun o=>?_)
 have T:=of_decide_eq_true o
 exact Pl 3<|ce D (decide ((b.getD 0 0)≤245)) (by rw[o];rfl)
 have T:=of_decide_eq_false o
 exact Pl 3<|ce D false (by rw[o];rfl)
 refine Pl 1<|cu 4 [52] 56 ((((decide (7≤(b.getD 0 0)))&&(decide ((b.getD 0 0)≤245)))&&(((b.getD 0 0)%7)==0))) (fun K E=>?_) ?_
 refine bl 52 (((decide (7≤(b.getD 0 0)))&&(decide ((b.getD 0 0)≤245)))) (fun q=>?_) (fun q=>?_)
 have U:=(aW q).1
 have V:=(aW q).2
 have ad:=of_decide_eq_true U
 have af:=of_decide_eq_true V
 exact Pl 1<|L1<|Oe (.int .i64 (Int.tmod (b.getD 0 0) 7)) (.int .i64 ((b.getD 0 0)%7)) (congrArg (Value.int .i64) (Int.tmod_eq_emod_of_nonneg (by omega)))<|Pl 2<|ce E (((b.getD 0 0)%7)==0) (by rw[q];rfl)
 exact Pl 4<|ce E false (by rw[q];rfl)
 refine Pl 1<|nt<|sq<|sg<|Pl 6<|nt<|c0<|bz<|sq<|sq<|?_
 refine go<|Pl 2<|nt<|cb ((!(((decide (7≤(b.getD 0 0)))&&(decide ((b.getD 0 0)≤245)))&&(((b.getD 0 0)%7)==0)))) (fun d=>?_) (fun d=>?_)
 have f:(((decide (7≤(b.getD 0 0)))&&(decide ((b.getD 0 0)≤245)))&&(((b.getD 0 0)%7)==0))=false:=by simpa only[Bool.not_eq_true',Bool.not_eq_false'] using d
 refine sg<|Pl 1<|L0<|b7 g mZ fun ag W X=>Pl 1<|nt<|rt<|tr<|bL W (.int .i64 5)<|?_
 have hs:bH cL dV 20 b=(aP.zero,5):=by
   unfold bH dj cN dV
   (try simp only[a,d,f,bs,if_true,if_false,decide_true,decide_false,fK,reduceIte])
   all_goals rfl
 rw[hs]
 exact bu (ud j X i)
 have f:(((decide (7≤(b.getD 0 0)))&&(decide ((b.getD 0 0)≤245)))&&(((b.getD 0 0)%7)==0))=true:=by simpa only[Bool.not_eq_true',Bool.not_eq_false'] using d
 have k:=(aW f).1
 have r:=(aW f).2
 have q32naa:=(aW k).1
 have q32nab:=(aW k).2
 have q32naap:=of_decide_eq_true q32naa
 have q32nabp:=of_decide_eq_true q32nab
 have q32nbp:=am r
 refine bz<|sq<|sg<|Pl 3<|L0<|Oi ((b.getD 0 0)+1)<|Pl 1<|nt<|cb ((decide (((b.length:Nat) : Int)<((b.getD 0 0)+1)))) (fun h=>?_) (fun h=>?_)
 have Y:=of_decide_eq_true h
 refine sg<|Pl 1<|L0<|b7 g mZ fun ah Z a0=>Pl 1<|nt<|rt<|tr<|bL Z (.int .i64 2)<|?_
 have hs:bH cL dV 20 b=(aP.zero,2):=by
   unfold bH dj cN dV
   (try simp only[a,d,f,k,q32naa,q32nab,r,h,bs,if_true,if_false,decide_true,decide_false,fK,reduceIte])
   all_goals rfl
 rw[hs]
 exact bu (ud j a0 i)
 have Y:=of_decide_eq_false h
 refine bz<|sg<|Pl 4<|L0<|Oi ((b.getD 0 0)+1)<|nv (it (P:=Tryz.prog) 22 5 1 Tryz.underlying22 rfl rfl A b.length cp (lo:=1) (up:=((b.getD 0 0)+1)) 1 ((((b.getD 0 0)+1)).toNat) (by omega) (by omega) (by omega) (by omega) (by omega)) fun u hrun43 F=>L0<|mg (.slice u (((((b.getD 0 0)+1)).toNat)-1) (cp-1)) (fY (kl:=.i64) (kh:=.i64) (lo:=1) (hi:=((b.getD 0 0)+1)) (A:=A) (n:=b.length) (c:=cp) rfl Tryz.underlying22 (by kernel_rfl) (by kernel_rfl) (by kernel_rfl) (hrun43 _ _ _))<|?_
 by_cases hE:bq (aN cL (((b.take ((((b.getD 0 0)+1)).toNat)).drop 1)).length 0 ⟨((b.take ((((b.getD 0 0)+1)).toNat)).drop 1),false,0⟩ []).1.e=0
 refine L0<|Oc (args:=#[.int .i64 0,.int .u8 20,.slice u (((((b.getD 0 0)+1)).toNat)-1) (cp-1)])<|e2 (iz (kf (F _ _ _ _ _ t) (by rw[List.length_drop,List.length_take];omega)) hE) fun ai aj y z=>?_
 obtain⟨a1,a2,rfl,an,ao⟩:=aK.shape y.rd
 refine Pl 5<|nt<|sq<|sg<|Pl 2<|nt<|c0<|bz<|sq<|sq<|?_
 refine go<|Pl 3<|L0<|Oi ((b.getD 0 0)+1)<|Pl 1<|nt<|?_
 have G:=aI j z
 refine cb ((decide (((b.getD 0 0)+1)<((b.length:Nat) : Int)))) (fun s=>?_) (fun s=>?_)
 have a3:=of_decide_eq_true s
 refine sg<|Pl 1<|?_
 refine L0<|b7 (ub z g) mZ fun aq a4 a5=>Pl 1<|nt<|rt<|tr<|bL a4 (.int .i64 3)<|?_
 have hE0:(aN cL (((b.take ((((b.getD 0 0)+1)).toNat)).drop 1)).length 0 ⟨((b.take ((((b.getD 0 0)+1)).toNat)).drop 1),false,0⟩ []).1.e=0:=fl hE
 have hs:bH cL dV 20 b=(aP.zero,3):=by
   unfold bH dj cN dV
   (try simp only[a,d,f,k,q32naa,q32nab,r,h,s,bs,if_true,if_false,decide_true,decide_false,hE0,fK,reduceIte])
   all_goals rfl
 rw[hs]
 exact bu (ud G a5 i)
 have a3:=of_decide_eq_false s
 refine bz<|sg<|Pl 3<|?_
 have H:=ub z g
 refine L0<|b7 H (mG 20 0 0 0 0 0 0 0 0 0 0 0 nS nS nS (.slice a1 ((aN cL (((b.take ((((b.getD 0 0)+1)).toNat)).drop 1)).length 0 ⟨((b.take ((((b.getD 0 0)+1)).toNat)).drop 1),false,0⟩ []).2.length) a2) 0 0 0 0 0 nS) fun ar a6 B=>Pl 1<|nt<|rt<|bL a6 (.int .i64 0)<|?_
 have hE0:(aN cL (((b.take ((((b.getD 0 0)+1)).toNat)).drop 1)).length 0 ⟨((b.take ((((b.getD 0 0)+1)).toNat)).drop 1),false,0⟩ []).1.e=0:=fl hE
 have hs:bH cL dV 20 b=((aP.mk 20 0 0 0 0 0 0 0 0 0 0 0 [] [] [] (aN cL (((b.take ((((b.getD 0 0)+1)).toNat)).drop 1)).length 0 ⟨((b.take ((((b.getD 0 0)+1)).toNat)).drop 1),false,0⟩ []).2 0 0 0 0 0 []),0):=by
   unfold bH dj cN dV
   (try simp only[a,d,f,k,q32naa,q32nab,r,h,s,bs,if_true,if_false,decide_true,decide_false,hE0,fK,reduceIte])
   all_goals rfl
 rw[hs]
 exact⟨_,rfl,⟨_,_,_,_,_,rfl,aK.nil ..,aK.nil ..,(fun _ _ _=>aK.nil ..),((ax y B (fun x hx=>(ae (fun e=>(aA (ak g) lr y) (e▸hx)) ay)) (bt.upd16 B (al (aQ H (by decide)) aG)))).rd,aK.nil ..,⟨(b8 (x:=20) (by omega)),(b8 (x:=0) (by omega)),(aB (x:=0) (by omega)),(aB (x:=0) (by omega)),(aB (x:=0) (by omega)),(aB (x:=0) (by omega)),(aB (x:=0) (by omega)),(aB (x:=0) (by omega)),(aB (x:=0) (by omega)),(aB (x:=0) (by omega)),(aB (x:=0) (by omega)),(aB (x:=0) (by omega)),(b8 (x:=0) (by omega)),(b8 (x:=0) (by omega)),(b8 (x:=0) (by omega)),(b8 (x:=0) (by omega)),(b8 (x:=0) (by omega))⟩⟩,(ud G B i)⟩
 refine L0<|Oc (args:=#[.int .i64 0,.int .u8 20,.slice u (((((b.getD 0 0)+1)).toNat)-1) (cp-1)])<|?_
 refine(gZ (kf (F _ _ _ _ _ t) (by rw[List.length_drop,List.length_take];omega))).mono ?_
 rintro _ au ⟨av,aw,az,rfl,I⟩
 refine⟨_,rfl,?_⟩
 have hE1:(bq (aN cL (((b.take ((((b.getD 0 0)+1)).toNat)).drop 1)).length 0 ⟨((b.take ((((b.getD 0 0)+1)).toNat)).drop 1),false,0⟩ []).1.e != 0)=true:=by simpa using hE
 refine Pl 5<|nt<|sq<|sg<|Pl 2<|nt<|ct hE1<|sg<|Pl 2<|?_
 refine L0<|b7 (ub I g) mZ fun aC a7 a8=>Pl 1<|nt<|rt<|tr<|bL a7 (.int .i64 (bq (aN cL (((b.take ((((b.getD 0 0)+1)).toNat)).drop 1)).length 0 ⟨((b.take ((((b.getD 0 0)+1)).toNat)).drop 1),false,0⟩ []).1.e))<|?_
 have hE3:((aN cL (((b.take ((((b.getD 0 0)+1)).toNat)).drop 1)).length 0 ⟨((b.take ((((b.getD 0 0)+1)).toNat)).drop 1),false,0⟩ []).1.e != 0)=true:=gS hE
 have hs:bH cL dV 20 b=(aP.zero,bq (aN cL (((b.take ((((b.getD 0 0)+1)).toNat)).drop 1)).length 0 ⟨((b.take ((((b.getD 0 0)+1)).toNat)).drop 1),false,0⟩ []).1.e):=by
   unfold bH dj cN dV
   (try simp only[a,d,f,k,q32naa,q32nab,r,h,hE1,bs,if_true,if_false,decide_true,decide_false,hE3,fK,reduceIte])
   all_goals rfl
 rw[hs]
 exact bu (ud j (uz I a8) i)
theorem pG{m:Md}{A:Option Addr}{cp:Nat}{b:List Int}{w:World}(hsl:bi m w (.slice A b.length cp) b)(hb:b.length≤1048576) :
    Calls Tryz.prog 96 #[.int .i64 1,.int .u8 20,.slice A b.length cp] w (d7 (.slice A b.length cp) b (bH bG dU 20 b) w):=by
 have hln:(b.length:Int)≤1048576:=by omega
 have hcp:b.length≤cp:=by obtain⟨_,_,hv,h1,_⟩:=aK.shape hsl;injection hv with _ _ h3;omega
 have hrb:=bi.range hsl
 refine en 101 Tryz.func96 rfl<|sg<|L0<|bK mZ fun a5 a6 i g j=>Pl 1<|nt<|sq<|sg<|Pl 6<|nt<|c0<|?_
 refine bz<|sq<|sg<|Pl 6<|nt<|c0<|bz<|sq<|sg<|?_
 refine Pl 3<|nt<|cb ((((b.length:Nat) : Int)==0)) (fun a=>?_) (fun a=>?_)
 have H:=am a
 refine sg<|Pl 1<|L0<|b7 g mZ fun a7 I J=>Pl 1<|nt<|rt<|tr<|bL I (.int .i64 2)<|?_
 have hs:bH bG dU 20 b=(aP.zero,2):=by
   unfold bH dj cN dU
   (try simp only[a,bs,if_true,if_false,decide_true,decide_false,fK,reduceIte])
   all_goals rfl
 rw[hs]
 exact bu (ud j J i)
 have H:=ap a
 refine bz<|sg<|Pl 1<|?_
 have s:=bi.old hsl j
 refine fM (bi.at_ s 0 (by omega)) fun L M N O a8=>L0<|kj b.length 0 N (by omega)<|L0<|ec (p:=⟨L,M+0,none⟩) (v:=.int .u8 (b.getD 0 0)) O<|L0<|Oi (b.getD 0 0)<|Pl 1<|ng<|Pl 3<|cu 3 [36] 39 (((decide (9≤(b.getD 0 0)))&&(decide ((b.getD 0 0)≤251)))) (fun K B=>?_) ?_
 refine bl 36 ((decide (9≤(b.getD 0 0)))) (fun k=>?_) (fun k=>?_)
 have Q:=of_decide_eq_true k
 exact Pl 3<|ce B (decide ((b.getD 0 0)≤251)) (by rw[k];rfl)
 have Q:=of_decide_eq_false k
 exact Pl 3<|ce B false (by rw[k];rfl)
 refine Pl 1<|nt<|sq<|sg<|Pl 6<|nt<|c0<|bz<|sq<|sq<|?_
 refine go<|Pl 6<|nt<|c1<|go<|Pl 3<|cu 3 [65] 68 (((decide (4≤(b.getD 0 0)))&&(decide ((b.getD 0 0)≤245)))) (fun K C=>?_) ?_
 refine bl 65 ((decide (4≤(b.getD 0 0)))) (fun l=>?_) (fun l=>?_)
 have R:=of_decide_eq_true l
 exact Pl 3<|ce C (decide ((b.getD 0 0)≤245)) (by rw[l];rfl)
 have R:=of_decide_eq_false l
 exact Pl 3<|ce C false (by rw[l];rfl)
 refine Pl 1<|nt<|sq<|sg<|Pl 2<|nt<|cb ((!((decide (4≤(b.getD 0 0)))&&(decide ((b.getD 0 0)≤245))))) (fun d=>?_) (fun d=>?_)
 have f:((decide (4≤(b.getD 0 0)))&&(decide ((b.getD 0 0)≤245)))=false:=by simpa only[Bool.not_eq_true',Bool.not_eq_false'] using d
 refine sg<|Pl 1<|L0<|b7 g mZ fun a9 S T=>Pl 1<|nt<|rt<|tr<|bL S (.int .i64 5)<|?_
 have hs:bH bG dU 20 b=(aP.zero,5):=by
   unfold bH dj cN dU
   (try simp only[a,d,f,bs,if_true,if_false,decide_true,decide_false,fK,reduceIte])
   all_goals rfl
 rw[hs]
 exact bu (ud j T i)
 have f:((decide (4≤(b.getD 0 0)))&&(decide ((b.getD 0 0)≤245)))=true:=by simpa only[Bool.not_eq_true',Bool.not_eq_false'] using d
 have o:=(aW f).1
 have q:=(aW f).2
 have q30nap:=of_decide_eq_true o
 have q30nbp:=of_decide_eq_true q
 refine bz<|sq<|sg<|Pl 3<|L0<|Oi ((b.getD 0 0)+1)<|Pl 1<|nt<|cb ((decide (((b.length:Nat) : Int)<((b.getD 0 0)+1)))) (fun h=>?_) (fun h=>?_)
 have U:=of_decide_eq_true h
 refine sg<|Pl 1<|L0<|b7 g mZ fun aa V W=>Pl 1<|nt<|rt<|tr<|bL V (.int .i64 2)<|?_
 have hs:bH bG dU 20 b=(aP.zero,2):=by
   unfold bH dj cN dU
   (try simp only[a,d,f,o,q,h,bs,if_true,if_false,decide_true,decide_false,fK,reduceIte])
   all_goals rfl
 rw[hs]
 exact bu (ud j W i)
 have U:=of_decide_eq_false h
 refine bz<|sg<|Pl 4<|L0<|Oi ((b.getD 0 0)+1)<|nv (it (P:=Tryz.prog) 22 5 1 Tryz.underlying22 rfl rfl A b.length cp (lo:=1) (up:=((b.getD 0 0)+1)) 1 ((((b.getD 0 0)+1)).toNat) (by omega) (by omega) (by omega) (by omega) (by omega)) fun t hrun41 D=>L0<|mg (.slice t (((((b.getD 0 0)+1)).toNat)-1) (cp-1)) (fY (kl:=.i64) (kh:=.i64) (lo:=1) (hi:=((b.getD 0 0)+1)) (A:=A) (n:=b.length) (c:=cp) rfl Tryz.underlying22 (by kernel_rfl) (by kernel_rfl) (by kernel_rfl) (hrun41 _ _ _))<|?_
 by_cases hE:bq (aN bG (((b.take ((((b.getD 0 0)+1)).toNat)).drop 1)).length 0 ⟨((b.take ((((b.getD 0 0)+1)).toNat)).drop 1),false,0⟩ []).1.e=0
 refine L0<|Oc (args:=#[.int .i64 1,.int .u8 20,.slice t (((((b.getD 0 0)+1)).toNat)-1) (cp-1)])<|e2 (iz (jR (D _ _ _ _ _ s) (by rw[List.length_drop,List.length_take];omega)) hE) fun ab ac u y=>?_
 obtain⟨X,Y,rfl,ad,af⟩:=aK.shape u.rd
 refine Pl 5<|nt<|sq<|sg<|Pl 2<|nt<|c0<|bz<|sq<|sq<|?_
 refine go<|Pl 3<|L0<|Oi ((b.getD 0 0)+1)<|Pl 1<|nt<|?_
 have E:=aI j y
 refine cb ((decide (((b.getD 0 0)+1)<((b.length:Nat) : Int)))) (fun r=>?_) (fun r=>?_)
 have Z:=of_decide_eq_true r
 refine sg<|Pl 1<|?_
 refine L0<|b7 (ub y g) mZ fun ag a0 a1=>Pl 1<|nt<|rt<|tr<|bL a0 (.int .i64 3)<|?_
 have hE0:(aN bG (((b.take ((((b.getD 0 0)+1)).toNat)).drop 1)).length 0 ⟨((b.take ((((b.getD 0 0)+1)).toNat)).drop 1),false,0⟩ []).1.e=0:=fl hE
 have hs:bH bG dU 20 b=(aP.zero,3):=by
   unfold bH dj cN dU
   (try simp only[a,d,f,o,q,h,r,bs,if_true,if_false,decide_true,decide_false,hE0,fK,reduceIte])
   all_goals rfl
 rw[hs]
 exact bu (ud E a1 i)
 have Z:=of_decide_eq_false r
 refine bz<|sg<|Pl 3<|?_
 have F:=ub y g
 refine L0<|b7 F (mG 20 0 0 0 0 0 0 0 0 0 0 0 nS nS nS (.slice X ((aN bG (((b.take ((((b.getD 0 0)+1)).toNat)).drop 1)).length 0 ⟨((b.take ((((b.getD 0 0)+1)).toNat)).drop 1),false,0⟩ []).2.length) Y) 0 0 0 0 0 nS) fun ah a2 z=>Pl 1<|nt<|rt<|bL a2 (.int .i64 0)<|?_
 have hE0:(aN bG (((b.take ((((b.getD 0 0)+1)).toNat)).drop 1)).length 0 ⟨((b.take ((((b.getD 0 0)+1)).toNat)).drop 1),false,0⟩ []).1.e=0:=fl hE
 have hs:bH bG dU 20 b=((aP.mk 20 0 0 0 0 0 0 0 0 0 0 0 [] [] [] (aN bG (((b.take ((((b.getD 0 0)+1)).toNat)).drop 1)).length 0 ⟨((b.take ((((b.getD 0 0)+1)).toNat)).drop 1),false,0⟩ []).2 0 0 0 0 0 []),0):=by
   unfold bH dj cN dU
   (try simp only[a,d,f,o,q,h,r,bs,if_true,if_false,decide_true,decide_false,hE0,fK,reduceIte])
   all_goals rfl
 rw[hs]
 exact⟨_,rfl,⟨_,_,_,_,_,rfl,aK.nil ..,aK.nil ..,(fun _ _ _=>aK.nil ..),((ax u z (fun x hx=>(ae (fun e=>(aA (ak g) lr u) (e▸hx)) ay)) (bt.upd16 z (al (aQ F (by decide)) aG)))).rd,aK.nil ..,⟨(b8 (x:=20) (by omega)),(b8 (x:=0) (by omega)),(aB (x:=0) (by omega)),(aB (x:=0) (by omega)),(aB (x:=0) (by omega)),(aB (x:=0) (by omega)),(aB (x:=0) (by omega)),(aB (x:=0) (by omega)),(aB (x:=0) (by omega)),(aB (x:=0) (by omega)),(aB (x:=0) (by omega)),(aB (x:=0) (by omega)),(b8 (x:=0) (by omega)),(b8 (x:=0) (by omega)),(b8 (x:=0) (by omega)),(b8 (x:=0) (by omega)),(b8 (x:=0) (by omega))⟩⟩,(ud E z i)⟩
 refine L0<|Oc (args:=#[.int .i64 1,.int .u8 20,.slice t (((((b.getD 0 0)+1)).toNat)-1) (cp-1)])<|?_
 refine(gZ (jR (D _ _ _ _ _ s) (by rw[List.length_drop,List.length_take];omega))).mono ?_
 rintro _ ai ⟨aj,an,ao,rfl,G⟩
 refine⟨_,rfl,?_⟩
 have hE1:(bq (aN bG (((b.take ((((b.getD 0 0)+1)).toNat)).drop 1)).length 0 ⟨((b.take ((((b.getD 0 0)+1)).toNat)).drop 1),false,0⟩ []).1.e != 0)=true:=by simpa using hE
 refine Pl 5<|nt<|sq<|sg<|Pl 2<|nt<|ct hE1<|sg<|Pl 2<|?_
 refine L0<|b7 (ub G g) mZ fun aq a3 a4=>Pl 1<|nt<|rt<|tr<|bL a3 (.int .i64 (bq (aN bG (((b.take ((((b.getD 0 0)+1)).toNat)).drop 1)).length 0 ⟨((b.take ((((b.getD 0 0)+1)).toNat)).drop 1),false,0⟩ []).1.e))<|?_
 have hE3:((aN bG (((b.take ((((b.getD 0 0)+1)).toNat)).drop 1)).length 0 ⟨((b.take ((((b.getD 0 0)+1)).toNat)).drop 1),false,0⟩ []).1.e != 0)=true:=gS hE
 have hs:bH bG dU 20 b=(aP.zero,bq (aN bG (((b.take ((((b.getD 0 0)+1)).toNat)).drop 1)).length 0 ⟨((b.take ((((b.getD 0 0)+1)).toNat)).drop 1),false,0⟩ []).1.e):=by
   unfold bH dj cN dU
   (try simp only[a,d,f,o,q,h,hE1,bs,if_true,if_false,decide_true,decide_false,hE3,fK,reduceIte])
   all_goals rfl
 rw[hs]
 exact bu (ud j (uz G a4) i)
theorem oW{m:Md}{A:Option Addr}{cp:Nat}{b:List Int}{w:World}{dir:Int}(hd:dir=0∨dir=1)(hsl:bi m w (.slice A b.length cp) b)(hb:b.length≤1048576) :
    Calls Tryz.prog 96 #[.int .i64 dir,.int .u8 21,.slice A b.length cp] w (d7 (.slice A b.length cp) b (bH cJ dW 21 b) w):=by
 have hln:(b.length:Int)≤1048576:=by omega
 have hcp:b.length≤cp:=by obtain⟨_,_,hv,h1,_⟩:=aK.shape hsl;injection hv with _ _ h3;omega
 have hrb:=bi.range hsl
 have g:((dir != 0)&&(dir != 1))=false:=by rcases hd with rfl | rfl<;>rfl
 refine en 101 Tryz.func96 rfl<|sg<|L0<|bK mZ fun a6 a7 j h k=>Pl 1<|nt<|sq<|sg<|Pl 3<|cu 3 [14] 17 (((dir != 0)&&(dir != 1))) (fun K C=>?_) ?_
 refine bl 14 ((dir != 0)) (fun l=>?_) (fun l=>?_)
 have I:=av l
 exact Pl 3<|ce C (dir != 1) (by rw[l];rfl)
 have I:=ai l
 exact Pl 3<|ce C false (by rw[l];rfl)
 refine nt<|cf g<|bz<|sq<|sg<|Pl 6<|nt<|c0<|bz<|?_
 refine sq<|sg<|Pl 3<|nt<|cb ((((b.length:Nat) : Int)==0)) (fun a=>?_) (fun a=>?_)
 have J:=am a
 refine sg<|Pl 1<|L0<|b7 h mZ fun a8 L M=>Pl 1<|nt<|rt<|tr<|bL L (.int .i64 2)<|?_
 have hs:bH cJ dW 21 b=(aP.zero,2):=by
   unfold bH dj cN dW
   (try simp only[g,a,bs,if_true,if_false,decide_true,decide_false,fK,reduceIte])
   all_goals rfl
 rw[hs]
 exact bu (ud k M j)
 have J:=ap a
 refine bz<|sg<|Pl 1<|?_
 have t:=bi.old hsl k
 refine fM (bi.at_ t 0 (by omega)) fun N O Q R a9=>L0<|kj b.length 0 Q (by omega)<|L0<|ec (p:=⟨N,O+0,none⟩) (v:=.int .u8 (b.getD 0 0)) R<|L0<|Oi (b.getD 0 0)<|Pl 1<|ng<|Pl 3<|cu 3 [36] 39 (((decide (9≤(b.getD 0 0)))&&(decide ((b.getD 0 0)≤251)))) (fun K D=>?_) ?_
 refine bl 36 ((decide (9≤(b.getD 0 0)))) (fun o=>?_) (fun o=>?_)
 have S:=of_decide_eq_true o
 exact Pl 3<|ce D (decide ((b.getD 0 0)≤251)) (by rw[o];rfl)
 have S:=of_decide_eq_false o
 exact Pl 3<|ce D false (by rw[o];rfl)
 refine Pl 1<|nt<|sq<|sg<|Pl 6<|nt<|c0<|bz<|sq<|sq<|?_
 refine go<|Pl 6<|nt<|c0<|bz<|sq<|sg<|Pl 2<|nt<|cb ((!((decide (9≤(b.getD 0 0)))&&(decide ((b.getD 0 0)≤251))))) (fun d=>?_) (fun d=>?_)
 have f:((decide (9≤(b.getD 0 0)))&&(decide ((b.getD 0 0)≤251)))=false:=by simpa only[Bool.not_eq_true',Bool.not_eq_false'] using d
 refine sg<|Pl 1<|L0<|b7 h mZ fun aa T U=>Pl 1<|nt<|rt<|tr<|bL T (.int .i64 5)<|?_
 have hs:bH cJ dW 21 b=(aP.zero,5):=by
   unfold bH dj cN dW
   (try simp only[g,a,d,f,bs,if_true,if_false,decide_true,decide_false,fK,reduceIte])
   all_goals rfl
 rw[hs]
 exact bu (ud k U j)
 have f:((decide (9≤(b.getD 0 0)))&&(decide ((b.getD 0 0)≤251)))=true:=by simpa only[Bool.not_eq_true',Bool.not_eq_false'] using d
 have q:=(aW f).1
 have r:=(aW f).2
 have q30nap:=of_decide_eq_true q
 have q30nbp:=of_decide_eq_true r
 refine bz<|sq<|sg<|Pl 3<|L0<|Oi ((b.getD 0 0)+1)<|Pl 1<|nt<|cb ((decide (((b.length:Nat) : Int)<((b.getD 0 0)+1)))) (fun i=>?_) (fun i=>?_)
 have V:=of_decide_eq_true i
 refine sg<|Pl 1<|L0<|b7 h mZ fun ab W X=>Pl 1<|nt<|rt<|tr<|bL W (.int .i64 2)<|?_
 have hs:bH cJ dW 21 b=(aP.zero,2):=by
   unfold bH dj cN dW
   (try simp only[g,a,d,f,q,r,i,bs,if_true,if_false,decide_true,decide_false,fK,reduceIte])
   all_goals rfl
 rw[hs]
 exact bu (ud k X j)
 have V:=of_decide_eq_false i
 refine bz<|sg<|Pl 4<|L0<|Oi ((b.getD 0 0)+1)<|nv (it (P:=Tryz.prog) 22 5 1 Tryz.underlying22 rfl rfl A b.length cp (lo:=1) (up:=((b.getD 0 0)+1)) 1 ((((b.getD 0 0)+1)).toNat) (by omega) (by omega) (by omega) (by omega) (by omega)) fun u hrun41 E=>L0<|mg (.slice u (((((b.getD 0 0)+1)).toNat)-1) (cp-1)) (fY (kl:=.i64) (kh:=.i64) (lo:=1) (hi:=((b.getD 0 0)+1)) (A:=A) (n:=b.length) (c:=cp) rfl Tryz.underlying22 (by kernel_rfl) (by kernel_rfl) (by kernel_rfl) (hrun41 _ _ _))<|?_
 by_cases hE:bq (aN cJ (((b.take ((((b.getD 0 0)+1)).toNat)).drop 1)).length 0 ⟨((b.take ((((b.getD 0 0)+1)).toNat)).drop 1),false,0⟩ []).1.e=0
 refine L0<|Oc (args:=#[.int .i64 dir,.int .u8 21,.slice u (((((b.getD 0 0)+1)).toNat)-1) (cp-1)])<|e2 (iz (jM (E _ _ _ _ _ t) (by rw[List.length_drop,List.length_take];omega)) hE) fun ac ad y z=>?_
 obtain⟨Y,Z,rfl,af,ag⟩:=aK.shape y.rd
 refine Pl 5<|nt<|sq<|sg<|Pl 2<|nt<|c0<|bz<|sq<|sq<|?_
 refine go<|Pl 3<|L0<|Oi ((b.getD 0 0)+1)<|Pl 1<|nt<|?_
 have F:=aI k z
 refine cb ((decide (((b.getD 0 0)+1)<((b.length:Nat) : Int)))) (fun s=>?_) (fun s=>?_)
 have a0:=of_decide_eq_true s
 refine sg<|Pl 1<|?_
 refine L0<|b7 (ub z h) mZ fun ah a1 a2=>Pl 1<|nt<|rt<|tr<|bL a1 (.int .i64 3)<|?_
 have hE0:(aN cJ (((b.take ((((b.getD 0 0)+1)).toNat)).drop 1)).length 0 ⟨((b.take ((((b.getD 0 0)+1)).toNat)).drop 1),false,0⟩ []).1.e=0:=fl hE
 have hs:bH cJ dW 21 b=(aP.zero,3):=by
   unfold bH dj cN dW
   (try simp only[g,a,d,f,q,r,i,s,bs,if_true,if_false,decide_true,decide_false,hE0,fK,reduceIte])
   all_goals rfl
 rw[hs]
 exact bu (ud F a2 j)
 have a0:=of_decide_eq_false s
 refine bz<|sg<|Pl 3<|?_
 have G:=ub z h
 refine L0<|b7 G (mG 21 0 0 0 0 0 0 0 0 0 0 0 nS nS nS (.slice Y ((aN cJ (((b.take ((((b.getD 0 0)+1)).toNat)).drop 1)).length 0 ⟨((b.take ((((b.getD 0 0)+1)).toNat)).drop 1),false,0⟩ []).2.length) Z) 0 0 0 0 0 nS) fun aj a3 B=>Pl 1<|nt<|rt<|bL a3 (.int .i64 0)<|?_
 have hE0:(aN cJ (((b.take ((((b.getD 0 0)+1)).toNat)).drop 1)).length 0 ⟨((b.take ((((b.getD 0 0)+1)).toNat)).drop 1),false,0⟩ []).1.e=0:=fl hE
 have hs:bH cJ dW 21 b=((aP.mk 21 0 0 0 0 0 0 0 0 0 0 0 [] [] [] (aN cJ (((b.take ((((b.getD 0 0)+1)).toNat)).drop 1)).length 0 ⟨((b.take ((((b.getD 0 0)+1)).toNat)).drop 1),false,0⟩ []).2 0 0 0 0 0 []),0):=by
   unfold bH dj cN dW
   (try simp only[g,a,d,f,q,r,i,s,bs,if_true,if_false,decide_true,decide_false,hE0,fK,reduceIte])
   all_goals rfl
 rw[hs]
 exact⟨_,rfl,⟨_,_,_,_,_,rfl,aK.nil ..,aK.nil ..,(fun _ _ _=>aK.nil ..),((ax y B (fun x hx=>(ae (fun e=>(aA (ak h) lr y) (e▸hx)) ay)) (bt.upd16 B (al (aQ G (by decide)) aG)))).rd,aK.nil ..,⟨(b8 (x:=21) (by omega)),(b8 (x:=0) (by omega)),(aB (x:=0) (by omega)),(aB (x:=0) (by omega)),(aB (x:=0) (by omega)),(aB (x:=0) (by omega)),(aB (x:=0) (by omega)),(aB (x:=0) (by omega)),(aB (x:=0) (by omega)),(aB (x:=0) (by omega)),(aB (x:=0) (by omega)),(aB (x:=0) (by omega)),(b8 (x:=0) (by omega)),(b8 (x:=0) (by omega)),(b8 (x:=0) (by omega)),(b8 (x:=0) (by omega)),(b8 (x:=0) (by omega))⟩⟩,(ud F B j)⟩
 refine L0<|Oc (args:=#[.int .i64 dir,.int .u8 21,.slice u (((((b.getD 0 0)+1)).toNat)-1) (cp-1)])<|?_
 refine(gZ (jM (E _ _ _ _ _ t) (by rw[List.length_drop,List.length_take];omega))).mono ?_
 rintro _ an ⟨ao,aq,ar,rfl,H⟩
 refine⟨_,rfl,?_⟩
 have hE1:(bq (aN cJ (((b.take ((((b.getD 0 0)+1)).toNat)).drop 1)).length 0 ⟨((b.take ((((b.getD 0 0)+1)).toNat)).drop 1),false,0⟩ []).1.e != 0)=true:=by simpa using hE
 refine Pl 5<|nt<|sq<|sg<|Pl 2<|nt<|ct hE1<|sg<|Pl 2<|?_
 refine L0<|b7 (ub H h) mZ fun au a4 a5=>Pl 1<|nt<|rt<|tr<|bL a4 (.int .i64 (bq (aN cJ (((b.take ((((b.getD 0 0)+1)).toNat)).drop 1)).length 0 ⟨((b.take ((((b.getD 0 0)+1)).toNat)).drop 1),false,0⟩ []).1.e))<|?_
 have hE3:((aN cJ (((b.take ((((b.getD 0 0)+1)).toNat)).drop 1)).length 0 ⟨((b.take ((((b.getD 0 0)+1)).toNat)).drop 1),false,0⟩ []).1.e != 0)=true:=gS hE
 have hs:bH cJ dW 21 b=(aP.zero,bq (aN cJ (((b.take ((((b.getD 0 0)+1)).toNat)).drop 1)).length 0 ⟨((b.take ((((b.getD 0 0)+1)).toNat)).drop 1),false,0⟩ []).1.e):=by
   unfold bH dj cN dW
   (try simp only[g,a,d,f,q,r,i,hE1,bs,if_true,if_false,decide_true,decide_false,hE3,fK,reduceIte])
   all_goals rfl
 rw[hs]
 exact bu (ud k (uz H a5) j)
theorem nK{A:Option Addr}{cp:Nat}{b:List Int}{w:World}{dir c:Int}(hd:dir=0∨dir=1)(hc:¬ c=20∧¬ c=21) :
    Calls Tryz.prog 96 #[.int .i64 dir,.int .u8 c,.slice A b.length cp] w (d7 (.slice A b.length cp) b (aP.zero,4) w):=by
 have g:((dir != 0)&&(dir != 1))=false:=by rcases hd with rfl | rfl<;>rfl
 have e2:((c != 20)&&(c != 21))=true:=by simp[hc.1,hc.2]
 refine en 101 Tryz.func96 rfl<|sg<|L0<|bK mZ fun o p h i j=>Pl 1<|nt<|sq<|sg<|Pl 3<|cu 3 [14] 17 (((dir != 0)&&(dir != 1))) (fun K e=>?_) ?_
 refine bl 14 ((dir != 0)) (fun a=>?_) (fun a=>?_)
 have k:=av a
 exact Pl 3<|ce e (dir != 1) (by rw[a];rfl)
 have k:=ai a
 exact Pl 3<|ce e false (by rw[a];rfl)
 refine nt<|cf g<|bz<|sq<|sg<|Pl 3<|cu 3 [21] 24 (((c != 20)&&(c != 21))) (fun K f=>?_) ?_
 refine bl 21 ((c != 20)) (fun d=>?_) (fun d=>?_)
 have l:=av d
 exact Pl 3<|ce f (c != 21) (by rw[d];rfl)
 have l:=ai d
 exact Pl 3<|ce f false (by rw[d];rfl)
 refine nt<|ct e2<|sg<|Pl 1<|L0<|b7 i mZ fun q m n=>Pl 1<|nt<|rt<|tr<|bL m (.int .i64 4)<|?_
 exact bu (ud j n h)
theorem pW{A:Option Addr}{cp:Nat}{b:List Int}{w:World}{dir c:Int}(hd:¬ (dir=0∨dir=1)) :
    Calls Tryz.prog 96 #[.int .i64 dir,.int .u8 c,.slice A b.length cp] w (d7 (.slice A b.length cp) b (aP.zero,1) w):=by
 have e:((dir != 0)&&(dir != 1))=true:=by simp;omega
 refine en 101 Tryz.func96 rfl<|sg<|L0<|bK mZ fun l m f g h=>Pl 1<|nt<|sq<|sg<|Pl 3<|cu 3 [14] 17 (((dir != 0)&&(dir != 1))) (fun K d=>?_) ?_
 refine bl 14 ((dir != 0)) (fun a=>?_) (fun a=>?_)
 have i:=av a
 exact Pl 3<|ce d (dir != 1) (by rw[a];rfl)
 have i:=ai a
 exact Pl 3<|ce d false (by rw[a];rfl)
 refine nt<|ct e<|sg<|Pl 1<|L0<|b7 g mZ fun n j k=>Pl 1<|nt<|rt<|tr<|bL j (.int .i64 1)<|?_
 exact bu (ud h k f)
theorem mP{dir c:Int}{b:List Int}(hd:dir=0∨dir=1)(hc:¬ c=20∧¬ c=21) : ag aY dir c b=(aP.zero,4):=by
  unfold ag aY
  rw[if_pos hd,if_neg (by simpa using hc.1),if_neg (by simpa using hc.2)]
theorem oH{form:Int→Int→aa→Option (aa × aP)}{dir c:Int}{b:List Int}(hd:¬ (dir=0∨dir=1)) : ag form dir c b=(aP.zero,1):=by
  unfold ag
  rw[if_neg hd]
theorem kZ{m:Md}{v:Value}{b:List Int}{w:World}{dir c:Int}(hc:B8 c)(h:bi m w v b)(hb:b.length≤1048576) :
    Calls Tryz.prog 96 #[.int .i64 dir,.int .u8 c,v] w (d7 v b (ag aY dir c b) w):=by
  have hr:=bi.range h
  obtain⟨A,cp,rfl,_,_⟩:=h.shape
  by_cases hd:dir=0∨dir=1
  · by_cases a:c=20
    · subst a
      rcases hd with rfl|rfl
      · rw[ml hr];exact pK h hb
      · rw[nh hr];exact pG h hb
    · by_cases d:c=21
      · subst d
        rw[oU hd hr];exact oW hd h hb
      · rw[mP hd ⟨a,d⟩];exact nK hd ⟨a,d⟩
  · rw[oH hd];exact pW hd
open Go.RowKit
theorem pE{k i:Nat}{C:aa}{L:List Obj}{R:aa × List Obj}(h:eb (k-i) C L=R)(hk:k-i=0) : R=(C,L):=by
  rw[hk] at h
  exact h.symm
theorem jm{m:Md}{A:Option Addr}{cp:Nat}{b:List Int}{w:World}{c:Int}(hcode:B8 c)(hsl:bi m w (.slice A b.length cp) b)(hb:b.length≤1048576) :
    Calls Tryz.prog 97 #[.int .i64 0,.int .u8 c,.slice A b.length cp] w (d7 (.slice A b.length cp) b (ag bN 0 c b) w):=by
 obtain⟨hcode1,hcode2⟩:=hcode
 have hln:(b.length:Int)≤1048576:=by omega
 refine en 176 Tryz.func97 rfl<|sg<|L0<|bK mZ fun bB bC r j a=>Pl 1<|nt<|sq<|sg<|Pl 6<|nt<|c0<|?_
 refine bz<|sq<|sg<|Pl 2<|nt<|cb ((c != 43)) (fun i=>?_) (fun i=>?_)
 have aL:=av i
 refine sg<|Pl 1<|L0<|b7 j mZ fun bD aM aN=>Pl 1<|nt<|rt<|tr<|bL aM (.int .i64 4)<|?_
 have hs:ag bN 0 c b=(aP.zero,4):=by
   unfold ag bN cY fg eE eF eh dN dY dk
   (try simp only[i,bs,if_true,if_false,decide_true,decide_false,eq_self,true_or,or_true,or_false,false_or,if_true,if_false,ch,cc,cg,ci,reduceIte])
   all_goals rfl
 rw[hs]
 exact bu (ud a aN r)
 have aL:=ai i
 refine bz<|sg<|Pl 2<|L0<|du #[.slice A b.length cp,.int .i64 0,.bool false,.int .i64 0] fun s bE d Y h=>Pl 1<|ng<|Pl 1<|L0<|bK mZ fun bF bG g aO aQ=>L0<|b7 aO (mC 43) fun aS aV aW=>?_
 refine ng<|Pl 1<|?_
 have Z:=ud aQ aW g
 have t:=aI h Z
 have a0:=aI a t
 have aX:RC w _ A cp b aS s (aa.mk b false 0):=⟨hsl,a0,(Nat.le_trans a.size d),⟨0,(ub Z Y),Nat.zero_le _,rfl⟩,by omega⟩
 refine L0<|Oc<|m3 (dB aX) fun bH aY a1 bI=>Pl 1<|?_
 have f:=nb (ak Y) lr g
 refine L0<|bU (aT a1 (Ne.symm f) aV) 16 (mG 43 0 0 0 0 0 0 0 0 0 0 0 nS nS nS nS ((aa.mk b false 0).byteV) 0 0 0 0 nS) fun bJ N a2=>ng<|Pl 2<|L0<|aR N 16<|Pl 2<|cu 4 [38] 42 (((((aa.mk b false 0).byteV)==13)||(((aa.mk b false 0).byteV)==14))) (fun K a3=>?_) ?_
 refine bl 38 ((((aa.mk b false 0).byteV)==13)) (fun y=>?_) (fun y=>?_)
 have aZ:=am y
 exact Pl 4<|ce a3 true (by rw[y];rfl)
 have aZ:=ap y
 exact Pl 1<|L1<|aR N 16<|Pl 2<|ce a3 (((aa.mk b false 0).byteV)==14) (by rw[y];rfl)
 have z:=us a1 a2
 have a4:=ut a0 z (ac (ni a.size d) (ac (ni (le a.size h.size) g) aq))
 refine L0<|Oc<|m2 (aU (((((aa.mk b false 0).byteV)==13)||(((aa.mk b false 0).byteV)==14))) 8 (RC.upd aY a2 (ae f ay) a4)) fun bM b0 o=>?_
 refine eX b0 fun x55 H B=>?_
 refine nt<|sq<|bk<|sg<|Pl 1<|?_
 have O:=aT o (Ne.symm f) N
 refine L0<|aR O 16<|Pl 2<|nt<|?_
 have a5:=ud a4 o (le a.size d)
 refine cb ((((aa.mk b false 0).byteV)==13)) (fun k=>?_) (fun k=>?_)
 have b1:=am k
 refine sg<|Pl 1<|L0<|Oc<|m1 (gl B) fun bO P=>?_
 have bP:=RC.clen B
 refine Pl 1<|ng<|Pl 3<|?_
 refine L0<|Oc<|m2 (aU ((decide (((x55.l.length:Nat) : Int)≤251))) 5 (RC.upd B P ay (aE.step (RC.u B) P))) fun bQ a6 b2=>nt<|go<|Pl 2<|L0<|Oc<|md (eQ (n:=((x55.l.length:Nat) : Int)) (by omega) a6) fun a7 a8 bR b3 b4 b5=>?_
 have bS:=Nat.le_trans (aa.bytesR_le (x55.need (decide (((x55.l.length:Nat) : Int)≤251)) 5) ((x55.l.length:Nat) : Int)) (RC.clen a6)
 refine eX b4 fun kg a9 b6=>?_
 refine Pl 1<|?_
 have ab:=uz P (u1 b2 b5 im)
 refine L0<|bU (aT ab (Ne.symm f) O) 14 (mG 43 0 0 0 0 0 0 0 0 0 0 0 nS nS (.slice a7 (((x55.need (decide (((x55.l.length:Nat) : Int)≤251)) 5).bytesR ((x55.l.length:Nat) : Int)).length) a8) nS ((aa.mk b false 0).byteV) 0 0 0 0 nS) fun bT b9 ad=>nl<|bn<|tn<|sg<|Pl 1<|?_
 have Q:=us ab ad
 have af:=ut a5 Q (ac (ni a.size d) (ac (ni (le a.size h.size) g) aq))
 refine L0<|Oc<|m2 (dR (RC.upd b6 ad (ae f ay) af)) fun bV R I=>nt<|sq<|sg<|Pl 3<|L0<|ec (p:=⟨s,3,none⟩) (v:=.int .i64 kg.endC.e) (RC.fld R)<|Pl 1<|nt<|?_
 have ah:=ud af I (le a.size d)
 refine cb ((kg.endC.e != 0)) (fun C=>?_) (fun C=>?_)
 have S:=av C
 refine sq<|Rg 7 (fun w'=>w'.cell? ⟨s,3,none⟩=some (.int .i64 kg.endC.e)) fun bW J=>?_
 have aj:=RC.upd R J ay (aE.step (RC.u R) J)
 refine bh (RC.fld aj) fun D=>Rt 0 D<|Rt 1 D<|Rt 2 D<|Rt 3 D<|Rl 4 D (fun _ hs=>hs)<|?_
 refine R0 5 rfl<|b7 (ub (ut t (ut z (ui o (u1 Q (aI I J) im)) (ac im (ac im aq))) (ac (nr d) (ac (ni h.size g) aq))) j) mZ fun bX ba al=>?_
 have an:=ud ah (uz J al) r
 refine bh (RC.fld (RC.upd aj al (ae (Ne.symm (nb (ak j) lr d)) ay) an)) fun bb=>Rt 6 bb<|re<|tn<|rt<|tr<|bL ba (.int .i64 kg.endC.e)<|?_
 subst a9 H
 have hs:ag bN 0 c b=aF (aP.mk 43 0 0 0 0 0 0 0 0 0 0 0 [] [] (((((aa.mk b false 0).bytesC 1).need ((((aa.mk b false 0).byteV)==13)||(((aa.mk b false 0).byteV)==14)) 8).need (decide ((((((aa.mk b false 0).bytesC 1).need ((((aa.mk b false 0).byteV)==13)||(((aa.mk b false 0).byteV)==14)) 8).l.length:Nat) : Int)≤251)) 5).bytesR (((((aa.mk b false 0).bytesC 1).need ((((aa.mk b false 0).byteV)==13)||(((aa.mk b false 0).byteV)==14)) 8).l.length:Nat) : Int)) [] ((aa.mk b false 0).byteV) 0 0 0 0 []) (((((aa.mk b false 0).bytesC 1).need ((((aa.mk b false 0).byteV)==13)||(((aa.mk b false 0).byteV)==14)) 8).need (decide ((((((aa.mk b false 0).bytesC 1).need ((((aa.mk b false 0).byteV)==13)||(((aa.mk b false 0).byteV)==14)) 8).l.length:Nat) : Int)≤251)) 5).bytesC (((((aa.mk b false 0).bytesC 1).need ((((aa.mk b false 0).byteV)==13)||(((aa.mk b false 0).byteV)==14)) 8).l.length:Nat) : Int)):=by
   unfold ag bN cY fg eE eF eh dN dY dk
   (try simp only[i,k,C,bs,if_true,if_false,decide_true,decide_false,eq_self,true_or,or_true,or_false,false_or,if_true,if_false,ch,cc,cg,ci,reduceIte])
   all_goals rfl
 rw[hs]
 exact bg S an
 have S:=ai C
 refine bz<|sg<|?_
 refine L0<|bZ (aT I (Ne.symm f) b9)<|?_
 refine L0<|b7 (ub (ut t (ut z (ui o (u1 Q I im)) (ac im (ac im aq))) (ac (nr d) (ac (ni h.size g) aq))) j) (mG 43 0 0 0 0 0 0 0 0 0 0 0 nS nS (.slice a7 (((x55.need (decide (((x55.l.length:Nat) : Int)≤251)) 5).bytesR ((x55.l.length:Nat) : Int)).length) a8) nS ((aa.mk b false 0).byteV) 0 0 0 0 nS) fun bY bc bd=>Pl 1<|nt<|rt<|bL bc (.int .i64 0)<|?_
 subst a9 H
 have hs:ag bN 0 c b=aF (aP.mk 43 0 0 0 0 0 0 0 0 0 0 0 [] [] (((((aa.mk b false 0).bytesC 1).need ((((aa.mk b false 0).byteV)==13)||(((aa.mk b false 0).byteV)==14)) 8).need (decide ((((((aa.mk b false 0).bytesC 1).need ((((aa.mk b false 0).byteV)==13)||(((aa.mk b false 0).byteV)==14)) 8).l.length:Nat) : Int)≤251)) 5).bytesR (((((aa.mk b false 0).bytesC 1).need ((((aa.mk b false 0).byteV)==13)||(((aa.mk b false 0).byteV)==14)) 8).l.length:Nat) : Int)) [] ((aa.mk b false 0).byteV) 0 0 0 0 []) (((((aa.mk b false 0).bytesC 1).need ((((aa.mk b false 0).byteV)==13)||(((aa.mk b false 0).byteV)==14)) 8).need (decide ((((((aa.mk b false 0).bytesC 1).need ((((aa.mk b false 0).byteV)==13)||(((aa.mk b false 0).byteV)==14)) 8).l.length:Nat) : Int)≤251)) 5).bytesC (((((aa.mk b false 0).bytesC 1).need ((((aa.mk b false 0).byteV)==13)||(((aa.mk b false 0).byteV)==14)) 8).l.length:Nat) : Int)):=by
   unfold ag bN cY fg eE eF eh dN dY dk
   (try simp only[i,k,C,bs,if_true,if_false,decide_true,decide_false,eq_self,true_or,or_true,or_false,false_or,if_true,if_false,ch,cc,cg,ci,reduceIte])
   all_goals rfl
 rw[hs]
 exact bo S ⟨_,_,_,_,_,rfl,aK.nil ..,aK.nil ..,b3,aK.nil ..,aK.nil ..,⟨(b8 (x:=43) (by omega)),(b8 (x:=0) (by omega)),(aB (x:=0) (by omega)),(aB (x:=0) (by omega)),(aB (x:=0) (by omega)),(aB (x:=0) (by omega)),(aB (x:=0) (by omega)),(aB (x:=0) (by omega)),(aB (x:=0) (by omega)),(aB (x:=0) (by omega)),(aB (x:=0) (by omega)),(aB (x:=0) (by omega)),(b8 (x:=(aa.mk b false 0).byteV) (by omega)),(b8 (x:=0) (by omega)),(b8 (x:=0) (by omega)),(b8 (x:=0) (by omega)),(b8 (x:=0) (by omega))⟩⟩ (ud ah bd r)
 have b1:=ap k
 refine sg<|Pl 3<|nt<|c1<|sg<|Pl 1<|L0<|Oc<|m3 (dB B) fun c2 be ao c3=>Pl 1<|?_
 refine L0<|bU (aT ao (Ne.symm f) O) 17 (mG 43 0 0 0 0 0 0 0 0 0 0 0 nS nS nS nS ((aa.mk b false 0).byteV) x55.byteV 0 0 0 nS) fun c4 T ar=>ng<|Pl 2<|L0<|aR T 17<|Pl 2<|cu 4 [154] 158 (((decide (0<x55.byteV))&&(decide (x55.byteV<5)))) (fun K au=>?_) ?_
 refine bl 154 ((decide (0<x55.byteV))) (fun E=>?_) (fun E=>?_)
 have bf:=of_decide_eq_true E
 exact Pl 1<|L1<|aR T 17<|Pl 2<|ce au (decide (x55.byteV<5)) (by rw[E];rfl)
 have bf:=of_decide_eq_false E
 exact Pl 4<|ce au false (by rw[E];rfl)
 have U:=us ao ar
 have aw:=ut a5 U (ac (ni a.size d) (ac (ni (le a.size h.size) g) aq))
 refine L0<|Oc<|m2 (aU (((decide (0<x55.byteV))&&(decide (x55.byteV<5)))) 6 (RC.upd be ar (ae f ay) aw)) fun c5 bj bm=>?_
 refine eX bj fun q ax bp=>?_
 refine nt<|go<|Pl 1<|L0<|Oc<|m3 (dB bp) fun c6 bq br c7=>Pl 1<|?_
 have az:=u1 bm br im
 refine L0<|bU (aT az (Ne.symm f) T) 20 (mG 43 0 0 0 0 0 0 0 0 0 0 0 nS nS nS nS ((aa.mk b false 0).byteV) x55.byteV 0 0 q.byteV nS) fun c8 bt aA=>nl<|bn<|tn<|sg<|Pl 1<|?_
 have V:=us az aA
 have aC:=ut aw V (ac (ni a.size d) (ac (ni (le a.size h.size) g) aq))
 refine L0<|Oc<|m2 (dR (RC.upd bq aA (ae f ay) aC)) fun c9 W L=>nt<|sq<|sg<|Pl 3<|L0<|ec (p:=⟨s,3,none⟩) (v:=.int .i64 (((q.bytesC 1).endC).e)) (RC.fld W)<|Pl 1<|nt<|?_
 have aD:=ud aC L (le a.size d)
 refine cb (((((q.bytesC 1).endC).e)!=0)) (fun F=>?_) (fun F=>?_)
 have X:=av F
 refine sq<|Rg 7 (fun w'=>w'.cell? ⟨s,3,none⟩=some (.int .i64 (((q.bytesC 1).endC).e))) fun ca M=>?_
 have aG:=RC.upd W M ay (aE.step (RC.u W) M)
 refine bh (RC.fld aG) fun G=>Rt 0 G<|Rt 1 G<|Rt 2 G<|Rt 3 G<|Rl 4 G (fun _ hs=>hs)<|?_
 refine R0 5 rfl<|b7 (ub (ut t (ut z (ui o (ut U (u1 V (aI L M) im) (ac im (ac im aq)))) (ac im (ac im aq))) (ac (nr d) (ac (ni h.size g) aq))) j) mZ fun cd bv aH=>?_
 have aJ:=ud aD (uz M aH) r
 refine bh (RC.fld (RC.upd aG aH (ae (Ne.symm (nb (ak j) lr d)) ay) aJ)) fun bw=>Rt 6 bw<|re<|tn<|rt<|tr<|bL bv (.int .i64 (((q.bytesC 1).endC).e))<|?_
 subst ax H
 have hs:ag bN 0 c b=aF (aP.mk 43 0 0 0 0 0 0 0 0 0 0 0 [] [] [] [] ((aa.mk b false 0).byteV) ((((aa.mk b false 0).bytesC 1).need ((((aa.mk b false 0).byteV)==13)||(((aa.mk b false 0).byteV)==14)) 8).byteV) 0 0 ((((((aa.mk b false 0).bytesC 1).need ((((aa.mk b false 0).byteV)==13)||(((aa.mk b false 0).byteV)==14)) 8).bytesC 1).need ((decide (0<(((aa.mk b false 0).bytesC 1).need ((((aa.mk b false 0).byteV)==13)||(((aa.mk b false 0).byteV)==14)) 8).byteV))&&(decide ((((aa.mk b false 0).bytesC 1).need ((((aa.mk b false 0).byteV)==13)||(((aa.mk b false 0).byteV)==14)) 8).byteV<5))) 6).byteV) []) ((((((aa.mk b false 0).bytesC 1).need ((((aa.mk b false 0).byteV)==13)||(((aa.mk b false 0).byteV)==14)) 8).bytesC 1).need ((decide (0<(((aa.mk b false 0).bytesC 1).need ((((aa.mk b false 0).byteV)==13)||(((aa.mk b false 0).byteV)==14)) 8).byteV))&&(decide ((((aa.mk b false 0).bytesC 1).need ((((aa.mk b false 0).byteV)==13)||(((aa.mk b false 0).byteV)==14)) 8).byteV<5))) 6).bytesC 1):=by
   unfold ag bN cY fg eE eF eh dN dY dk
   (try simp only[i,k,F,bs,if_true,if_false,decide_true,decide_false,eq_self,true_or,or_true,or_false,false_or,if_true,if_false,ch,cc,cg,ci,reduceIte])
   all_goals rfl
 rw[hs]
 exact bg X aJ
 have X:=ai F
 refine bz<|sg<|?_
 refine L0<|bZ (aT L (Ne.symm f) bt)<|?_
 refine L0<|b7 (ub (ut t (ut z (ui o (ut U (u1 V L im) (ac im (ac im aq)))) (ac im (ac im aq))) (ac (nr d) (ac (ni h.size g) aq))) j) (mG 43 0 0 0 0 0 0 0 0 0 0 0 nS nS nS nS ((aa.mk b false 0).byteV) x55.byteV 0 0 q.byteV nS) fun cf bx bA=>Pl 1<|nt<|rt<|bL bx (.int .i64 0)<|?_
 subst ax H
 have hs:ag bN 0 c b=aF (aP.mk 43 0 0 0 0 0 0 0 0 0 0 0 [] [] [] [] ((aa.mk b false 0).byteV) ((((aa.mk b false 0).bytesC 1).need ((((aa.mk b false 0).byteV)==13)||(((aa.mk b false 0).byteV)==14)) 8).byteV) 0 0 ((((((aa.mk b false 0).bytesC 1).need ((((aa.mk b false 0).byteV)==13)||(((aa.mk b false 0).byteV)==14)) 8).bytesC 1).need ((decide (0<(((aa.mk b false 0).bytesC 1).need ((((aa.mk b false 0).byteV)==13)||(((aa.mk b false 0).byteV)==14)) 8).byteV))&&(decide ((((aa.mk b false 0).bytesC 1).need ((((aa.mk b false 0).byteV)==13)||(((aa.mk b false 0).byteV)==14)) 8).byteV<5))) 6).byteV) []) ((((((aa.mk b false 0).bytesC 1).need ((((aa.mk b false 0).byteV)==13)||(((aa.mk b false 0).byteV)==14)) 8).bytesC 1).need ((decide (0<(((aa.mk b false 0).bytesC 1).need ((((aa.mk b false 0).byteV)==13)||(((aa.mk b false 0).byteV)==14)) 8).byteV))&&(decide ((((aa.mk b false 0).bytesC 1).need ((((aa.mk b false 0).byteV)==13)||(((aa.mk b false 0).byteV)==14)) 8).byteV<5))) 6).bytesC 1):=by
   unfold ag bN cY fg eE eF eh dN dY dk
   (try simp only[i,k,F,bs,if_true,if_false,decide_true,decide_false,eq_self,true_or,or_true,or_false,false_or,if_true,if_false,ch,cc,cg,ci,reduceIte])
   all_goals rfl
 rw[hs]
 exact bo X ⟨_,_,_,_,_,rfl,aK.nil ..,aK.nil ..,(fun _ _ _=>aK.nil ..),aK.nil ..,aK.nil ..,⟨(b8 (x:=43) (by omega)),(b8 (x:=0) (by omega)),(aB (x:=0) (by omega)),(aB (x:=0) (by omega)),(aB (x:=0) (by omega)),(aB (x:=0) (by omega)),(aB (x:=0) (by omega)),(aB (x:=0) (by omega)),(aB (x:=0) (by omega)),(aB (x:=0) (by omega)),(aB (x:=0) (by omega)),(aB (x:=0) (by omega)),(b8 (x:=(aa.mk b false 0).byteV) (by omega)),(b8 (x:=(((aa.mk b false 0).bytesC 1).need ((((aa.mk b false 0).byteV)==13)||(((aa.mk b false 0).byteV)==14)) 8).byteV) (by omega)),(b8 (x:=0) (by omega)),(b8 (x:=0) (by omega)),(b8 (x:=(((((aa.mk b false 0).bytesC 1).need ((((aa.mk b false 0).byteV)==13)||(((aa.mk b false 0).byteV)==14)) 8).bytesC 1).need ((decide (0<(((aa.mk b false 0).bytesC 1).need ((((aa.mk b false 0).byteV)==13)||(((aa.mk b false 0).byteV)==14)) 8).byteV))&&(decide ((((aa.mk b false 0).bytesC 1).need ((((aa.mk b false 0).byteV)==13)||(((aa.mk b false 0).byteV)==14)) 8).byteV<5))) 6).byteV) (by omega))⟩⟩ (ud aD bA r)
theorem jD{m:Md}{A:Option Addr}{cp:Nat}{b:List Int}{w:World}{c:Int}(hcode:B8 c)(hsl:bi m w (.slice A b.length cp) b)(hb:b.length≤1048576) :
    Calls Tryz.prog 97 #[.int .i64 1,.int .u8 c,.slice A b.length cp] w (d7 (.slice A b.length cp) b (ag bN 1 c b) w):=by
 obtain⟨hcode1,hcode2⟩:=hcode
 have hln:(b.length:Int)≤1048576:=by omega
 refine en 176 Tryz.func97 rfl<|sg<|L0<|bK mZ fun a0 dL J t a=>Pl 1<|nt<|sq<|sg<|Pl 6<|nt<|c0<|?_
 refine bz<|sq<|sg<|Pl 2<|nt<|cb ((c != 43)) (fun y=>?_) (fun y=>?_)
 have cF:=av y
 refine sg<|Pl 1<|L0<|b7 t mZ fun dM cG cH=>Pl 1<|nt<|rt<|tr<|bL cG (.int .i64 4)<|?_
 have hs:ag bN 1 c b=(aP.zero,4):=by
   unfold ag bN cY fg eE eF eh dN dY dk
   (try simp only[y,bs,if_true,if_false,decide_true,decide_false,eq_self,true_or,or_true,or_false,false_or,if_true,if_false,ch,cc,cg,ci,reduceIte])
   all_goals rfl
 rw[hs]
 exact bu (ud a cH J)
 have cF:=ai y
 refine bz<|sg<|Pl 2<|L0<|du #[.slice A b.length cp,.int .i64 0,.bool false,.int .i64 0] fun s dO d b2 o=>Pl 1<|ng<|Pl 1<|L0<|bK mZ fun F dP q cI b3=>L0<|b7 cI (mC 43) fun cJ cK b4=>?_
 refine ng<|Pl 1<|?_
 have b5:=ud b3 b4 q
 have a1:=aI o b5
 have b6:=aI a a1
 have cL:RC w _ A cp b cJ s (aa.mk b false 0):=⟨hsl,b6,(Nat.le_trans a.size d),⟨0,(ub b5 b2),Nat.zero_le _,rfl⟩,by omega⟩
 refine L0<|Oc<|m3 (dB cL) fun dQ cM a9 dS=>Pl 1<|?_
 have f:=nb (ak b2) lr q
 refine L0<|bU (aT a9 (Ne.symm f) cK) 16 (mG 43 0 0 0 0 0 0 0 0 0 0 0 nS nS nS nS ((aa.mk b false 0).byteV) 0 0 0 0 nS) fun dT ab ad=>ng<|Pl 2<|L0<|aR ab 16<|Pl 2<|cu 4 [38] 42 (((((aa.mk b false 0).byteV)==13)||(((aa.mk b false 0).byteV)==14))) (fun K b9=>?_) ?_
 refine bl 38 ((((aa.mk b false 0).byteV)==13)) (fun M=>?_) (fun M=>?_)
 have cN:=am M
 exact Pl 4<|ce b9 true (by rw[M];rfl)
 have cN:=ap M
 exact Pl 1<|L1<|aR ab 16<|Pl 2<|ce b9 (((aa.mk b false 0).byteV)==14) (by rw[M];rfl)
 have a2:=us a9 ad
 have ba:=ut b6 a2 (ac (ni a.size d) (ac (ni (le a.size o.size) q) aq))
 refine L0<|Oc<|m2 (aU (((((aa.mk b false 0).byteV)==13)||(((aa.mk b false 0).byteV)==14))) 8 (RC.upd cM ad (ae f ay) ba)) fun dU cO G=>?_
 refine eX cO fun x55 a3 N=>?_
 refine nt<|sq<|bk<|sg<|Pl 1<|?_
 have af:=aT G (Ne.symm f) ab
 refine L0<|aR af 16<|Pl 2<|nt<|?_
 have bb:=ud ba G (le a.size d)
 refine cb ((((aa.mk b false 0).byteV)==13)) (fun E=>?_) (fun E=>?_)
 have cP:=am E
 refine sg<|Pl 1<|L0<|Oc<|m1 (gl N) fun dV ah=>?_
 have dW:=RC.clen N
 refine Pl 1<|ng<|Pl 3<|?_
 refine L0<|Oc<|m2 (aU ((decide (((x55.l.length:Nat) : Int)≤251))) 5 (RC.upd N ah ay (aE.step (RC.u N) ah))) fun dX bc cQ=>nt<|go<|Pl 2<|L0<|Oc<|md (eQ (n:=((x55.l.length:Nat) : Int)) (by omega) bc) fun bd be dZ cR cS cT=>?_
 have e0:=Nat.le_trans (aa.bytesR_le (x55.need (decide (((x55.l.length:Nat) : Int)≤251)) 5) ((x55.l.length:Nat) : Int)) (RC.clen bc)
 refine eX cS fun kg bm cU=>?_
 refine Pl 1<|?_
 have bp:=uz ah (u1 cQ cT im)
 refine L0<|bU (aT bp (Ne.symm f) af) 14 (mG 43 0 0 0 0 0 0 0 0 0 0 0 nS nS (.slice bd (((x55.need (decide (((x55.l.length:Nat) : Int)≤251)) 5).bytesR ((x55.l.length:Nat) : Int)).length) be) nS ((aa.mk b false 0).byteV) 0 0 0 0 nS) fun e1 cV bq=>nl<|bn<|tn<|sg<|Pl 1<|?_
 have aj:=us bp bq
 have br:=ut bb aj (ac (ni a.size d) (ac (ni (le a.size o.size) q) aq))
 refine L0<|Oc<|m2 (dR (RC.upd cU bq (ae f ay) br)) fun e2 al a4=>nt<|sq<|sg<|Pl 3<|L0<|ec (p:=⟨s,3,none⟩) (v:=.int .i64 kg.endC.e) (RC.fld al)<|Pl 1<|nt<|?_
 have bt:=ud br a4 (le a.size d)
 refine cb ((kg.endC.e != 0)) (fun O=>?_) (fun O=>?_)
 have an:=av O
 refine sq<|Rg 7 (fun w'=>w'.cell? ⟨s,3,none⟩=some (.int .i64 kg.endC.e)) fun e3 a5=>?_
 have bv:=RC.upd al a5 ay (aE.step (RC.u al) a5)
 refine bh (RC.fld bv) fun P=>Rt 0 P<|Rt 1 P<|Rt 2 P<|Rt 3 P<|Rl 4 P (fun _ hs=>hs)<|?_
 refine R0 5 rfl<|b7 (ub (ut a1 (ut a2 (ui G (u1 aj (aI a4 a5) im)) (ac im (ac im aq))) (ac (nr d) (ac (ni o.size q) aq))) t) mZ fun e4 cW bw=>?_
 have bA:=ud bt (uz a5 bw) J
 refine bh (RC.fld (RC.upd bv bw (ae (Ne.symm (nb (ak t) lr d)) ay) bA)) fun cX=>Rt 6 cX<|re<|tn<|rt<|tr<|bL cW (.int .i64 kg.endC.e)<|?_
 subst bm a3
 have hs:ag bN 1 c b=aF (aP.mk 43 0 0 0 0 0 0 0 0 0 0 0 [] [] (((((aa.mk b false 0).bytesC 1).need ((((aa.mk b false 0).byteV)==13)||(((aa.mk b false 0).byteV)==14)) 8).need (decide ((((((aa.mk b false 0).bytesC 1).need ((((aa.mk b false 0).byteV)==13)||(((aa.mk b false 0).byteV)==14)) 8).l.length:Nat) : Int)≤251)) 5).bytesR (((((aa.mk b false 0).bytesC 1).need ((((aa.mk b false 0).byteV)==13)||(((aa.mk b false 0).byteV)==14)) 8).l.length:Nat) : Int)) [] ((aa.mk b false 0).byteV) 0 0 0 0 []) (((((aa.mk b false 0).bytesC 1).need ((((aa.mk b false 0).byteV)==13)||(((aa.mk b false 0).byteV)==14)) 8).need (decide ((((((aa.mk b false 0).bytesC 1).need ((((aa.mk b false 0).byteV)==13)||(((aa.mk b false 0).byteV)==14)) 8).l.length:Nat) : Int)≤251)) 5).bytesC (((((aa.mk b false 0).bytesC 1).need ((((aa.mk b false 0).byteV)==13)||(((aa.mk b false 0).byteV)==14)) 8).l.length:Nat) : Int)):=by
   unfold ag bN cY fg eE eF eh dN dY dk
   (try simp only[y,E,O,bs,if_true,if_false,decide_true,decide_false,eq_self,true_or,or_true,or_false,false_or,if_true,if_false,ch,cc,cg,ci,reduceIte])
   all_goals rfl
 rw[hs]
 exact bg an bA
 have an:=ai O
 refine bz<|sg<|?_
 refine L0<|bZ (aT a4 (Ne.symm f) cV)<|?_
 refine L0<|b7 (ub (ut a1 (ut a2 (ui G (u1 aj a4 im)) (ac im (ac im aq))) (ac (nr d) (ac (ni o.size q) aq))) t) (mG 43 0 0 0 0 0 0 0 0 0 0 0 nS nS (.slice bd (((x55.need (decide (((x55.l.length:Nat) : Int)≤251)) 5).bytesR ((x55.l.length:Nat) : Int)).length) be) nS ((aa.mk b false 0).byteV) 0 0 0 0 nS) fun e5 cZ d0=>Pl 1<|nt<|rt<|bL cZ (.int .i64 0)<|?_
 subst bm a3
 have hs:ag bN 1 c b=aF (aP.mk 43 0 0 0 0 0 0 0 0 0 0 0 [] [] (((((aa.mk b false 0).bytesC 1).need ((((aa.mk b false 0).byteV)==13)||(((aa.mk b false 0).byteV)==14)) 8).need (decide ((((((aa.mk b false 0).bytesC 1).need ((((aa.mk b false 0).byteV)==13)||(((aa.mk b false 0).byteV)==14)) 8).l.length:Nat) : Int)≤251)) 5).bytesR (((((aa.mk b false 0).bytesC 1).need ((((aa.mk b false 0).byteV)==13)||(((aa.mk b false 0).byteV)==14)) 8).l.length:Nat) : Int)) [] ((aa.mk b false 0).byteV) 0 0 0 0 []) (((((aa.mk b false 0).bytesC 1).need ((((aa.mk b false 0).byteV)==13)||(((aa.mk b false 0).byteV)==14)) 8).need (decide ((((((aa.mk b false 0).bytesC 1).need ((((aa.mk b false 0).byteV)==13)||(((aa.mk b false 0).byteV)==14)) 8).l.length:Nat) : Int)≤251)) 5).bytesC (((((aa.mk b false 0).bytesC 1).need ((((aa.mk b false 0).byteV)==13)||(((aa.mk b false 0).byteV)==14)) 8).l.length:Nat) : Int)):=by
   unfold ag bN cY fg eE eF eh dN dY dk
   (try simp only[y,E,O,bs,if_true,if_false,decide_true,decide_false,eq_self,true_or,or_true,or_false,false_or,if_true,if_false,ch,cc,cg,ci,reduceIte])
   all_goals rfl
 rw[hs]
 exact bo an ⟨_,_,_,_,_,rfl,aK.nil ..,aK.nil ..,cR,aK.nil ..,aK.nil ..,⟨(b8 (x:=43) (by omega)),(b8 (x:=0) (by omega)),(aB (x:=0) (by omega)),(aB (x:=0) (by omega)),(aB (x:=0) (by omega)),(aB (x:=0) (by omega)),(aB (x:=0) (by omega)),(aB (x:=0) (by omega)),(aB (x:=0) (by omega)),(aB (x:=0) (by omega)),(aB (x:=0) (by omega)),(aB (x:=0) (by omega)),(b8 (x:=(aa.mk b false 0).byteV) (by omega)),(b8 (x:=0) (by omega)),(b8 (x:=0) (by omega)),(b8 (x:=0) (by omega)),(b8 (x:=0) (by omega))⟩⟩ (ud bt d0 J)
 have cP:=ap E
 refine sg<|Pl 3<|nt<|c0<|sg<|Pl 1<|L0<|Oc<|m3 (dB N) fun e6 d1 ao e7=>Pl 1<|?_
 refine L0<|bU (aT ao (Ne.symm f) af) 17 (mG 43 0 0 0 0 0 0 0 0 0 0 0 nS nS nS nS ((aa.mk b false 0).byteV) x55.byteV 0 0 0 nS) fun e8 ar aw=>ng<|Pl 2<|L0<|aR ar 17<|Pl 2<|cu 4 [51] 55 (((decide (0<x55.byteV))&&(decide (x55.byteV<5)))) (fun K bB=>?_) ?_
 refine bl 51 ((decide (0<x55.byteV))) (fun Q=>?_) (fun Q=>?_)
 have d2:=of_decide_eq_true Q
 exact Pl 1<|L1<|aR ar 17<|Pl 2<|ce bB (decide (x55.byteV<5)) (by rw[Q];rfl)
 have d2:=of_decide_eq_false Q
 exact Pl 4<|ce bB false (by rw[Q];rfl)
 have bC:=us ao aw
 have bD:=ut bb bC (ac (ni a.size d) (ac (ni (le a.size o.size) q) aq))
 refine L0<|Oc<|m2 (aU (((decide (0<x55.byteV))&&(decide (x55.byteV<5)))) 6 (RC.upd d1 aw (ae f ay) bD)) fun e9 d3 bE=>?_
 refine eX d3 fun j bF d4=>?_
 refine ng<|Pl 1<|L0<|Oc<|m3 (dB d4) fun ea d5 bG ed=>Pl 1<|?_
 have bH:=u1 bE bG im
 refine L0<|bU (aT bH (Ne.symm f) ar) 18 (mG 43 0 0 0 0 0 0 0 0 0 0 0 nS nS nS nS ((aa.mk b false 0).byteV) x55.byteV j.byteV 0 0 nS) fun ee bI az=>ng<|Pl 1<|L0<|aR bI 18<|L0<|Oe (.int .u8 (Int.tmod j.byteV 128)) (.int .u8 (j.byteV%128)) (congrArg (Value.int .u8) (Int.tmod_eq_emod_of_nonneg (by omega)))<|Pl 1<|ng<|Pl 4<|cu 3 [66] 69 (((decide (1≤(j.byteV%128)))&&(decide ((j.byteV%128)≤3)))) (fun K bJ=>?_) ?_
 refine bl 66 ((decide (1≤(j.byteV%128)))) (fun S=>?_) (fun S=>?_)
 have d6:=of_decide_eq_true S
 exact Pl 3<|ce bJ (decide ((j.byteV%128)≤3)) (by rw[S];rfl)
 have d6:=of_decide_eq_false S
 exact Pl 3<|ce bJ false (by rw[S];rfl)
 have bM:=us bH az
 have bO:=ut bD bM (ac (ni a.size d) (ac (ni (le a.size o.size) q) aq))
 refine L0<|Oc<|m2 (aU (((decide (1≤(j.byteV%128)))&&(decide ((j.byteV%128)≤3)))) 6 (RC.upd d5 az (ae f ay) bO)) fun ef d8 bP=>?_
 refine eX d8 fun k bQ d9=>?_
 refine ng<|Pl 1<|L0<|Oc<|m3 (dB d9) fun eg da bR ei=>Pl 1<|?_
 have bS:=u1 bP bR im
 refine L0<|bU (aT bS (Ne.symm f) bI) 19 (mG 43 0 0 0 0 0 0 0 0 0 0 0 nS nS nS nS ((aa.mk b false 0).byteV) x55.byteV j.byteV k.byteV 0 nS) fun ej aA aD=>ng<|Pl 2<|L0<|aR aA 19<|Pl 2<|cu 4 [78] 82 (((k.byteV==0)||(k.byteV==255))) (fun K bT=>?_) ?_
 refine bl 78 ((k.byteV==0)) (fun T=>?_) (fun T=>?_)
 have db:=am T
 exact Pl 4<|ce bT true (by rw[T];rfl)
 have db:=ap T
 exact Pl 1<|L1<|aR aA 19<|Pl 2<|ce bT (k.byteV==255) (by rw[T];rfl)
 have bV:=us bS aD
 have bW:=ut bO bV (ac (ni a.size d) (ac (ni (le a.size o.size) q) aq))
 refine L0<|Oc<|m2 (aU (((k.byteV==0)||(k.byteV==255))) 6 (RC.upd da aD (ae f ay) bW)) fun ek dc bX=>?_
 refine eX dc fun z bY dd=>?_
 refine ng<|Pl 1<|L0<|Oc<|m3 (dB dd) fun el de c1 em=>Pl 1<|?_
 have c2:=u1 bX c1 im
 refine L0<|bU (aT c2 (Ne.symm f) aA) 20 (mG 43 0 0 0 0 0 0 0 0 0 0 0 nS nS nS nS ((aa.mk b false 0).byteV) x55.byteV j.byteV k.byteV z.byteV nS) fun eo a6 aG=>ng<|Pl 2<|L0<|aR a6 20<|Pl 2<|cu 4 [91] 95 (((z.byteV==0)||(k.byteV==255))) (fun K c3=>?_) ?_
 refine bl 91 ((z.byteV==0)) (fun U=>?_) (fun U=>?_)
 have df:=am U
 exact Pl 4<|ce c3 true (by rw[U];rfl)
 have df:=ap U
 exact Pl 1<|L1<|aR a6 19<|Pl 2<|ce c3 (k.byteV==255) (by rw[U];rfl)
 have c4:=us c2 aG
 have c5:=ut bW c4 (ac (ni a.size d) (ac (ni (le a.size o.size) q) aq))
 refine L0<|Oc<|m2 (aU (((z.byteV==0)||(k.byteV==255))) 6 (RC.upd de aG (ae f ay) c5)) fun ep dg aH=>?_
 refine eX dg fun g c6 dh=>?_
 refine ng<|Pl 1<|L0<|Oc<|m3 (dB dh) fun eq di aJ er=>L0<|Oi g.byteV<|Pl 1<|ng<|Pl 4<|cu 4 [103] 107 (((g.byteV==1)||(x55.byteV != 4))) (fun K c7=>?_) ?_
 refine bl 103 ((g.byteV==1)) (fun V=>?_) (fun V=>?_)
 have dj:=am V
 exact Pl 4<|ce c7 true (by rw[V];rfl)
 have dj:=ap V
 refine Pl 1<|?_
 exact L1<|aR (aT (u1 aH aJ im) (Ne.symm f) a6) 17<|Pl 2<|ce c7 (x55.byteV != 4) (by rw[V];rfl)
 refine L0<|Oc<|m2 (aU (((g.byteV==1)||(x55.byteV != 4))) 5 di) fun dm dn c8=>?_
 refine eX dn fun aL c9 dp=>?_
 refine ng<|Pl 1<|nt<|bk<|?_
 have hKr:0≤g.byteV∧g.byteV<256:=by omega
 have aM:=u1 aH (u1 aJ c8 im) im
 refine jc (fun x=>[(6,.pointer (some ⟨a0,0,none⟩)),(7,.int .i64 0),(8,.pointer (some ⟨s,0,none⟩)),(9,.pointer (some ⟨F,0,none⟩)),(12,.int .i64 g.byteV),(13,.int .i64 ((x.1:Nat) : Int))]) (fun(x:Nat × aa × List Obj × Option Addr × Nat) w'=>aE [] w w'∧dm.heap.size≤w'.heap.size∧w'.heap[a0]? = some (.cells mZ 30 (0,0))∧RC w m A cp b w' s x.2.1∧w'.heap[F]? = some (.cells (mG 43 0 0 0 0 0 0 0 0 0 0 0 nS nS nS nS ((aa.mk b false 0).byteV) x55.byteV j.byteV k.byteV z.byteV (.slice x.2.2.2.1 x.2.2.1.length x.2.2.2.2)) 30 (0,0))∧bf w.heap.size 111 2 (m6 (.slice A b.length cp) b) w' (.slice x.2.2.2.1 x.2.2.1.length x.2.2.2.2) x.2.2.1∧(x.1≤g.byteV.toNat)∧(x.2.2.1.length=x.1)∧(eb (g.byteV.toNat-x.1) x.2.1 x.2.2.1=eb g.byteV.toNat aL [])) (fun x=>g.byteV.toNat-x.1) (0,aL,[],none,0) ⟨(ud c5 aM (le a.size d)),lr,(ub (ut a1 (ut a2 (ui G (ut bC (ut bM (ut bV (u1 c4 aM im) (ac im (ac im aq))) (ac im (ac im aq))) (ac im (ac im aq)))) (ac im (ac im aq))) (ac (nr d) (ac (ni o.size q) aq))) t),dp,(aT aM (Ne.symm f) a6),(bf.nil w.heap.size _ _ (m6 (.slice A b.length cp) b) _),(by(try dsimp only);omega),rfl,rfl⟩ ?_
 rintro⟨i,C,L,B,cq⟩ a7 ⟨ca,cd,dq,dr,ds,dt,dw,dx,dy⟩
 refine jf [(6,.pointer (some ⟨a0,0,none⟩)),(7,.int .i64 0),(8,.pointer (some ⟨s,0,none⟩)),(9,.pointer (some ⟨F,0,none⟩)),(12,.int .i64 g.byteV),(13,.int .i64 ((i:Nat) : Int))] ?_
 have H:a7.heap[a0]? = some (.cells mZ 30 (0,0)):=dq
 have D:RC w m A cp b a7 s C:=dr
 have hlC:=RC.clen D
 have hrC:gQ C:=RC.rng D
 have hbv:=gy hrC
 have hbv2:=gy (gc hrC (n:=1))
 have cf:a7.heap[F]? = some (.cells (mG 43 0 0 0 0 0 0 0 0 0 0 0 nS nS nS nS ((aa.mk b false 0).byteV) x55.byteV j.byteV k.byteV z.byteV (.slice B L.length cq)) 30 (0,0)):=ds
 have r:bf w.heap.size 111 2 (m6 (.slice A b.length cp) b) a7 (.slice B L.length cq) L:=dt
 have es:i≤g.byteV.toNat:=dw
 have et:L.length=i:=dx
 have cj:eb (g.byteV.toNat-i) C L=eb g.byteV.toNat aL []:=dy
 refine sq<|sg<|Pl 3<|nt<|cb ((decide (((i:Nat) : Int)<g.byteV))) (fun W=>?_) (fun W=>?_)
 have dz:=of_decide_eq_true W
 refine bz<|sq<|bk<|sg<|Pl 1<|L0<|Oc<|m3 (dB D) fun eu dA aN ev=>Pl 1<|ng<|Pl 1<|L0<|Oc<|m3 (dB dA) fun ew ck aO ex=>?_
 refine L0<|Oi ((C.bytesC 1).byteV)<|Pl 1<|ng<|Pl 2<|L0<|Oc<|md (eQ (n:=(C.bytesC 1).byteV) (by omega) ck) fun dC dD ey dE cl aQ=>?_
 have ez:=Nat.le_trans (aa.bytesR_le ((C.bytesC 1).bytesC 1) ((C.bytesC 1).byteV)) (RC.clen ck)
 refine Pl 1<|nt<|go<|Pl 1<|?_
 have aS:=u1 aN (u1 aO aQ im) im
 have aW:=aT aS (Ne.symm f) cf
 refine L0<|aR aW 21<|Pl 3<|L0<|dv (m:=1) (e:=111) #[.int .u8 C.byteV,.slice dC ((((C.bytesC 1).bytesC 1).bytesR ((C.bytesC 1).byteV)).length) dD] fun eA eB eC dF I=>?_
 have cm:=RC.upd cl I ay (aE.step (RC.u cl) I)
 have dG:=ik (R:=m6 (.slice A b.length cp) b) (x:=(Obj.mk C.byteV (((C.bytesC 1).bytesC 1).bytesR ((C.bytesC 1).byteV)))) dF rfl ⟨_,_,_,rfl,dE,b8 (x:=C.byteV) (by omega)⟩
 have cn:=aI aS I
 have co:=ax r cn (fun x hx=>(ae (fun e=>(RC.nrow D r (by decide)) (e▸hx)) ay)) (fun _ _ h=>h)
 refine L0<|fI (xs:=L) (ys:=([(Obj.mk C.byteV (((C.bytesC 1).bytesC 1).bytesR ((C.bytesC 1).byteV)))])) (.agg #[.int .u8 0,.slice none 0 0]) 2 32 co dG (by simp) m6.ones (fun _ _ _ _ h=>h) (by(try simp only[List.length_append,List.length_cons,List.length_nil,aC]);omega) (le (le (le (le (le (le (le (le (le (le (le (le (le (le (le (le (le (le (le (le (le (le (le (le (le a.size o.size) b3.size) b4.size) a9.size) ad.size) G.size) ao.size) aw.size) bE.size) bG.size) az.size) bP.size) bR.size) aD.size) bX.size) c1.size) aG.size) aH.size) aJ.size) c8.size) cd) aN.size) aO.size) aQ.size) I.size) fun cr cs eD ct aX=>Pl 1<|?_
 have cv:=aE.blk (ut (aE.mono (S':=(ob B++[])) I aq) aX (au il aq)) (bj (dl aW (ax r aS (fun x hx=>(ae (fun e=>(RC.nrow D r (by decide)) (e▸hx)) ay)) (fun _ _ h=>h)) (by decide)) ay) aW
 refine L0<|bU cv 21 (mG 43 0 0 0 0 0 0 0 0 0 0 0 nS nS nS nS ((aa.mk b false 0).byteV) x55.byteV j.byteV k.byteV z.byteV (.slice cr ((L++[(Obj.mk C.byteV (((C.bytesC 1).bytesC 1).bytesR ((C.bytesC 1).byteV)))]).length) cs)) fun eG dH aY=>nl<|bn<|tn<|go<|Pl 1<|L0<|Oi (((i:Nat) : Int)+1)<|Pl 1<|nl<|?_
 have cw:=u1 (aE.mono (S':=(ob B++(F :: []))) aX (au il aq)) aY im
 have cx:=ut (aE.mono (S':=(s :: (ob B++(F :: [])))) cn (ac im aq)) cw (au il (ac im aq))
 have cy:=ut ca cx (ac (ni a.size d) (au (aV r lr) (ac (ni (le a.size o.size) q) aq)))
 exact gf ((i+1),(((C.bytesC 1).bytesC 1).bytesC ((C.bytesC 1).byteV)),(L++[(Obj.mk C.byteV (((C.bytesC 1).bytesC 1).bytesR ((C.bytesC 1).byteV)))]),cr,cs) ⟨cy,(le (le (le (le (le (le cd aN.size) aO.size) aQ.size) I.size) aX.size) aY.size),(aE.blk cx (ae (nb (ak t) lr d) (bj (dl H r (by decide)) (ae (nb (ak t) o.size q) ay))) H),(RC.upd cm cw (bj (RC.nrow cm co (by decide)) (ae f ay)) cy),dH,(ax ct aY (fun x hx=>(ae (fun e=>(dl cv ct (by decide)) (e▸hx)) ay)) (fun _ _ h=>h)),(by(try dsimp only);omega),(by(try dsimp only);simp only[List.length_append,List.length_cons,List.length_nil];omega),(by(try dsimp only);rw[← cj,show g.byteV.toNat-i=(g.byteV.toNat-(i+1))+1 from by omega];rfl)⟩ (by omega)
 have dz:=of_decide_eq_false W
 refine xt<|tx<|tx<|bx<|bn<|tn<|sg<|Pl 1<|?_
 have hR:=pE cj (by omega)
 refine L0<|Oc<|m2 (dR D) fun eH aZ X=>nt<|sq<|sg<|Pl 3<|L0<|ec (p:=⟨s,3,none⟩) (v:=.int .i64 C.endC.e) (RC.fld aZ)<|Pl 1<|nt<|?_
 have cz:=ud ca X (le a.size d)
 refine cb ((C.endC.e != 0)) (fun Y=>?_) (fun Y=>?_)
 have b0:=av Y
 refine sq<|Rg 7 (fun w'=>w'.cell? ⟨s,3,none⟩=some (.int .i64 C.endC.e)) fun eI a8=>?_
 have cA:=RC.upd aZ a8 ay (aE.step (RC.u aZ) a8)
 refine bh (RC.fld cA) fun Z=>Rt 0 Z<|Rt 1 Z<|Rt 2 Z<|Rt 3 Z<|Rl 4 Z (fun _ hs=>hs)<|?_
 have cB:=aI X a8
 have cC:=nb (ak t) lr d
 refine R0 5 rfl<|b7 (aT cB cC H) mZ fun eJ dI b1=>?_
 have cD:=ud cz (uz a8 b1) J
 refine bh (RC.fld (RC.upd cA b1 (ae (Ne.symm cC) ay) cD)) fun dJ=>Rt 6 dJ<|re<|tn<|rt<|tr<|bL dI (.int .i64 C.endC.e)<|?_
 subst c9 c6 bY bQ bF a3
 have eK:=ax r (us cB b1) (fun x hx=>(ae (fun e=>(RC.nrow D r (by decide)) (e▸hx)) (ae (fun e=>(dl H r (by decide)) (e▸hx)) ay))) (fun _ _ h=>h)
 have hs:ag bN 1 c b=aF (aP.mk 43 0 0 0 0 0 0 0 0 0 0 0 [] [] [] [] ((aa.mk b false 0).byteV) ((((aa.mk b false 0).bytesC 1).need ((((aa.mk b false 0).byteV)==13)||(((aa.mk b false 0).byteV)==14)) 8).byteV) ((((((aa.mk b false 0).bytesC 1).need ((((aa.mk b false 0).byteV)==13)||(((aa.mk b false 0).byteV)==14)) 8).bytesC 1).need ((decide (0<(((aa.mk b false 0).bytesC 1).need ((((aa.mk b false 0).byteV)==13)||(((aa.mk b false 0).byteV)==14)) 8).byteV))&&(decide ((((aa.mk b false 0).bytesC 1).need ((((aa.mk b false 0).byteV)==13)||(((aa.mk b false 0).byteV)==14)) 8).byteV<5))) 6).byteV) ((((((((aa.mk b false 0).bytesC 1).need ((((aa.mk b false 0).byteV)==13)||(((aa.mk b false 0).byteV)==14)) 8).bytesC 1).need ((decide (0<(((aa.mk b false 0).bytesC 1).need ((((aa.mk b false 0).byteV)==13)||(((aa.mk b false 0).byteV)==14)) 8).byteV))&&(decide ((((aa.mk b false 0).bytesC 1).need ((((aa.mk b false 0).byteV)==13)||(((aa.mk b false 0).byteV)==14)) 8).byteV<5))) 6).bytesC 1).need ((decide (1≤((((((aa.mk b false 0).bytesC 1).need ((((aa.mk b false 0).byteV)==13)||(((aa.mk b false 0).byteV)==14)) 8).bytesC 1).need ((decide (0<(((aa.mk b false 0).bytesC 1).need ((((aa.mk b false 0).byteV)==13)||(((aa.mk b false 0).byteV)==14)) 8).byteV))&&(decide ((((aa.mk b false 0).bytesC 1).need ((((aa.mk b false 0).byteV)==13)||(((aa.mk b false 0).byteV)==14)) 8).byteV<5))) 6).byteV%128)))&&(decide (((((((aa.mk b false 0).bytesC 1).need ((((aa.mk b false 0).byteV)==13)||(((aa.mk b false 0).byteV)==14)) 8).bytesC 1).need ((decide (0<(((aa.mk b false 0).bytesC 1).need ((((aa.mk b false 0).byteV)==13)||(((aa.mk b false 0).byteV)==14)) 8).byteV))&&(decide ((((aa.mk b false 0).bytesC 1).need ((((aa.mk b false 0).byteV)==13)||(((aa.mk b false 0).byteV)==14)) 8).byteV<5))) 6).byteV%128)≤3))) 6).byteV) ((((((((((aa.mk b false 0).bytesC 1).need ((((aa.mk b false 0).byteV)==13)||(((aa.mk b false 0).byteV)==14)) 8).bytesC 1).need ((decide (0<(((aa.mk b false 0).bytesC 1).need ((((aa.mk b false 0).byteV)==13)||(((aa.mk b false 0).byteV)==14)) 8).byteV))&&(decide ((((aa.mk b false 0).bytesC 1).need ((((aa.mk b false 0).byteV)==13)||(((aa.mk b false 0).byteV)==14)) 8).byteV<5))) 6).bytesC 1).need ((decide (1≤((((((aa.mk b false 0).bytesC 1).need ((((aa.mk b false 0).byteV)==13)||(((aa.mk b false 0).byteV)==14)) 8).bytesC 1).need ((decide (0<(((aa.mk b false 0).bytesC 1).need ((((aa.mk b false 0).byteV)==13)||(((aa.mk b false 0).byteV)==14)) 8).byteV))&&(decide ((((aa.mk b false 0).bytesC 1).need ((((aa.mk b false 0).byteV)==13)||(((aa.mk b false 0).byteV)==14)) 8).byteV<5))) 6).byteV%128)))&&(decide (((((((aa.mk b false 0).bytesC 1).need ((((aa.mk b false 0).byteV)==13)||(((aa.mk b false 0).byteV)==14)) 8).bytesC 1).need ((decide (0<(((aa.mk b false 0).bytesC 1).need ((((aa.mk b false 0).byteV)==13)||(((aa.mk b false 0).byteV)==14)) 8).byteV))&&(decide ((((aa.mk b false 0).bytesC 1).need ((((aa.mk b false 0).byteV)==13)||(((aa.mk b false 0).byteV)==14)) 8).byteV<5))) 6).byteV%128)≤3))) 6).bytesC 1).need (((((((((aa.mk b false 0).bytesC 1).need ((((aa.mk b false 0).byteV)==13)||(((aa.mk b false 0).byteV)==14)) 8).bytesC 1).need ((decide (0<(((aa.mk b false 0).bytesC 1).need ((((aa.mk b false 0).byteV)==13)||(((aa.mk b false 0).byteV)==14)) 8).byteV))&&(decide ((((aa.mk b false 0).bytesC 1).need ((((aa.mk b false 0).byteV)==13)||(((aa.mk b false 0).byteV)==14)) 8).byteV<5))) 6).bytesC 1).need ((decide (1≤((((((aa.mk b false 0).bytesC 1).need ((((aa.mk b false 0).byteV)==13)||(((aa.mk b false 0).byteV)==14)) 8).bytesC 1).need ((decide (0<(((aa.mk b false 0).bytesC 1).need ((((aa.mk b false 0).byteV)==13)||(((aa.mk b false 0).byteV)==14)) 8).byteV))&&(decide ((((aa.mk b false 0).bytesC 1).need ((((aa.mk b false 0).byteV)==13)||(((aa.mk b false 0).byteV)==14)) 8).byteV<5))) 6).byteV%128)))&&(decide (((((((aa.mk b false 0).bytesC 1).need ((((aa.mk b false 0).byteV)==13)||(((aa.mk b false 0).byteV)==14)) 8).bytesC 1).need ((decide (0<(((aa.mk b false 0).bytesC 1).need ((((aa.mk b false 0).byteV)==13)||(((aa.mk b false 0).byteV)==14)) 8).byteV))&&(decide ((((aa.mk b false 0).bytesC 1).need ((((aa.mk b false 0).byteV)==13)||(((aa.mk b false 0).byteV)==14)) 8).byteV<5))) 6).byteV%128)≤3))) 6).byteV==0)||((((((((aa.mk b false 0).bytesC 1).need ((((aa.mk b false 0).byteV)==13)||(((aa.mk b false 0).byteV)==14)) 8).bytesC 1).need ((decide (0<(((aa.mk b false 0).bytesC 1).need ((((aa.mk b false 0).byteV)==13)||(((aa.mk b false 0).byteV)==14)) 8).byteV))&&(decide ((((aa.mk b false 0).bytesC 1).need ((((aa.mk b false 0).byteV)==13)||(((aa.mk b false 0).byteV)==14)) 8).byteV<5))) 6).bytesC 1).need ((decide (1≤((((((aa.mk b false 0).bytesC 1).need ((((aa.mk b false 0).byteV)==13)||(((aa.mk b false 0).byteV)==14)) 8).bytesC 1).need ((decide (0<(((aa.mk b false 0).bytesC 1).need ((((aa.mk b false 0).byteV)==13)||(((aa.mk b false 0).byteV)==14)) 8).byteV))&&(decide ((((aa.mk b false 0).bytesC 1).need ((((aa.mk b false 0).byteV)==13)||(((aa.mk b false 0).byteV)==14)) 8).byteV<5))) 6).byteV%128)))&&(decide (((((((aa.mk b false 0).bytesC 1).need ((((aa.mk b false 0).byteV)==13)||(((aa.mk b false 0).byteV)==14)) 8).bytesC 1).need ((decide (0<(((aa.mk b false 0).bytesC 1).need ((((aa.mk b false 0).byteV)==13)||(((aa.mk b false 0).byteV)==14)) 8).byteV))&&(decide ((((aa.mk b false 0).bytesC 1).need ((((aa.mk b false 0).byteV)==13)||(((aa.mk b false 0).byteV)==14)) 8).byteV<5))) 6).byteV%128)≤3))) 6).byteV==255)) 6).byteV) (eb (((((((((((aa.mk b false 0).bytesC 1).need ((((aa.mk b false 0).byteV)==13)||(((aa.mk b false 0).byteV)==14)) 8).bytesC 1).need ((decide (0<(((aa.mk b false 0).bytesC 1).need ((((aa.mk b false 0).byteV)==13)||(((aa.mk b false 0).byteV)==14)) 8).byteV))&&(decide ((((aa.mk b false 0).bytesC 1).need ((((aa.mk b false 0).byteV)==13)||(((aa.mk b false 0).byteV)==14)) 8).byteV<5))) 6).bytesC 1).need ((decide (1≤((((((aa.mk b false 0).bytesC 1).need ((((aa.mk b false 0).byteV)==13)||(((aa.mk b false 0).byteV)==14)) 8).bytesC 1).need ((decide (0<(((aa.mk b false 0).bytesC 1).need ((((aa.mk b false 0).byteV)==13)||(((aa.mk b false 0).byteV)==14)) 8).byteV))&&(decide ((((aa.mk b false 0).bytesC 1).need ((((aa.mk b false 0).byteV)==13)||(((aa.mk b false 0).byteV)==14)) 8).byteV<5))) 6).byteV%128)))&&(decide (((((((aa.mk b false 0).bytesC 1).need ((((aa.mk b false 0).byteV)==13)||(((aa.mk b false 0).byteV)==14)) 8).bytesC 1).need ((decide (0<(((aa.mk b false 0).bytesC 1).need ((((aa.mk b false 0).byteV)==13)||(((aa.mk b false 0).byteV)==14)) 8).byteV))&&(decide ((((aa.mk b false 0).bytesC 1).need ((((aa.mk b false 0).byteV)==13)||(((aa.mk b false 0).byteV)==14)) 8).byteV<5))) 6).byteV%128)≤3))) 6).bytesC 1).need (((((((((aa.mk b false 0).bytesC 1).need ((((aa.mk b false 0).byteV)==13)||(((aa.mk b false 0).byteV)==14)) 8).bytesC 1).need ((decide (0<(((aa.mk b false 0).bytesC 1).need ((((aa.mk b false 0).byteV)==13)||(((aa.mk b false 0).byteV)==14)) 8).byteV))&&(decide ((((aa.mk b false 0).bytesC 1).need ((((aa.mk b false 0).byteV)==13)||(((aa.mk b false 0).byteV)==14)) 8).byteV<5))) 6).bytesC 1).need ((decide (1≤((((((aa.mk b false 0).bytesC 1).need ((((aa.mk b false 0).byteV)==13)||(((aa.mk b false 0).byteV)==14)) 8).bytesC 1).need ((decide (0<(((aa.mk b false 0).bytesC 1).need ((((aa.mk b false 0).byteV)==13)||(((aa.mk b false 0).byteV)==14)) 8).byteV))&&(decide ((((aa.mk b false 0).bytesC 1).need ((((aa.mk b false 0).byteV)==13)||(((aa.mk b false 0).byteV)==14)) 8).byteV<5))) 6).byteV%128)))&&(decide (((((((aa.mk b false 0).bytesC 1).need ((((aa.mk b false 0).byteV)==13)||(((aa.mk b false 0).byteV)==14)) 8).bytesC 1).need ((decide (0<(((aa.mk b false 0).bytesC 1).need ((((aa.mk b false 0).byteV)==13)||(((aa.mk b false 0).byteV)==14)) 8).byteV))&&(decide ((((aa.mk b false 0).bytesC 1).need ((((aa.mk b false 0).byteV)==13)||(((aa.mk b false 0).byteV)==14)) 8).byteV<5))) 6).byteV%128)≤3))) 6).byteV==0)||((((((((aa.mk b false 0).bytesC 1).need ((((aa.mk b false 0).byteV)==13)||(((aa.mk b false 0).byteV)==14)) 8).bytesC 1).need ((decide (0<(((aa.mk b false 0).bytesC 1).need ((((aa.mk b false 0).byteV)==13)||(((aa.mk b false 0).byteV)==14)) 8).byteV))&&(decide ((((aa.mk b false 0).bytesC 1).need ((((aa.mk b false 0).byteV)==13)||(((aa.mk b false 0).byteV)==14)) 8).byteV<5))) 6).bytesC 1).need ((decide (1≤((((((aa.mk b false 0).bytesC 1).need ((((aa.mk b false 0).byteV)==13)||(((aa.mk b false 0).byteV)==14)) 8).bytesC 1).need ((decide (0<(((aa.mk b false 0).bytesC 1).need ((((aa.mk b false 0).byteV)==13)||(((aa.mk b false 0).byteV)==14)) 8).byteV))&&(decide ((((aa.mk b false 0).bytesC 1).need ((((aa.mk b false 0).byteV)==13)||(((aa.mk b false 0).byteV)==14)) 8).byteV<5))) 6).byteV%128)))&&(decide (((((((aa.mk b false 0).bytesC 1).need ((((aa.mk b false 0).byteV)==13)||(((aa.mk b false 0).byteV)==14)) 8).bytesC 1).need ((decide (0<(((aa.mk b false 0).bytesC 1).need ((((aa.mk b false 0).byteV)==13)||(((aa.mk b false 0).byteV)==14)) 8).byteV))&&(decide ((((aa.mk b false 0).bytesC 1).need ((((aa.mk b false 0).byteV)==13)||(((aa.mk b false 0).byteV)==14)) 8).byteV<5))) 6).byteV%128)≤3))) 6).byteV==255)) 6).bytesC 1).need (((((((((((aa.mk b false 0).bytesC 1).need ((((aa.mk b false 0).byteV)==13)||(((aa.mk b false 0).byteV)==14)) 8).bytesC 1).need ((decide (0<(((aa.mk b false 0).bytesC 1).need ((((aa.mk b false 0).byteV)==13)||(((aa.mk b false 0).byteV)==14)) 8).byteV))&&(decide ((((aa.mk b false 0).bytesC 1).need ((((aa.mk b false 0).byteV)==13)||(((aa.mk b false 0).byteV)==14)) 8).byteV<5))) 6).bytesC 1).need ((decide (1≤((((((aa.mk b false 0).bytesC 1).need ((((aa.mk b false 0).byteV)==13)||(((aa.mk b false 0).byteV)==14)) 8).bytesC 1).need ((decide (0<(((aa.mk b false 0).bytesC 1).need ((((aa.mk b false 0).byteV)==13)||(((aa.mk b false 0).byteV)==14)) 8).byteV))&&(decide ((((aa.mk b false 0).bytesC 1).need ((((aa.mk b false 0).byteV)==13)||(((aa.mk b false 0).byteV)==14)) 8).byteV<5))) 6).byteV%128)))&&(decide (((((((aa.mk b false 0).bytesC 1).need ((((aa.mk b false 0).byteV)==13)||(((aa.mk b false 0).byteV)==14)) 8).bytesC 1).need ((decide (0<(((aa.mk b false 0).bytesC 1).need ((((aa.mk b false 0).byteV)==13)||(((aa.mk b false 0).byteV)==14)) 8).byteV))&&(decide ((((aa.mk b false 0).bytesC 1).need ((((aa.mk b false 0).byteV)==13)||(((aa.mk b false 0).byteV)==14)) 8).byteV<5))) 6).byteV%128)≤3))) 6).bytesC 1).need (((((((((aa.mk b false 0).bytesC 1).need ((((aa.mk b false 0).byteV)==13)||(((aa.mk b false 0).byteV)==14)) 8).bytesC 1).need ((decide (0<(((aa.mk b false 0).bytesC 1).need ((((aa.mk b false 0).byteV)==13)||(((aa.mk b false 0).byteV)==14)) 8).byteV))&&(decide ((((aa.mk b false 0).bytesC 1).need ((((aa.mk b false 0).byteV)==13)||(((aa.mk b false 0).byteV)==14)) 8).byteV<5))) 6).bytesC 1).need ((decide (1≤((((((aa.mk b false 0).bytesC 1).need ((((aa.mk b false 0).byteV)==13)||(((aa.mk b false 0).byteV)==14)) 8).bytesC 1).need ((decide (0<(((aa.mk b false 0).bytesC 1).need ((((aa.mk b false 0).byteV)==13)||(((aa.mk b false 0).byteV)==14)) 8).byteV))&&(decide ((((aa.mk b false 0).bytesC 1).need ((((aa.mk b false 0).byteV)==13)||(((aa.mk b false 0).byteV)==14)) 8).byteV<5))) 6).byteV%128)))&&(decide (((((((aa.mk b false 0).bytesC 1).need ((((aa.mk b false 0).byteV)==13)||(((aa.mk b false 0).byteV)==14)) 8).bytesC 1).need ((decide (0<(((aa.mk b false 0).bytesC 1).need ((((aa.mk b false 0).byteV)==13)||(((aa.mk b false 0).byteV)==14)) 8).byteV))&&(decide ((((aa.mk b false 0).bytesC 1).need ((((aa.mk b false 0).byteV)==13)||(((aa.mk b false 0).byteV)==14)) 8).byteV<5))) 6).byteV%128)≤3))) 6).byteV==0)||((((((((aa.mk b false 0).bytesC 1).need ((((aa.mk b false 0).byteV)==13)||(((aa.mk b false 0).byteV)==14)) 8).bytesC 1).need ((decide (0<(((aa.mk b false 0).bytesC 1).need ((((aa.mk b false 0).byteV)==13)||(((aa.mk b false 0).byteV)==14)) 8).byteV))&&(decide ((((aa.mk b false 0).bytesC 1).need ((((aa.mk b false 0).byteV)==13)||(((aa.mk b false 0).byteV)==14)) 8).byteV<5))) 6).bytesC 1).need ((decide (1≤((((((aa.mk b false 0).bytesC 1).need ((((aa.mk b false 0).byteV)==13)||(((aa.mk b false 0).byteV)==14)) 8).bytesC 1).need ((decide (0<(((aa.mk b false 0).bytesC 1).need ((((aa.mk b false 0).byteV)==13)||(((aa.mk b false 0).byteV)==14)) 8).byteV))&&(decide ((((aa.mk b false 0).bytesC 1).need ((((aa.mk b false 0).byteV)==13)||(((aa.mk b false 0).byteV)==14)) 8).byteV<5))) 6).byteV%128)))&&(decide (((((((aa.mk b false 0).bytesC 1).need ((((aa.mk b false 0).byteV)==13)||(((aa.mk b false 0).byteV)==14)) 8).bytesC 1).need ((decide (0<(((aa.mk b false 0).bytesC 1).need ((((aa.mk b false 0).byteV)==13)||(((aa.mk b false 0).byteV)==14)) 8).byteV))&&(decide ((((aa.mk b false 0).bytesC 1).need ((((aa.mk b false 0).byteV)==13)||(((aa.mk b false 0).byteV)==14)) 8).byteV<5))) 6).byteV%128)≤3))) 6).byteV==255)) 6).byteV==0)||((((((((aa.mk b false 0).bytesC 1).need ((((aa.mk b false 0).byteV)==13)||(((aa.mk b false 0).byteV)==14)) 8).bytesC 1).need ((decide (0<(((aa.mk b false 0).bytesC 1).need ((((aa.mk b false 0).byteV)==13)||(((aa.mk b false 0).byteV)==14)) 8).byteV))&&(decide ((((aa.mk b false 0).bytesC 1).need ((((aa.mk b false 0).byteV)==13)||(((aa.mk b false 0).byteV)==14)) 8).byteV<5))) 6).bytesC 1).need ((decide (1≤((((((aa.mk b false 0).bytesC 1).need ((((aa.mk b false 0).byteV)==13)||(((aa.mk b false 0).byteV)==14)) 8).bytesC 1).need ((decide (0<(((aa.mk b false 0).bytesC 1).need ((((aa.mk b false 0).byteV)==13)||(((aa.mk b false 0).byteV)==14)) 8).byteV))&&(decide ((((aa.mk b false 0).bytesC 1).need ((((aa.mk b false 0).byteV)==13)||(((aa.mk b false 0).byteV)==14)) 8).byteV<5))) 6).byteV%128)))&&(decide (((((((aa.mk b false 0).bytesC 1).need ((((aa.mk b false 0).byteV)==13)||(((aa.mk b false 0).byteV)==14)) 8).bytesC 1).need ((decide (0<(((aa.mk b false 0).bytesC 1).need ((((aa.mk b false 0).byteV)==13)||(((aa.mk b false 0).byteV)==14)) 8).byteV))&&(decide ((((aa.mk b false 0).bytesC 1).need ((((aa.mk b false 0).byteV)==13)||(((aa.mk b false 0).byteV)==14)) 8).byteV<5))) 6).byteV%128)≤3))) 6).byteV==255)) 6).byteV.toNat (((((((((((((aa.mk b false 0).bytesC 1).need ((((aa.mk b false 0).byteV)==13)||(((aa.mk b false 0).byteV)==14)) 8).bytesC 1).need ((decide (0<(((aa.mk b false 0).bytesC 1).need ((((aa.mk b false 0).byteV)==13)||(((aa.mk b false 0).byteV)==14)) 8).byteV))&&(decide ((((aa.mk b false 0).bytesC 1).need ((((aa.mk b false 0).byteV)==13)||(((aa.mk b false 0).byteV)==14)) 8).byteV<5))) 6).bytesC 1).need ((decide (1≤((((((aa.mk b false 0).bytesC 1).need ((((aa.mk b false 0).byteV)==13)||(((aa.mk b false 0).byteV)==14)) 8).bytesC 1).need ((decide (0<(((aa.mk b false 0).bytesC 1).need ((((aa.mk b false 0).byteV)==13)||(((aa.mk b false 0).byteV)==14)) 8).byteV))&&(decide ((((aa.mk b false 0).bytesC 1).need ((((aa.mk b false 0).byteV)==13)||(((aa.mk b false 0).byteV)==14)) 8).byteV<5))) 6).byteV%128)))&&(decide (((((((aa.mk b false 0).bytesC 1).need ((((aa.mk b false 0).byteV)==13)||(((aa.mk b false 0).byteV)==14)) 8).bytesC 1).need ((decide (0<(((aa.mk b false 0).bytesC 1).need ((((aa.mk b false 0).byteV)==13)||(((aa.mk b false 0).byteV)==14)) 8).byteV))&&(decide ((((aa.mk b false 0).bytesC 1).need ((((aa.mk b false 0).byteV)==13)||(((aa.mk b false 0).byteV)==14)) 8).byteV<5))) 6).byteV%128)≤3))) 6).bytesC 1).need (((((((((aa.mk b false 0).bytesC 1).need ((((aa.mk b false 0).byteV)==13)||(((aa.mk b false 0).byteV)==14)) 8).bytesC 1).need ((decide (0<(((aa.mk b false 0).bytesC 1).need ((((aa.mk b false 0).byteV)==13)||(((aa.mk b false 0).byteV)==14)) 8).byteV))&&(decide ((((aa.mk b false 0).bytesC 1).need ((((aa.mk b false 0).byteV)==13)||(((aa.mk b false 0).byteV)==14)) 8).byteV<5))) 6).bytesC 1).need ((decide (1≤((((((aa.mk b false 0).bytesC 1).need ((((aa.mk b false 0).byteV)==13)||(((aa.mk b false 0).byteV)==14)) 8).bytesC 1).need ((decide (0<(((aa.mk b false 0).bytesC 1).need ((((aa.mk b false 0).byteV)==13)||(((aa.mk b false 0).byteV)==14)) 8).byteV))&&(decide ((((aa.mk b false 0).bytesC 1).need ((((aa.mk b false 0).byteV)==13)||(((aa.mk b false 0).byteV)==14)) 8).byteV<5))) 6).byteV%128)))&&(decide (((((((aa.mk b false 0).bytesC 1).need ((((aa.mk b false 0).byteV)==13)||(((aa.mk b false 0).byteV)==14)) 8).bytesC 1).need ((decide (0<(((aa.mk b false 0).bytesC 1).need ((((aa.mk b false 0).byteV)==13)||(((aa.mk b false 0).byteV)==14)) 8).byteV))&&(decide ((((aa.mk b false 0).bytesC 1).need ((((aa.mk b false 0).byteV)==13)||(((aa.mk b false 0).byteV)==14)) 8).byteV<5))) 6).byteV%128)≤3))) 6).byteV==0)||((((((((aa.mk b false 0).bytesC 1).need ((((aa.mk b false 0).byteV)==13)||(((aa.mk b false 0).byteV)==14)) 8).bytesC 1).need ((decide (0<(((aa.mk b false 0).bytesC 1).need ((((aa.mk b false 0).byteV)==13)||(((aa.mk b false 0).byteV)==14)) 8).byteV))&&(decide ((((aa.mk b false 0).bytesC 1).need ((((aa.mk b false 0).byteV)==13)||(((aa.mk b false 0).byteV)==14)) 8).byteV<5))) 6).bytesC 1).need ((decide (1≤((((((aa.mk b false 0).bytesC 1).need ((((aa.mk b false 0).byteV)==13)||(((aa.mk b false 0).byteV)==14)) 8).bytesC 1).need ((decide (0<(((aa.mk b false 0).bytesC 1).need ((((aa.mk b false 0).byteV)==13)||(((aa.mk b false 0).byteV)==14)) 8).byteV))&&(decide ((((aa.mk b false 0).bytesC 1).need ((((aa.mk b false 0).byteV)==13)||(((aa.mk b false 0).byteV)==14)) 8).byteV<5))) 6).byteV%128)))&&(decide (((((((aa.mk b false 0).bytesC 1).need ((((aa.mk b false 0).byteV)==13)||(((aa.mk b false 0).byteV)==14)) 8).bytesC 1).need ((decide (0<(((aa.mk b false 0).bytesC 1).need ((((aa.mk b false 0).byteV)==13)||(((aa.mk b false 0).byteV)==14)) 8).byteV))&&(decide ((((aa.mk b false 0).bytesC 1).need ((((aa.mk b false 0).byteV)==13)||(((aa.mk b false 0).byteV)==14)) 8).byteV<5))) 6).byteV%128)≤3))) 6).byteV==255)) 6).bytesC 1).need (((((((((((aa.mk b false 0).bytesC 1).need ((((aa.mk b false 0).byteV)==13)||(((aa.mk b false 0).byteV)==14)) 8).bytesC 1).need ((decide (0<(((aa.mk b false 0).bytesC 1).need ((((aa.mk b false 0).byteV)==13)||(((aa.mk b false 0).byteV)==14)) 8).byteV))&&(decide ((((aa.mk b false 0).bytesC 1).need ((((aa.mk b false 0).byteV)==13)||(((aa.mk b false 0).byteV)==14)) 8).byteV<5))) 6).bytesC 1).need ((decide (1≤((((((aa.mk b false 0).bytesC 1).need ((((aa.mk b false 0).byteV)==13)||(((aa.mk b false 0).byteV)==14)) 8).bytesC 1).need ((decide (0<(((aa.mk b false 0).bytesC 1).need ((((aa.mk b false 0).byteV)==13)||(((aa.mk b false 0).byteV)==14)) 8).byteV))&&(decide ((((aa.mk b false 0).bytesC 1).need ((((aa.mk b false 0).byteV)==13)||(((aa.mk b false 0).byteV)==14)) 8).byteV<5))) 6).byteV%128)))&&(decide (((((((aa.mk b false 0).bytesC 1).need ((((aa.mk b false 0).byteV)==13)||(((aa.mk b false 0).byteV)==14)) 8).bytesC 1).need ((decide (0<(((aa.mk b false 0).bytesC 1).need ((((aa.mk b false 0).byteV)==13)||(((aa.mk b false 0).byteV)==14)) 8).byteV))&&(decide ((((aa.mk b false 0).bytesC 1).need ((((aa.mk b false 0).byteV)==13)||(((aa.mk b false 0).byteV)==14)) 8).byteV<5))) 6).byteV%128)≤3))) 6).bytesC 1).need (((((((((aa.mk b false 0).bytesC 1).need ((((aa.mk b false 0).byteV)==13)||(((aa.mk b false 0).byteV)==14)) 8).bytesC 1).need ((decide (0<(((aa.mk b false 0).bytesC 1).need ((((aa.mk b false 0).byteV)==13)||(((aa.mk b false 0).byteV)==14)) 8).byteV))&&(decide ((((aa.mk b false 0).bytesC 1).need ((((aa.mk b false 0).byteV)==13)||(((aa.mk b false 0).byteV)==14)) 8).byteV<5))) 6).bytesC 1).need ((decide (1≤((((((aa.mk b false 0).bytesC 1).need ((((aa.mk b false 0).byteV)==13)||(((aa.mk b false 0).byteV)==14)) 8).bytesC 1).need ((decide (0<(((aa.mk b false 0).bytesC 1).need ((((aa.mk b false 0).byteV)==13)||(((aa.mk b false 0).byteV)==14)) 8).byteV))&&(decide ((((aa.mk b false 0).bytesC 1).need ((((aa.mk b false 0).byteV)==13)||(((aa.mk b false 0).byteV)==14)) 8).byteV<5))) 6).byteV%128)))&&(decide (((((((aa.mk b false 0).bytesC 1).need ((((aa.mk b false 0).byteV)==13)||(((aa.mk b false 0).byteV)==14)) 8).bytesC 1).need ((decide (0<(((aa.mk b false 0).bytesC 1).need ((((aa.mk b false 0).byteV)==13)||(((aa.mk b false 0).byteV)==14)) 8).byteV))&&(decide ((((aa.mk b false 0).bytesC 1).need ((((aa.mk b false 0).byteV)==13)||(((aa.mk b false 0).byteV)==14)) 8).byteV<5))) 6).byteV%128)≤3))) 6).byteV==0)||((((((((aa.mk b false 0).bytesC 1).need ((((aa.mk b false 0).byteV)==13)||(((aa.mk b false 0).byteV)==14)) 8).bytesC 1).need ((decide (0<(((aa.mk b false 0).bytesC 1).need ((((aa.mk b false 0).byteV)==13)||(((aa.mk b false 0).byteV)==14)) 8).byteV))&&(decide ((((aa.mk b false 0).bytesC 1).need ((((aa.mk b false 0).byteV)==13)||(((aa.mk b false 0).byteV)==14)) 8).byteV<5))) 6).bytesC 1).need ((decide (1≤((((((aa.mk b false 0).bytesC 1).need ((((aa.mk b false 0).byteV)==13)||(((aa.mk b false 0).byteV)==14)) 8).bytesC 1).need ((decide (0<(((aa.mk b false 0).bytesC 1).need ((((aa.mk b false 0).byteV)==13)||(((aa.mk b false 0).byteV)==14)) 8).byteV))&&(decide ((((aa.mk b false 0).bytesC 1).need ((((aa.mk b false 0).byteV)==13)||(((aa.mk b false 0).byteV)==14)) 8).byteV<5))) 6).byteV%128)))&&(decide (((((((aa.mk b false 0).bytesC 1).need ((((aa.mk b false 0).byteV)==13)||(((aa.mk b false 0).byteV)==14)) 8).bytesC 1).need ((decide (0<(((aa.mk b false 0).bytesC 1).need ((((aa.mk b false 0).byteV)==13)||(((aa.mk b false 0).byteV)==14)) 8).byteV))&&(decide ((((aa.mk b false 0).bytesC 1).need ((((aa.mk b false 0).byteV)==13)||(((aa.mk b false 0).byteV)==14)) 8).byteV<5))) 6).byteV%128)≤3))) 6).byteV==255)) 6).byteV==0)||((((((((aa.mk b false 0).bytesC 1).need ((((aa.mk b false 0).byteV)==13)||(((aa.mk b false 0).byteV)==14)) 8).bytesC 1).need ((decide (0<(((aa.mk b false 0).bytesC 1).need ((((aa.mk b false 0).byteV)==13)||(((aa.mk b false 0).byteV)==14)) 8).byteV))&&(decide ((((aa.mk b false 0).bytesC 1).need ((((aa.mk b false 0).byteV)==13)||(((aa.mk b false 0).byteV)==14)) 8).byteV<5))) 6).bytesC 1).need ((decide (1≤((((((aa.mk b false 0).bytesC 1).need ((((aa.mk b false 0).byteV)==13)||(((aa.mk b false 0).byteV)==14)) 8).bytesC 1).need ((decide (0<(((aa.mk b false 0).bytesC 1).need ((((aa.mk b false 0).byteV)==13)||(((aa.mk b false 0).byteV)==14)) 8).byteV))&&(decide ((((aa.mk b false 0).bytesC 1).need ((((aa.mk b false 0).byteV)==13)||(((aa.mk b false 0).byteV)==14)) 8).byteV<5))) 6).byteV%128)))&&(decide (((((((aa.mk b false 0).bytesC 1).need ((((aa.mk b false 0).byteV)==13)||(((aa.mk b false 0).byteV)==14)) 8).bytesC 1).need ((decide (0<(((aa.mk b false 0).bytesC 1).need ((((aa.mk b false 0).byteV)==13)||(((aa.mk b false 0).byteV)==14)) 8).byteV))&&(decide ((((aa.mk b false 0).bytesC 1).need ((((aa.mk b false 0).byteV)==13)||(((aa.mk b false 0).byteV)==14)) 8).byteV<5))) 6).byteV%128)≤3))) 6).byteV==255)) 6).bytesC 1).need (((((((((((((aa.mk b false 0).bytesC 1).need ((((aa.mk b false 0).byteV)==13)||(((aa.mk b false 0).byteV)==14)) 8).bytesC 1).need ((decide (0<(((aa.mk b false 0).bytesC 1).need ((((aa.mk b false 0).byteV)==13)||(((aa.mk b false 0).byteV)==14)) 8).byteV))&&(decide ((((aa.mk b false 0).bytesC 1).need ((((aa.mk b false 0).byteV)==13)||(((aa.mk b false 0).byteV)==14)) 8).byteV<5))) 6).bytesC 1).need ((decide (1≤((((((aa.mk b false 0).bytesC 1).need ((((aa.mk b false 0).byteV)==13)||(((aa.mk b false 0).byteV)==14)) 8).bytesC 1).need ((decide (0<(((aa.mk b false 0).bytesC 1).need ((((aa.mk b false 0).byteV)==13)||(((aa.mk b false 0).byteV)==14)) 8).byteV))&&(decide ((((aa.mk b false 0).bytesC 1).need ((((aa.mk b false 0).byteV)==13)||(((aa.mk b false 0).byteV)==14)) 8).byteV<5))) 6).byteV%128)))&&(decide (((((((aa.mk b false 0).bytesC 1).need ((((aa.mk b false 0).byteV)==13)||(((aa.mk b false 0).byteV)==14)) 8).bytesC 1).need ((decide (0<(((aa.mk b false 0).bytesC 1).need ((((aa.mk b false 0).byteV)==13)||(((aa.mk b false 0).byteV)==14)) 8).byteV))&&(decide ((((aa.mk b false 0).bytesC 1).need ((((aa.mk b false 0).byteV)==13)||(((aa.mk b false 0).byteV)==14)) 8).byteV<5))) 6).byteV%128)≤3))) 6).bytesC 1).need (((((((((aa.mk b false 0).bytesC 1).need ((((aa.mk b false 0).byteV)==13)||(((aa.mk b false 0).byteV)==14)) 8).bytesC 1).need ((decide (0<(((aa.mk b false 0).bytesC 1).need ((((aa.mk b false 0).byteV)==13)||(((aa.mk b false 0).byteV)==14)) 8).byteV))&&(decide ((((aa.mk b false 0).bytesC 1).need ((((aa.mk b false 0).byteV)==13)||(((aa.mk b false 0).byteV)==14)) 8).byteV<5))) 6).bytesC 1).need ((decide (1≤((((((aa.mk b false 0).bytesC 1).need ((((aa.mk b false 0).byteV)==13)||(((aa.mk b false 0).byteV)==14)) 8).bytesC 1).need ((decide (0<(((aa.mk b false 0).bytesC 1).need ((((aa.mk b false 0).byteV)==13)||(((aa.mk b false 0).byteV)==14)) 8).byteV))&&(decide ((((aa.mk b false 0).bytesC 1).need ((((aa.mk b false 0).byteV)==13)||(((aa.mk b false 0).byteV)==14)) 8).byteV<5))) 6).byteV%128)))&&(decide (((((((aa.mk b false 0).bytesC 1).need ((((aa.mk b false 0).byteV)==13)||(((aa.mk b false 0).byteV)==14)) 8).bytesC 1).need ((decide (0<(((aa.mk b false 0).bytesC 1).need ((((aa.mk b false 0).byteV)==13)||(((aa.mk b false 0).byteV)==14)) 8).byteV))&&(decide ((((aa.mk b false 0).bytesC 1).need ((((aa.mk b false 0).byteV)==13)||(((aa.mk b false 0).byteV)==14)) 8).byteV<5))) 6).byteV%128)≤3))) 6).byteV==0)||((((((((aa.mk b false 0).bytesC 1).need ((((aa.mk b false 0).byteV)==13)||(((aa.mk b false 0).byteV)==14)) 8).bytesC 1).need ((decide (0<(((aa.mk b false 0).bytesC 1).need ((((aa.mk b false 0).byteV)==13)||(((aa.mk b false 0).byteV)==14)) 8).byteV))&&(decide ((((aa.mk b false 0).bytesC 1).need ((((aa.mk b false 0).byteV)==13)||(((aa.mk b false 0).byteV)==14)) 8).byteV<5))) 6).bytesC 1).need ((decide (1≤((((((aa.mk b false 0).bytesC 1).need ((((aa.mk b false 0).byteV)==13)||(((aa.mk b false 0).byteV)==14)) 8).bytesC 1).need ((decide (0<(((aa.mk b false 0).bytesC 1).need ((((aa.mk b false 0).byteV)==13)||(((aa.mk b false 0).byteV)==14)) 8).byteV))&&(decide ((((aa.mk b false 0).bytesC 1).need ((((aa.mk b false 0).byteV)==13)||(((aa.mk b false 0).byteV)==14)) 8).byteV<5))) 6).byteV%128)))&&(decide (((((((aa.mk b false 0).bytesC 1).need ((((aa.mk b false 0).byteV)==13)||(((aa.mk b false 0).byteV)==14)) 8).bytesC 1).need ((decide (0<(((aa.mk b false 0).bytesC 1).need ((((aa.mk b false 0).byteV)==13)||(((aa.mk b false 0).byteV)==14)) 8).byteV))&&(decide ((((aa.mk b false 0).bytesC 1).need ((((aa.mk b false 0).byteV)==13)||(((aa.mk b false 0).byteV)==14)) 8).byteV<5))) 6).byteV%128)≤3))) 6).byteV==255)) 6).bytesC 1).need (((((((((((aa.mk b false 0).bytesC 1).need ((((aa.mk b false 0).byteV)==13)||(((aa.mk b false 0).byteV)==14)) 8).bytesC 1).need ((decide (0<(((aa.mk b false 0).bytesC 1).need ((((aa.mk b false 0).byteV)==13)||(((aa.mk b false 0).byteV)==14)) 8).byteV))&&(decide ((((aa.mk b false 0).bytesC 1).need ((((aa.mk b false 0).byteV)==13)||(((aa.mk b false 0).byteV)==14)) 8).byteV<5))) 6).bytesC 1).need ((decide (1≤((((((aa.mk b false 0).bytesC 1).need ((((aa.mk b false 0).byteV)==13)||(((aa.mk b false 0).byteV)==14)) 8).bytesC 1).need ((decide (0<(((aa.mk b false 0).bytesC 1).need ((((aa.mk b false 0).byteV)==13)||(((aa.mk b false 0).byteV)==14)) 8).byteV))&&(decide ((((aa.mk b false 0).bytesC 1).need ((((aa.mk b false 0).byteV)==13)||(((aa.mk b false 0).byteV)==14)) 8).byteV<5))) 6).byteV%128)))&&(decide (((((((aa.mk b false 0).bytesC 1).need ((((aa.mk b false 0).byteV)==13)||(((aa.mk b false 0).byteV)==14)) 8).bytesC 1).need ((decide (0<(((aa.mk b false 0).bytesC 1).need ((((aa.mk b false 0).byteV)==13)||(((aa.mk b false 0).byteV)==14)) 8).byteV))&&(decide ((((aa.mk b false 0).bytesC 1).need ((((aa.mk b false 0).byteV)==13)||(((aa.mk b false 0).byteV)==14)) 8).byteV<5))) 6).byteV%128)≤3))) 6).bytesC 1).need (((((((((aa.mk b false 0).bytesC 1).need ((((aa.mk b false 0).byteV)==13)||(((aa.mk b false 0).byteV)==14)) 8).bytesC 1).need ((decide (0<(((aa.mk b false 0).bytesC 1).need ((((aa.mk b false 0).byteV)==13)||(((aa.mk b false 0).byteV)==14)) 8).byteV))&&(decide ((((aa.mk b false 0).bytesC 1).need ((((aa.mk b false 0).byteV)==13)||(((aa.mk b false 0).byteV)==14)) 8).byteV<5))) 6).bytesC 1).need ((decide (1≤((((((aa.mk b false 0).bytesC 1).need ((((aa.mk b false 0).byteV)==13)||(((aa.mk b false 0).byteV)==14)) 8).bytesC 1).need ((decide (0<(((aa.mk b false 0).bytesC 1).need ((((aa.mk b false 0).byteV)==13)||(((aa.mk b false 0).byteV)==14)) 8).byteV))&&(decide ((((aa.mk b false 0).bytesC 1).need ((((aa.mk b false 0).byteV)==13)||(((aa.mk b false 0).byteV)==14)) 8).byteV<5))) 6).byteV%128)))&&(decide (((((((aa.mk b false 0).bytesC 1).need ((((aa.mk b false 0).byteV)==13)||(((aa.mk b false 0).byteV)==14)) 8).bytesC 1).need ((decide (0<(((aa.mk b false 0).bytesC 1).need ((((aa.mk b false 0).byteV)==13)||(((aa.mk b false 0).byteV)==14)) 8).byteV))&&(decide ((((aa.mk b false 0).bytesC 1).need ((((aa.mk b false 0).byteV)==13)||(((aa.mk b false 0).byteV)==14)) 8).byteV<5))) 6).byteV%128)≤3))) 6).byteV==0)||((((((((aa.mk b false 0).bytesC 1).need ((((aa.mk b false 0).byteV)==13)||(((aa.mk b false 0).byteV)==14)) 8).bytesC 1).need ((decide (0<(((aa.mk b false 0).bytesC 1).need ((((aa.mk b false 0).byteV)==13)||(((aa.mk b false 0).byteV)==14)) 8).byteV))&&(decide ((((aa.mk b false 0).bytesC 1).need ((((aa.mk b false 0).byteV)==13)||(((aa.mk b false 0).byteV)==14)) 8).byteV<5))) 6).bytesC 1).need ((decide (1≤((((((aa.mk b false 0).bytesC 1).need ((((aa.mk b false 0).byteV)==13)||(((aa.mk b false 0).byteV)==14)) 8).bytesC 1).need ((decide (0<(((aa.mk b false 0).bytesC 1).need ((((aa.mk b false 0).byteV)==13)||(((aa.mk b false 0).byteV)==14)) 8).byteV))&&(decide ((((aa.mk b false 0).bytesC 1).need ((((aa.mk b false 0).byteV)==13)||(((aa.mk b false 0).byteV)==14)) 8).byteV<5))) 6).byteV%128)))&&(decide (((((((aa.mk b false 0).bytesC 1).need ((((aa.mk b false 0).byteV)==13)||(((aa.mk b false 0).byteV)==14)) 8).bytesC 1).need ((decide (0<(((aa.mk b false 0).bytesC 1).need ((((aa.mk b false 0).byteV)==13)||(((aa.mk b false 0).byteV)==14)) 8).byteV))&&(decide ((((aa.mk b false 0).bytesC 1).need ((((aa.mk b false 0).byteV)==13)||(((aa.mk b false 0).byteV)==14)) 8).byteV<5))) 6).byteV%128)≤3))) 6).byteV==255)) 6).byteV==0)||((((((((aa.mk b false 0).bytesC 1).need ((((aa.mk b false 0).byteV)==13)||(((aa.mk b false 0).byteV)==14)) 8).bytesC 1).need ((decide (0<(((aa.mk b false 0).bytesC 1).need ((((aa.mk b false 0).byteV)==13)||(((aa.mk b false 0).byteV)==14)) 8).byteV))&&(decide ((((aa.mk b false 0).bytesC 1).need ((((aa.mk b false 0).byteV)==13)||(((aa.mk b false 0).byteV)==14)) 8).byteV<5))) 6).bytesC 1).need ((decide (1≤((((((aa.mk b false 0).bytesC 1).need ((((aa.mk b false 0).byteV)==13)||(((aa.mk b false 0).byteV)==14)) 8).bytesC 1).need ((decide (0<(((aa.mk b false 0).bytesC 1).need ((((aa.mk b false 0).byteV)==13)||(((aa.mk b false 0).byteV)==14)) 8).byteV))&&(decide ((((aa.mk b false 0).bytesC 1).need ((((aa.mk b false 0).byteV)==13)||(((aa.mk b false 0).byteV)==14)) 8).byteV<5))) 6).byteV%128)))&&(decide (((((((aa.mk b false 0).bytesC 1).need ((((aa.mk b false 0).byteV)==13)||(((aa.mk b false 0).byteV)==14)) 8).bytesC 1).need ((decide (0<(((aa.mk b false 0).bytesC 1).need ((((aa.mk b false 0).byteV)==13)||(((aa.mk b false 0).byteV)==14)) 8).byteV))&&(decide ((((aa.mk b false 0).bytesC 1).need ((((aa.mk b false 0).byteV)==13)||(((aa.mk b false 0).byteV)==14)) 8).byteV<5))) 6).byteV%128)≤3))) 6).byteV==255)) 6).byteV==1)||((((aa.mk b false 0).bytesC 1).need ((((aa.mk b false 0).byteV)==13)||(((aa.mk b false 0).byteV)==14)) 8).byteV != 4)) 5) []).2) (eb (((((((((((aa.mk b false 0).bytesC 1).need ((((aa.mk b false 0).byteV)==13)||(((aa.mk b false 0).byteV)==14)) 8).bytesC 1).need ((decide (0<(((aa.mk b false 0).bytesC 1).need ((((aa.mk b false 0).byteV)==13)||(((aa.mk b false 0).byteV)==14)) 8).byteV))&&(decide ((((aa.mk b false 0).bytesC 1).need ((((aa.mk b false 0).byteV)==13)||(((aa.mk b false 0).byteV)==14)) 8).byteV<5))) 6).bytesC 1).need ((decide (1≤((((((aa.mk b false 0).bytesC 1).need ((((aa.mk b false 0).byteV)==13)||(((aa.mk b false 0).byteV)==14)) 8).bytesC 1).need ((decide (0<(((aa.mk b false 0).bytesC 1).need ((((aa.mk b false 0).byteV)==13)||(((aa.mk b false 0).byteV)==14)) 8).byteV))&&(decide ((((aa.mk b false 0).bytesC 1).need ((((aa.mk b false 0).byteV)==13)||(((aa.mk b false 0).byteV)==14)) 8).byteV<5))) 6).byteV%128)))&&(decide (((((((aa.mk b false 0).bytesC 1).need ((((aa.mk b false 0).byteV)==13)||(((aa.mk b false 0).byteV)==14)) 8).bytesC 1).need ((decide (0<(((aa.mk b false 0).bytesC 1).need ((((aa.mk b false 0).byteV)==13)||(((aa.mk b false 0).byteV)==14)) 8).byteV))&&(decide ((((aa.mk b false 0).bytesC 1).need ((((aa.mk b false 0).byteV)==13)||(((aa.mk b false 0).byteV)==14)) 8).byteV<5))) 6).byteV%128)≤3))) 6).bytesC 1).need (((((((((aa.mk b false 0).bytesC 1).need ((((aa.mk b false 0).byteV)==13)||(((aa.mk b false 0).byteV)==14)) 8).bytesC 1).need ((decide (0<(((aa.mk b false 0).bytesC 1).need ((((aa.mk b false 0).byteV)==13)||(((aa.mk b false 0).byteV)==14)) 8).byteV))&&(decide ((((aa.mk b false 0).bytesC 1).need ((((aa.mk b false 0).byteV)==13)||(((aa.mk b false 0).byteV)==14)) 8).byteV<5))) 6).bytesC 1).need ((decide (1≤((((((aa.mk b false 0).bytesC 1).need ((((aa.mk b false 0).byteV)==13)||(((aa.mk b false 0).byteV)==14)) 8).bytesC 1).need ((decide (0<(((aa.mk b false 0).bytesC 1).need ((((aa.mk b false 0).byteV)==13)||(((aa.mk b false 0).byteV)==14)) 8).byteV))&&(decide ((((aa.mk b false 0).bytesC 1).need ((((aa.mk b false 0).byteV)==13)||(((aa.mk b false 0).byteV)==14)) 8).byteV<5))) 6).byteV%128)))&&(decide (((((((aa.mk b false 0).bytesC 1).need ((((aa.mk b false 0).byteV)==13)||(((aa.mk b false 0).byteV)==14)) 8).bytesC 1).need ((decide (0<(((aa.mk b false 0).bytesC 1).need ((((aa.mk b false 0).byteV)==13)||(((aa.mk b false 0).byteV)==14)) 8).byteV))&&(decide ((((aa.mk b false 0).bytesC 1).need ((((aa.mk b false 0).byteV)==13)||(((aa.mk b false 0).byteV)==14)) 8).byteV<5))) 6).byteV%128)≤3))) 6).byteV==0)||((((((((aa.mk b false 0).bytesC 1).need ((((aa.mk b false 0).byteV)==13)||(((aa.mk b false 0).byteV)==14)) 8).bytesC 1).need ((decide (0<(((aa.mk b false 0).bytesC 1).need ((((aa.mk b false 0).byteV)==13)||(((aa.mk b false 0).byteV)==14)) 8).byteV))&&(decide ((((aa.mk b false 0).bytesC 1).need ((((aa.mk b false 0).byteV)==13)||(((aa.mk b false 0).byteV)==14)) 8).byteV<5))) 6).bytesC 1).need ((decide (1≤((((((aa.mk b false 0).bytesC 1).need ((((aa.mk b false 0).byteV)==13)||(((aa.mk b false 0).byteV)==14)) 8).bytesC 1).need ((decide (0<(((aa.mk b false 0).bytesC 1).need ((((aa.mk b false 0).byteV)==13)||(((aa.mk b false 0).byteV)==14)) 8).byteV))&&(decide ((((aa.mk b false 0).bytesC 1).need ((((aa.mk b false 0).byteV)==13)||(((aa.mk b false 0).byteV)==14)) 8).byteV<5))) 6).byteV%128)))&&(decide (((((((aa.mk b false 0).bytesC 1).need ((((aa.mk b false 0).byteV)==13)||(((aa.mk b false 0).byteV)==14)) 8).bytesC 1).need ((decide (0<(((aa.mk b false 0).bytesC 1).need ((((aa.mk b false 0).byteV)==13)||(((aa.mk b false 0).byteV)==14)) 8).byteV))&&(decide ((((aa.mk b false 0).bytesC 1).need ((((aa.mk b false 0).byteV)==13)||(((aa.mk b false 0).byteV)==14)) 8).byteV<5))) 6).byteV%128)≤3))) 6).byteV==255)) 6).bytesC 1).need (((((((((((aa.mk b false 0).bytesC 1).need ((((aa.mk b false 0).byteV)==13)||(((aa.mk b false 0).byteV)==14)) 8).bytesC 1).need ((decide (0<(((aa.mk b false 0).bytesC 1).need ((((aa.mk b false 0).byteV)==13)||(((aa.mk b false 0).byteV)==14)) 8).byteV))&&(decide ((((aa.mk b false 0).bytesC 1).need ((((aa.mk b false 0).byteV)==13)||(((aa.mk b false 0).byteV)==14)) 8).byteV<5))) 6).bytesC 1).need ((decide (1≤((((((aa.mk b false 0).bytesC 1).need ((((aa.mk b false 0).byteV)==13)||(((aa.mk b false 0).byteV)==14)) 8).bytesC 1).need ((decide (0<(((aa.mk b false 0).bytesC 1).need ((((aa.mk b false 0).byteV)==13)||(((aa.mk b false 0).byteV)==14)) 8).byteV))&&(decide ((((aa.mk b false 0).bytesC 1).need ((((aa.mk b false 0).byteV)==13)||(((aa.mk b false 0).byteV)==14)) 8).byteV<5))) 6).byteV%128)))&&(decide (((((((aa.mk b false 0).bytesC 1).need ((((aa.mk b false 0).byteV)==13)||(((aa.mk b false 0).byteV)==14)) 8).bytesC 1).need ((decide (0<(((aa.mk b false 0).bytesC 1).need ((((aa.mk b false 0).byteV)==13)||(((aa.mk b false 0).byteV)==14)) 8).byteV))&&(decide ((((aa.mk b false 0).bytesC 1).need ((((aa.mk b false 0).byteV)==13)||(((aa.mk b false 0).byteV)==14)) 8).byteV<5))) 6).byteV%128)≤3))) 6).bytesC 1).need (((((((((aa.mk b false 0).bytesC 1).need ((((aa.mk b false 0).byteV)==13)||(((aa.mk b false 0).byteV)==14)) 8).bytesC 1).need ((decide (0<(((aa.mk b false 0).bytesC 1).need ((((aa.mk b false 0).byteV)==13)||(((aa.mk b false 0).byteV)==14)) 8).byteV))&&(decide ((((aa.mk b false 0).bytesC 1).need ((((aa.mk b false 0).byteV)==13)||(((aa.mk b false 0).byteV)==14)) 8).byteV<5))) 6).bytesC 1).need ((decide (1≤((((((aa.mk b false 0).bytesC 1).need ((((aa.mk b false 0).byteV)==13)||(((aa.mk b false 0).byteV)==14)) 8).bytesC 1).need ((decide (0<(((aa.mk b false 0).bytesC 1).need ((((aa.mk b false 0).byteV)==13)||(((aa.mk b false 0).byteV)==14)) 8).byteV))&&(decide ((((aa.mk b false 0).bytesC 1).need ((((aa.mk b false 0).byteV)==13)||(((aa.mk b false 0).byteV)==14)) 8).byteV<5))) 6).byteV%128)))&&(decide (((((((aa.mk b false 0).bytesC 1).need ((((aa.mk b false 0).byteV)==13)||(((aa.mk b false 0).byteV)==14)) 8).bytesC 1).need ((decide (0<(((aa.mk b false 0).bytesC 1).need ((((aa.mk b false 0).byteV)==13)||(((aa.mk b false 0).byteV)==14)) 8).byteV))&&(decide ((((aa.mk b false 0).bytesC 1).need ((((aa.mk b false 0).byteV)==13)||(((aa.mk b false 0).byteV)==14)) 8).byteV<5))) 6).byteV%128)≤3))) 6).byteV==0)||((((((((aa.mk b false 0).bytesC 1).need ((((aa.mk b false 0).byteV)==13)||(((aa.mk b false 0).byteV)==14)) 8).bytesC 1).need ((decide (0<(((aa.mk b false 0).bytesC 1).need ((((aa.mk b false 0).byteV)==13)||(((aa.mk b false 0).byteV)==14)) 8).byteV))&&(decide ((((aa.mk b false 0).bytesC 1).need ((((aa.mk b false 0).byteV)==13)||(((aa.mk b false 0).byteV)==14)) 8).byteV<5))) 6).bytesC 1).need ((decide (1≤((((((aa.mk b false 0).bytesC 1).need ((((aa.mk b false 0).byteV)==13)||(((aa.mk b false 0).byteV)==14)) 8).bytesC 1).need ((decide (0<(((aa.mk b false 0).bytesC 1).need ((((aa.mk b false 0).byteV)==13)||(((aa.mk b false 0).byteV)==14)) 8).byteV))&&(decide ((((aa.mk b false 0).bytesC 1).need ((((aa.mk b false 0).byteV)==13)||(((aa.mk b false 0).byteV)==14)) 8).byteV<5))) 6).byteV%128)))&&(decide (((((((aa.mk b false 0).bytesC 1).need ((((aa.mk b false 0).byteV)==13)||(((aa.mk b false 0).byteV)==14)) 8).bytesC 1).need ((decide (0<(((aa.mk b false 0).bytesC 1).need ((((aa.mk b false 0).byteV)==13)||(((aa.mk b false 0).byteV)==14)) 8).byteV))&&(decide ((((aa.mk b false 0).bytesC 1).need ((((aa.mk b false 0).byteV)==13)||(((aa.mk b false 0).byteV)==14)) 8).byteV<5))) 6).byteV%128)≤3))) 6).byteV==255)) 6).byteV==0)||((((((((aa.mk b false 0).bytesC 1).need ((((aa.mk b false 0).byteV)==13)||(((aa.mk b false 0).byteV)==14)) 8).bytesC 1).need ((decide (0<(((aa.mk b false 0).bytesC 1).need ((((aa.mk b false 0).byteV)==13)||(((aa.mk b false 0).byteV)==14)) 8).byteV))&&(decide ((((aa.mk b false 0).bytesC 1).need ((((aa.mk b false 0).byteV)==13)||(((aa.mk b false 0).byteV)==14)) 8).byteV<5))) 6).bytesC 1).need ((decide (1≤((((((aa.mk b false 0).bytesC 1).need ((((aa.mk b false 0).byteV)==13)||(((aa.mk b false 0).byteV)==14)) 8).bytesC 1).need ((decide (0<(((aa.mk b false 0).bytesC 1).need ((((aa.mk b false 0).byteV)==13)||(((aa.mk b false 0).byteV)==14)) 8).byteV))&&(decide ((((aa.mk b false 0).bytesC 1).need ((((aa.mk b false 0).byteV)==13)||(((aa.mk b false 0).byteV)==14)) 8).byteV<5))) 6).byteV%128)))&&(decide (((((((aa.mk b false 0).bytesC 1).need ((((aa.mk b false 0).byteV)==13)||(((aa.mk b false 0).byteV)==14)) 8).bytesC 1).need ((decide (0<(((aa.mk b false 0).bytesC 1).need ((((aa.mk b false 0).byteV)==13)||(((aa.mk b false 0).byteV)==14)) 8).byteV))&&(decide ((((aa.mk b false 0).bytesC 1).need ((((aa.mk b false 0).byteV)==13)||(((aa.mk b false 0).byteV)==14)) 8).byteV<5))) 6).byteV%128)≤3))) 6).byteV==255)) 6).byteV.toNat (((((((((((((aa.mk b false 0).bytesC 1).need ((((aa.mk b false 0).byteV)==13)||(((aa.mk b false 0).byteV)==14)) 8).bytesC 1).need ((decide (0<(((aa.mk b false 0).bytesC 1).need ((((aa.mk b false 0).byteV)==13)||(((aa.mk b false 0).byteV)==14)) 8).byteV))&&(decide ((((aa.mk b false 0).bytesC 1).need ((((aa.mk b false 0).byteV)==13)||(((aa.mk b false 0).byteV)==14)) 8).byteV<5))) 6).bytesC 1).need ((decide (1≤((((((aa.mk b false 0).bytesC 1).need ((((aa.mk b false 0).byteV)==13)||(((aa.mk b false 0).byteV)==14)) 8).bytesC 1).need ((decide (0<(((aa.mk b false 0).bytesC 1).need ((((aa.mk b false 0).byteV)==13)||(((aa.mk b false 0).byteV)==14)) 8).byteV))&&(decide ((((aa.mk b false 0).bytesC 1).need ((((aa.mk b false 0).byteV)==13)||(((aa.mk b false 0).byteV)==14)) 8).byteV<5))) 6).byteV%128)))&&(decide (((((((aa.mk b false 0).bytesC 1).need ((((aa.mk b false 0).byteV)==13)||(((aa.mk b false 0).byteV)==14)) 8).bytesC 1).need ((decide (0<(((aa.mk b false 0).bytesC 1).need ((((aa.mk b false 0).byteV)==13)||(((aa.mk b false 0).byteV)==14)) 8).byteV))&&(decide ((((aa.mk b false 0).bytesC 1).need ((((aa.mk b false 0).byteV)==13)||(((aa.mk b false 0).byteV)==14)) 8).byteV<5))) 6).byteV%128)≤3))) 6).bytesC 1).need (((((((((aa.mk b false 0).bytesC 1).need ((((aa.mk b false 0).byteV)==13)||(((aa.mk b false 0).byteV)==14)) 8).bytesC 1).need ((decide (0<(((aa.mk b false 0).bytesC 1).need ((((aa.mk b false 0).byteV)==13)||(((aa.mk b false 0).byteV)==14)) 8).byteV))&&(decide ((((aa.mk b false 0).bytesC 1).need ((((aa.mk b false 0).byteV)==13)||(((aa.mk b false 0).byteV)==14)) 8).byteV<5))) 6).bytesC 1).need ((decide (1≤((((((aa.mk b false 0).bytesC 1).need ((((aa.mk b false 0).byteV)==13)||(((aa.mk b false 0).byteV)==14)) 8).bytesC 1).need ((decide (0<(((aa.mk b false 0).bytesC 1).need ((((aa.mk b false 0).byteV)==13)||(((aa.mk b false 0).byteV)==14)) 8).byteV))&&(decide ((((aa.mk b false 0).bytesC 1).need ((((aa.mk b false 0).byteV)==13)||(((aa.mk b false 0).byteV)==14)) 8).byteV<5))) 6).byteV%128)))&&(decide (((((((aa.mk b false 0).bytesC 1).need ((((aa.mk b false 0).byteV)==13)||(((aa.mk b false 0).byteV)==14)) 8).bytesC 1).need ((decide (0<(((aa.mk b false 0).bytesC 1).need ((((aa.mk b false 0).byteV)==13)||(((aa.mk b false 0).byteV)==14)) 8).byteV))&&(decide ((((aa.mk b false 0).bytesC 1).need ((((aa.mk b false 0).byteV)==13)||(((aa.mk b false 0).byteV)==14)) 8).byteV<5))) 6).byteV%128)≤3))) 6).byteV==0)||((((((((aa.mk b false 0).bytesC 1).need ((((aa.mk b false 0).byteV)==13)||(((aa.mk b false 0).byteV)==14)) 8).bytesC 1).need ((decide (0<(((aa.mk b false 0).bytesC 1).need ((((aa.mk b false 0).byteV)==13)||(((aa.mk b false 0).byteV)==14)) 8).byteV))&&(decide ((((aa.mk b false 0).bytesC 1).need ((((aa.mk b false 0).byteV)==13)||(((aa.mk b false 0).byteV)==14)) 8).byteV<5))) 6).bytesC 1).need ((decide (1≤((((((aa.mk b false 0).bytesC 1).need ((((aa.mk b false 0).byteV)==13)||(((aa.mk b false 0).byteV)==14)) 8).bytesC 1).need ((decide (0<(((aa.mk b false 0).bytesC 1).need ((((aa.mk b false 0).byteV)==13)||(((aa.mk b false 0).byteV)==14)) 8).byteV))&&(decide ((((aa.mk b false 0).bytesC 1).need ((((aa.mk b false 0).byteV)==13)||(((aa.mk b false 0).byteV)==14)) 8).byteV<5))) 6).byteV%128)))&&(decide (((((((aa.mk b false 0).bytesC 1).need ((((aa.mk b false 0).byteV)==13)||(((aa.mk b false 0).byteV)==14)) 8).bytesC 1).need ((decide (0<(((aa.mk b false 0).bytesC 1).need ((((aa.mk b false 0).byteV)==13)||(((aa.mk b false 0).byteV)==14)) 8).byteV))&&(decide ((((aa.mk b false 0).bytesC 1).need ((((aa.mk b false 0).byteV)==13)||(((aa.mk b false 0).byteV)==14)) 8).byteV<5))) 6).byteV%128)≤3))) 6).byteV==255)) 6).bytesC 1).need (((((((((((aa.mk b false 0).bytesC 1).need ((((aa.mk b false 0).byteV)==13)||(((aa.mk b false 0).byteV)==14)) 8).bytesC 1).need ((decide (0<(((aa.mk b false 0).bytesC 1).need ((((aa.mk b false 0).byteV)==13)||(((aa.mk b false 0).byteV)==14)) 8).byteV))&&(decide ((((aa.mk b false 0).bytesC 1).need ((((aa.mk b false 0).byteV)==13)||(((aa.mk b false 0).byteV)==14)) 8).byteV<5))) 6).bytesC 1).need ((decide (1≤((((((aa.mk b false 0).bytesC 1).need ((((aa.mk b false 0).byteV)==13)||(((aa.mk b false 0).byteV)==14)) 8).bytesC 1).need ((decide (0<(((aa.mk b false 0).bytesC 1).need ((((aa.mk b false 0).byteV)==13)||(((aa.mk b false 0).byteV)==14)) 8).byteV))&&(decide ((((aa.mk b false 0).bytesC 1).need ((((aa.mk b false 0).byteV)==13)||(((aa.mk b false 0).byteV)==14)) 8).byteV<5))) 6).byteV%128)))&&(decide (((((((aa.mk b false 0).bytesC 1).need ((((aa.mk b false 0).byteV)==13)||(((aa.mk b false 0).byteV)==14)) 8).bytesC 1).need ((decide (0<(((aa.mk b false 0).bytesC 1).need ((((aa.mk b false 0).byteV)==13)||(((aa.mk b false 0).byteV)==14)) 8).byteV))&&(decide ((((aa.mk b false 0).bytesC 1).need ((((aa.mk b false 0).byteV)==13)||(((aa.mk b false 0).byteV)==14)) 8).byteV<5))) 6).byteV%128)≤3))) 6).bytesC 1).need (((((((((aa.mk b false 0).bytesC 1).need ((((aa.mk b false 0).byteV)==13)||(((aa.mk b false 0).byteV)==14)) 8).bytesC 1).need ((decide (0<(((aa.mk b false 0).bytesC 1).need ((((aa.mk b false 0).byteV)==13)||(((aa.mk b false 0).byteV)==14)) 8).byteV))&&(decide ((((aa.mk b false 0).bytesC 1).need ((((aa.mk b false 0).byteV)==13)||(((aa.mk b false 0).byteV)==14)) 8).byteV<5))) 6).bytesC 1).need ((decide (1≤((((((aa.mk b false 0).bytesC 1).need ((((aa.mk b false 0).byteV)==13)||(((aa.mk b false 0).byteV)==14)) 8).bytesC 1).need ((decide (0<(((aa.mk b false 0).bytesC 1).need ((((aa.mk b false 0).byteV)==13)||(((aa.mk b false 0).byteV)==14)) 8).byteV))&&(decide ((((aa.mk b false 0).bytesC 1).need ((((aa.mk b false 0).byteV)==13)||(((aa.mk b false 0).byteV)==14)) 8).byteV<5))) 6).byteV%128)))&&(decide (((((((aa.mk b false 0).bytesC 1).need ((((aa.mk b false 0).byteV)==13)||(((aa.mk b false 0).byteV)==14)) 8).bytesC 1).need ((decide (0<(((aa.mk b false 0).bytesC 1).need ((((aa.mk b false 0).byteV)==13)||(((aa.mk b false 0).byteV)==14)) 8).byteV))&&(decide ((((aa.mk b false 0).bytesC 1).need ((((aa.mk b false 0).byteV)==13)||(((aa.mk b false 0).byteV)==14)) 8).byteV<5))) 6).byteV%128)≤3))) 6).byteV==0)||((((((((aa.mk b false 0).bytesC 1).need ((((aa.mk b false 0).byteV)==13)||(((aa.mk b false 0).byteV)==14)) 8).bytesC 1).need ((decide (0<(((aa.mk b false 0).bytesC 1).need ((((aa.mk b false 0).byteV)==13)||(((aa.mk b false 0).byteV)==14)) 8).byteV))&&(decide ((((aa.mk b false 0).bytesC 1).need ((((aa.mk b false 0).byteV)==13)||(((aa.mk b false 0).byteV)==14)) 8).byteV<5))) 6).bytesC 1).need ((decide (1≤((((((aa.mk b false 0).bytesC 1).need ((((aa.mk b false 0).byteV)==13)||(((aa.mk b false 0).byteV)==14)) 8).bytesC 1).need ((decide (0<(((aa.mk b false 0).bytesC 1).need ((((aa.mk b false 0).byteV)==13)||(((aa.mk b false 0).byteV)==14)) 8).byteV))&&(decide ((((aa.mk b false 0).bytesC 1).need ((((aa.mk b false 0).byteV)==13)||(((aa.mk b false 0).byteV)==14)) 8).byteV<5))) 6).byteV%128)))&&(decide (((((((aa.mk b false 0).bytesC 1).need ((((aa.mk b false 0).byteV)==13)||(((aa.mk b false 0).byteV)==14)) 8).bytesC 1).need ((decide (0<(((aa.mk b false 0).bytesC 1).need ((((aa.mk b false 0).byteV)==13)||(((aa.mk b false 0).byteV)==14)) 8).byteV))&&(decide ((((aa.mk b false 0).bytesC 1).need ((((aa.mk b false 0).byteV)==13)||(((aa.mk b false 0).byteV)==14)) 8).byteV<5))) 6).byteV%128)≤3))) 6).byteV==255)) 6).byteV==0)||((((((((aa.mk b false 0).bytesC 1).need ((((aa.mk b false 0).byteV)==13)||(((aa.mk b false 0).byteV)==14)) 8).bytesC 1).need ((decide (0<(((aa.mk b false 0).bytesC 1).need ((((aa.mk b false 0).byteV)==13)||(((aa.mk b false 0).byteV)==14)) 8).byteV))&&(decide ((((aa.mk b false 0).bytesC 1).need ((((aa.mk b false 0).byteV)==13)||(((aa.mk b false 0).byteV)==14)) 8).byteV<5))) 6).bytesC 1).need ((decide (1≤((((((aa.mk b false 0).bytesC 1).need ((((aa.mk b false 0).byteV)==13)||(((aa.mk b false 0).byteV)==14)) 8).bytesC 1).need ((decide (0<(((aa.mk b false 0).bytesC 1).need ((((aa.mk b false 0).byteV)==13)||(((aa.mk b false 0).byteV)==14)) 8).byteV))&&(decide ((((aa.mk b false 0).bytesC 1).need ((((aa.mk b false 0).byteV)==13)||(((aa.mk b false 0).byteV)==14)) 8).byteV<5))) 6).byteV%128)))&&(decide (((((((aa.mk b false 0).bytesC 1).need ((((aa.mk b false 0).byteV)==13)||(((aa.mk b false 0).byteV)==14)) 8).bytesC 1).need ((decide (0<(((aa.mk b false 0).bytesC 1).need ((((aa.mk b false 0).byteV)==13)||(((aa.mk b false 0).byteV)==14)) 8).byteV))&&(decide ((((aa.mk b false 0).bytesC 1).need ((((aa.mk b false 0).byteV)==13)||(((aa.mk b false 0).byteV)==14)) 8).byteV<5))) 6).byteV%128)≤3))) 6).byteV==255)) 6).bytesC 1).need (((((((((((((aa.mk b false 0).bytesC 1).need ((((aa.mk b false 0).byteV)==13)||(((aa.mk b false 0).byteV)==14)) 8).bytesC 1).need ((decide (0<(((aa.mk b false 0).bytesC 1).need ((((aa.mk b false 0).byteV)==13)||(((aa.mk b false 0).byteV)==14)) 8).byteV))&&(decide ((((aa.mk b false 0).bytesC 1).need ((((aa.mk b false 0).byteV)==13)||(((aa.mk b false 0).byteV)==14)) 8).byteV<5))) 6).bytesC 1).need ((decide (1≤((((((aa.mk b false 0).bytesC 1).need ((((aa.mk b false 0).byteV)==13)||(((aa.mk b false 0).byteV)==14)) 8).bytesC 1).need ((decide (0<(((aa.mk b false 0).bytesC 1).need ((((aa.mk b false 0).byteV)==13)||(((aa.mk b false 0).byteV)==14)) 8).byteV))&&(decide ((((aa.mk b false 0).bytesC 1).need ((((aa.mk b false 0).byteV)==13)||(((aa.mk b false 0).byteV)==14)) 8).byteV<5))) 6).byteV%128)))&&(decide (((((((aa.mk b false 0).bytesC 1).need ((((aa.mk b false 0).byteV)==13)||(((aa.mk b false 0).byteV)==14)) 8).bytesC 1).need ((decide (0<(((aa.mk b false 0).bytesC 1).need ((((aa.mk b false 0).byteV)==13)||(((aa.mk b false 0).byteV)==14)) 8).byteV))&&(decide ((((aa.mk b false 0).bytesC 1).need ((((aa.mk b false 0).byteV)==13)||(((aa.mk b false 0).byteV)==14)) 8).byteV<5))) 6).byteV%128)≤3))) 6).bytesC 1).need (((((((((aa.mk b false 0).bytesC 1).need ((((aa.mk b false 0).byteV)==13)||(((aa.mk b false 0).byteV)==14)) 8).bytesC 1).need ((decide (0<(((aa.mk b false 0).bytesC 1).need ((((aa.mk b false 0).byteV)==13)||(((aa.mk b false 0).byteV)==14)) 8).byteV))&&(decide ((((aa.mk b false 0).bytesC 1).need ((((aa.mk b false 0).byteV)==13)||(((aa.mk b false 0).byteV)==14)) 8).byteV<5))) 6).bytesC 1).need ((decide (1≤((((((aa.mk b false 0).bytesC 1).need ((((aa.mk b false 0).byteV)==13)||(((aa.mk b false 0).byteV)==14)) 8).bytesC 1).need ((decide (0<(((aa.mk b false 0).bytesC 1).need ((((aa.mk b false 0).byteV)==13)||(((aa.mk b false 0).byteV)==14)) 8).byteV))&&(decide ((((aa.mk b false 0).bytesC 1).need ((((aa.mk b false 0).byteV)==13)||(((aa.mk b false 0).byteV)==14)) 8).byteV<5))) 6).byteV%128)))&&(decide (((((((aa.mk b false 0).bytesC 1).need ((((aa.mk b false 0).byteV)==13)||(((aa.mk b false 0).byteV)==14)) 8).bytesC 1).need ((decide (0<(((aa.mk b false 0).bytesC 1).need ((((aa.mk b false 0).byteV)==13)||(((aa.mk b false 0).byteV)==14)) 8).byteV))&&(decide ((((aa.mk b false 0).bytesC 1).need ((((aa.mk b false 0).byteV)==13)||(((aa.mk b false 0).byteV)==14)) 8).byteV<5))) 6).byteV%128)≤3))) 6).byteV==0)||((((((((aa.mk b false 0).bytesC 1).need ((((aa.mk b false 0).byteV)==13)||(((aa.mk b false 0).byteV)==14)) 8).bytesC 1).need ((decide (0<(((aa.mk b false 0).bytesC 1).need ((((aa.mk b false 0).byteV)==13)||(((aa.mk b false 0).byteV)==14)) 8).byteV))&&(decide ((((aa.mk b false 0).bytesC 1).need ((((aa.mk b false 0).byteV)==13)||(((aa.mk b false 0).byteV)==14)) 8).byteV<5))) 6).bytesC 1).need ((decide (1≤((((((aa.mk b false 0).bytesC 1).need ((((aa.mk b false 0).byteV)==13)||(((aa.mk b false 0).byteV)==14)) 8).bytesC 1).need ((decide (0<(((aa.mk b false 0).bytesC 1).need ((((aa.mk b false 0).byteV)==13)||(((aa.mk b false 0).byteV)==14)) 8).byteV))&&(decide ((((aa.mk b false 0).bytesC 1).need ((((aa.mk b false 0).byteV)==13)||(((aa.mk b false 0).byteV)==14)) 8).byteV<5))) 6).byteV%128)))&&(decide (((((((aa.mk b false 0).bytesC 1).need ((((aa.mk b false 0).byteV)==13)||(((aa.mk b false 0).byteV)==14)) 8).bytesC 1).need ((decide (0<(((aa.mk b false 0).bytesC 1).need ((((aa.mk b false 0).byteV)==13)||(((aa.mk b false 0).byteV)==14)) 8).byteV))&&(decide ((((aa.mk b false 0).bytesC 1).need ((((aa.mk b false 0).byteV)==13)||(((aa.mk b false 0).byteV)==14)) 8).byteV<5))) 6).byteV%128)≤3))) 6).byteV==255)) 6).bytesC 1).need (((((((((((aa.mk b false 0).bytesC 1).need ((((aa.mk b false 0).byteV)==13)||(((aa.mk b false 0).byteV)==14)) 8).bytesC 1).need ((decide (0<(((aa.mk b false 0).bytesC 1).need ((((aa.mk b false 0).byteV)==13)||(((aa.mk b false 0).byteV)==14)) 8).byteV))&&(decide ((((aa.mk b false 0).bytesC 1).need ((((aa.mk b false 0).byteV)==13)||(((aa.mk b false 0).byteV)==14)) 8).byteV<5))) 6).bytesC 1).need ((decide (1≤((((((aa.mk b false 0).bytesC 1).need ((((aa.mk b false 0).byteV)==13)||(((aa.mk b false 0).byteV)==14)) 8).bytesC 1).need ((decide (0<(((aa.mk b false 0).bytesC 1).need ((((aa.mk b false 0).byteV)==13)||(((aa.mk b false 0).byteV)==14)) 8).byteV))&&(decide ((((aa.mk b false 0).bytesC 1).need ((((aa.mk b false 0).byteV)==13)||(((aa.mk b false 0).byteV)==14)) 8).byteV<5))) 6).byteV%128)))&&(decide (((((((aa.mk b false 0).bytesC 1).need ((((aa.mk b false 0).byteV)==13)||(((aa.mk b false 0).byteV)==14)) 8).bytesC 1).need ((decide (0<(((aa.mk b false 0).bytesC 1).need ((((aa.mk b false 0).byteV)==13)||(((aa.mk b false 0).byteV)==14)) 8).byteV))&&(decide ((((aa.mk b false 0).bytesC 1).need ((((aa.mk b false 0).byteV)==13)||(((aa.mk b false 0).byteV)==14)) 8).byteV<5))) 6).byteV%128)≤3))) 6).bytesC 1).need (((((((((aa.mk b false 0).bytesC 1).need ((((aa.mk b false 0).byteV)==13)||(((aa.mk b false 0).byteV)==14)) 8).bytesC 1).need ((decide (0<(((aa.mk b false 0).bytesC 1).need ((((aa.mk b false 0).byteV)==13)||(((aa.mk b false 0).byteV)==14)) 8).byteV))&&(decide ((((aa.mk b false 0).bytesC 1).need ((((aa.mk b false 0).byteV)==13)||(((aa.mk b false 0).byteV)==14)) 8).byteV<5))) 6).bytesC 1).need ((decide (1≤((((((aa.mk b false 0).bytesC 1).need ((((aa.mk b false 0).byteV)==13)||(((aa.mk b false 0).byteV)==14)) 8).bytesC 1).need ((decide (0<(((aa.mk b false 0).bytesC 1).need ((((aa.mk b false 0).byteV)==13)||(((aa.mk b false 0).byteV)==14)) 8).byteV))&&(decide ((((aa.mk b false 0).bytesC 1).need ((((aa.mk b false 0).byteV)==13)||(((aa.mk b false 0).byteV)==14)) 8).byteV<5))) 6).byteV%128)))&&(decide (((((((aa.mk b false 0).bytesC 1).need ((((aa.mk b false 0).byteV)==13)||(((aa.mk b false 0).byteV)==14)) 8).bytesC 1).need ((decide (0<(((aa.mk b false 0).bytesC 1).need ((((aa.mk b false 0).byteV)==13)||(((aa.mk b false 0).byteV)==14)) 8).byteV))&&(decide ((((aa.mk b false 0).bytesC 1).need ((((aa.mk b false 0).byteV)==13)||(((aa.mk b false 0).byteV)==14)) 8).byteV<5))) 6).byteV%128)≤3))) 6).byteV==0)||((((((((aa.mk b false 0).bytesC 1).need ((((aa.mk b false 0).byteV)==13)||(((aa.mk b false 0).byteV)==14)) 8).bytesC 1).need ((decide (0<(((aa.mk b false 0).bytesC 1).need ((((aa.mk b false 0).byteV)==13)||(((aa.mk b false 0).byteV)==14)) 8).byteV))&&(decide ((((aa.mk b false 0).bytesC 1).need ((((aa.mk b false 0).byteV)==13)||(((aa.mk b false 0).byteV)==14)) 8).byteV<5))) 6).bytesC 1).need ((decide (1≤((((((aa.mk b false 0).bytesC 1).need ((((aa.mk b false 0).byteV)==13)||(((aa.mk b false 0).byteV)==14)) 8).bytesC 1).need ((decide (0<(((aa.mk b false 0).bytesC 1).need ((((aa.mk b false 0).byteV)==13)||(((aa.mk b false 0).byteV)==14)) 8).byteV))&&(decide ((((aa.mk b false 0).bytesC 1).need ((((aa.mk b false 0).byteV)==13)||(((aa.mk b false 0).byteV)==14)) 8).byteV<5))) 6).byteV%128)))&&(decide (((((((aa.mk b false 0).bytesC 1).need ((((aa.mk b false 0).byteV)==13)||(((aa.mk b false 0).byteV)==14)) 8).bytesC 1).need ((decide (0<(((aa.mk b false 0).bytesC 1).need ((((aa.mk b false 0).byteV)==13)||(((aa.mk b false 0).byteV)==14)) 8).byteV))&&(decide ((((aa.mk b false 0).bytesC 1).need ((((aa.mk b false 0).byteV)==13)||(((aa.mk b false 0).byteV)==14)) 8).byteV<5))) 6).byteV%128)≤3))) 6).byteV==255)) 6).byteV==0)||((((((((aa.mk b false 0).bytesC 1).need ((((aa.mk b false 0).byteV)==13)||(((aa.mk b false 0).byteV)==14)) 8).bytesC 1).need ((decide (0<(((aa.mk b false 0).bytesC 1).need ((((aa.mk b false 0).byteV)==13)||(((aa.mk b false 0).byteV)==14)) 8).byteV))&&(decide ((((aa.mk b false 0).bytesC 1).need ((((aa.mk b false 0).byteV)==13)||(((aa.mk b false 0).byteV)==14)) 8).byteV<5))) 6).bytesC 1).need ((decide (1≤((((((aa.mk b false 0).bytesC 1).need ((((aa.mk b false 0).byteV)==13)||(((aa.mk b false 0).byteV)==14)) 8).bytesC 1).need ((decide (0<(((aa.mk b false 0).bytesC 1).need ((((aa.mk b false 0).byteV)==13)||(((aa.mk b false 0).byteV)==14)) 8).byteV))&&(decide ((((aa.mk b false 0).bytesC 1).need ((((aa.mk b false 0).byteV)==13)||(((aa.mk b false 0).byteV)==14)) 8).byteV<5))) 6).byteV%128)))&&(decide (((((((aa.mk b false 0).bytesC 1).need ((((aa.mk b false 0).byteV)==13)||(((aa.mk b false 0).byteV)==14)) 8).bytesC 1).need ((decide (0<(((aa.mk b false 0).bytesC 1).need ((((aa.mk b false 0).byteV)==13)||(((aa.mk b false 0).byteV)==14)) 8).byteV))&&(decide ((((aa.mk b false 0).bytesC 1).need ((((aa.mk b false 0).byteV)==13)||(((aa.mk b false 0).byteV)==14)) 8).byteV<5))) 6).byteV%128)≤3))) 6).byteV==255)) 6).byteV==1)||((((aa.mk b false 0).bytesC 1).need ((((aa.mk b false 0).byteV)==13)||(((aa.mk b false 0).byteV)==14)) 8).byteV != 4)) 5) []).1:=by
   unfold ag bN cY fg eE eF eh dN dY dk
   (try simp only[y,E,W,Y,bs,if_true,if_false,decide_true,decide_false,eq_self,true_or,or_true,or_false,false_or,if_true,if_false,ch,cc,cg,ci,reduceIte])
   all_goals rfl
 rw[hR] at hs
 rw[hs]
 exact bg b0 cD
 have b0:=ai Y
 refine bz<|sg<|?_
 refine L0<|bZ (aT X (Ne.symm f) cf)<|?_
 refine L0<|b7 (aT X (nb (ak t) lr d) H) (mG 43 0 0 0 0 0 0 0 0 0 0 0 nS nS nS nS ((aa.mk b false 0).byteV) x55.byteV j.byteV k.byteV z.byteV (.slice B L.length cq)) fun eL dK cE=>Pl 1<|nt<|rt<|bL dK (.int .i64 0)<|?_
 subst c9 c6 bY bQ bF a3
 have hs:ag bN 1 c b=aF (aP.mk 43 0 0 0 0 0 0 0 0 0 0 0 [] [] [] [] ((aa.mk b false 0).byteV) ((((aa.mk b false 0).bytesC 1).need ((((aa.mk b false 0).byteV)==13)||(((aa.mk b false 0).byteV)==14)) 8).byteV) ((((((aa.mk b false 0).bytesC 1).need ((((aa.mk b false 0).byteV)==13)||(((aa.mk b false 0).byteV)==14)) 8).bytesC 1).need ((decide (0<(((aa.mk b false 0).bytesC 1).need ((((aa.mk b false 0).byteV)==13)||(((aa.mk b false 0).byteV)==14)) 8).byteV))&&(decide ((((aa.mk b false 0).bytesC 1).need ((((aa.mk b false 0).byteV)==13)||(((aa.mk b false 0).byteV)==14)) 8).byteV<5))) 6).byteV) ((((((((aa.mk b false 0).bytesC 1).need ((((aa.mk b false 0).byteV)==13)||(((aa.mk b false 0).byteV)==14)) 8).bytesC 1).need ((decide (0<(((aa.mk b false 0).bytesC 1).need ((((aa.mk b false 0).byteV)==13)||(((aa.mk b false 0).byteV)==14)) 8).byteV))&&(decide ((((aa.mk b false 0).bytesC 1).need ((((aa.mk b false 0).byteV)==13)||(((aa.mk b false 0).byteV)==14)) 8).byteV<5))) 6).bytesC 1).need ((decide (1≤((((((aa.mk b false 0).bytesC 1).need ((((aa.mk b false 0).byteV)==13)||(((aa.mk b false 0).byteV)==14)) 8).bytesC 1).need ((decide (0<(((aa.mk b false 0).bytesC 1).need ((((aa.mk b false 0).byteV)==13)||(((aa.mk b false 0).byteV)==14)) 8).byteV))&&(decide ((((aa.mk b false 0).bytesC 1).need ((((aa.mk b false 0).byteV)==13)||(((aa.mk b false 0).byteV)==14)) 8).byteV<5))) 6).byteV%128)))&&(decide (((((((aa.mk b false 0).bytesC 1).need ((((aa.mk b false 0).byteV)==13)||(((aa.mk b false 0).byteV)==14)) 8).bytesC 1).need ((decide (0<(((aa.mk b false 0).bytesC 1).need ((((aa.mk b false 0).byteV)==13)||(((aa.mk b false 0).byteV)==14)) 8).byteV))&&(decide ((((aa.mk b false 0).bytesC 1).need ((((aa.mk b false 0).byteV)==13)||(((aa.mk b false 0).byteV)==14)) 8).byteV<5))) 6).byteV%128)≤3))) 6).byteV) ((((((((((aa.mk b false 0).bytesC 1).need ((((aa.mk b false 0).byteV)==13)||(((aa.mk b false 0).byteV)==14)) 8).bytesC 1).need ((decide (0<(((aa.mk b false 0).bytesC 1).need ((((aa.mk b false 0).byteV)==13)||(((aa.mk b false 0).byteV)==14)) 8).byteV))&&(decide ((((aa.mk b false 0).bytesC 1).need ((((aa.mk b false 0).byteV)==13)||(((aa.mk b false 0).byteV)==14)) 8).byteV<5))) 6).bytesC 1).need ((decide (1≤((((((aa.mk b false 0).bytesC 1).need ((((aa.mk b false 0).byteV)==13)||(((aa.mk b false 0).byteV)==14)) 8).bytesC 1).need ((decide (0<(((aa.mk b false 0).bytesC 1).need ((((aa.mk b false 0).byteV)==13)||(((aa.mk b false 0).byteV)==14)) 8).byteV))&&(decide ((((aa.mk b false 0).bytesC 1).need ((((aa.mk b false 0).byteV)==13)||(((aa.mk b false 0).byteV)==14)) 8).byteV<5))) 6).byteV%128)))&&(decide (((((((aa.mk b false 0).bytesC 1).need ((((aa.mk b false 0).byteV)==13)||(((aa.mk b false 0).byteV)==14)) 8).bytesC 1).need ((decide (0<(((aa.mk b false 0).bytesC 1).need ((((aa.mk b false 0).byteV)==13)||(((aa.mk b false 0).byteV)==14)) 8).byteV))&&(decide ((((aa.mk b false 0).bytesC 1).need ((((aa.mk b false 0).byteV)==13)||(((aa.mk b false 0).byteV)==14)) 8).byteV<5))) 6).byteV%128)≤3))) 6).bytesC 1).need (((((((((aa.mk b false 0).bytesC 1).need ((((aa.mk b false 0).byteV)==13)||(((aa.mk b false 0).byteV)==14)) 8).bytesC 1).need ((decide (0<(((aa.mk b false 0).bytesC 1).need ((((aa.mk b false 0).byteV)==13)||(((aa.mk b false 0).byteV)==14)) 8).byteV))&&(decide ((((aa.mk b false 0).bytesC 1).need ((((aa.mk b false 0).byteV)==13)||(((aa.mk b false 0).byteV)==14)) 8).byteV<5))) 6).bytesC 1).need ((decide (1≤((((((aa.mk b false 0).bytesC 1).need ((((aa.mk b false 0).byteV)==13)||(((aa.mk b false 0).byteV)==14)) 8).bytesC 1).need ((decide (0<(((aa.mk b false 0).bytesC 1).need ((((aa.mk b false 0).byteV)==13)||(((aa.mk b false 0).byteV)==14)) 8).byteV))&&(decide ((((aa.mk b false 0).bytesC 1).need ((((aa.mk b false 0).byteV)==13)||(((aa.mk b false 0).byteV)==14)) 8).byteV<5))) 6).byteV%128)))&&(decide (((((((aa.mk b false 0).bytesC 1).need ((((aa.mk b false 0).byteV)==13)||(((aa.mk b false 0).byteV)==14)) 8).bytesC 1).need ((decide (0<(((aa.mk b false 0).bytesC 1).need ((((aa.mk b false 0).byteV)==13)||(((aa.mk b false 0).byteV)==14)) 8).byteV))&&(decide ((((aa.mk b false 0).bytesC 1).need ((((aa.mk b false 0).byteV)==13)||(((aa.mk b false 0).byteV)==14)) 8).byteV<5))) 6).byteV%128)≤3))) 6).byteV==0)||((((((((aa.mk b false 0).bytesC 1).need ((((aa.mk b false 0).byteV)==13)||(((aa.mk b false 0).byteV)==14)) 8).bytesC 1).need ((decide (0<(((aa.mk b false 0).bytesC 1).need ((((aa.mk b false 0).byteV)==13)||(((aa.mk b false 0).byteV)==14)) 8).byteV))&&(decide ((((aa.mk b false 0).bytesC 1).need ((((aa.mk b false 0).byteV)==13)||(((aa.mk b false 0).byteV)==14)) 8).byteV<5))) 6).bytesC 1).need ((decide (1≤((((((aa.mk b false 0).bytesC 1).need ((((aa.mk b false 0).byteV)==13)||(((aa.mk b false 0).byteV)==14)) 8).bytesC 1).need ((decide (0<(((aa.mk b false 0).bytesC 1).need ((((aa.mk b false 0).byteV)==13)||(((aa.mk b false 0).byteV)==14)) 8).byteV))&&(decide ((((aa.mk b false 0).bytesC 1).need ((((aa.mk b false 0).byteV)==13)||(((aa.mk b false 0).byteV)==14)) 8).byteV<5))) 6).byteV%128)))&&(decide (((((((aa.mk b false 0).bytesC 1).need ((((aa.mk b false 0).byteV)==13)||(((aa.mk b false 0).byteV)==14)) 8).bytesC 1).need ((decide (0<(((aa.mk b false 0).bytesC 1).need ((((aa.mk b false 0).byteV)==13)||(((aa.mk b false 0).byteV)==14)) 8).byteV))&&(decide ((((aa.mk b false 0).bytesC 1).need ((((aa.mk b false 0).byteV)==13)||(((aa.mk b false 0).byteV)==14)) 8).byteV<5))) 6).byteV%128)≤3))) 6).byteV==255)) 6).byteV) (eb (((((((((((aa.mk b false 0).bytesC 1).need ((((aa.mk b false 0).byteV)==13)||(((aa.mk b false 0).byteV)==14)) 8).bytesC 1).need ((decide (0<(((aa.mk b false 0).bytesC 1).need ((((aa.mk b false 0).byteV)==13)||(((aa.mk b false 0).byteV)==14)) 8).byteV))&&(decide ((((aa.mk b false 0).bytesC 1).need ((((aa.mk b false 0).byteV)==13)||(((aa.mk b false 0).byteV)==14)) 8).byteV<5))) 6).bytesC 1).need ((decide (1≤((((((aa.mk b false 0).bytesC 1).need ((((aa.mk b false 0).byteV)==13)||(((aa.mk b false 0).byteV)==14)) 8).bytesC 1).need ((decide (0<(((aa.mk b false 0).bytesC 1).need ((((aa.mk b false 0).byteV)==13)||(((aa.mk b false 0).byteV)==14)) 8).byteV))&&(decide ((((aa.mk b false 0).bytesC 1).need ((((aa.mk b false 0).byteV)==13)||(((aa.mk b false 0).byteV)==14)) 8).byteV<5))) 6).byteV%128)))&&(decide (((((((aa.mk b false 0).bytesC 1).need ((((aa.mk b false 0).byteV)==13)||(((aa.mk b false 0).byteV)==14)) 8).bytesC 1).need ((decide (0<(((aa.mk b false 0).bytesC 1).need ((((aa.mk b false 0).byteV)==13)||(((aa.mk b false 0).byteV)==14)) 8).byteV))&&(decide ((((aa.mk b false 0).bytesC 1).need ((((aa.mk b false 0).byteV)==13)||(((aa.mk b false 0).byteV)==14)) 8).byteV<5))) 6).byteV%128)≤3))) 6).bytesC 1).need (((((((((aa.mk b false 0).bytesC 1).need ((((aa.mk b false 0).byteV)==13)||(((aa.mk b false 0).byteV)==14)) 8).bytesC 1).need ((decide (0<(((aa.mk b false 0).bytesC 1).need ((((aa.mk b false 0).byteV)==13)||(((aa.mk b false 0).byteV)==14)) 8).byteV))&&(decide ((((aa.mk b false 0).bytesC 1).need ((((aa.mk b false 0).byteV)==13)||(((aa.mk b false 0).byteV)==14)) 8).byteV<5))) 6).bytesC 1).need ((decide (1≤((((((aa.mk b false 0).bytesC 1).need ((((aa.mk b false 0).byteV)==13)||(((aa.mk b false 0).byteV)==14)) 8).bytesC 1).need ((decide (0<(((aa.mk b false 0).bytesC 1).need ((((aa.mk b false 0).byteV)==13)||(((aa.mk b false 0).byteV)==14)) 8).byteV))&&(decide ((((aa.mk b false 0).bytesC 1).need ((((aa.mk b false 0).byteV)==13)||(((aa.mk b false 0).byteV)==14)) 8).byteV<5))) 6).byteV%128)))&&(decide (((((((aa.mk b false 0).bytesC 1).need ((((aa.mk b false 0).byteV)==13)||(((aa.mk b false 0).byteV)==14)) 8).bytesC 1).need ((decide (0<(((aa.mk b false 0).bytesC 1).need ((((aa.mk b false 0).byteV)==13)||(((aa.mk b false 0).byteV)==14)) 8).byteV))&&(decide ((((aa.mk b false 0).bytesC 1).need ((((aa.mk b false 0).byteV)==13)||(((aa.mk b false 0).byteV)==14)) 8).byteV<5))) 6).byteV%128)≤3))) 6).byteV==0)||((((((((aa.mk b false 0).bytesC 1).need ((((aa.mk b false 0).byteV)==13)||(((aa.mk b false 0).byteV)==14)) 8).bytesC 1).need ((decide (0<(((aa.mk b false 0).bytesC 1).need ((((aa.mk b false 0).byteV)==13)||(((aa.mk b false 0).byteV)==14)) 8).byteV))&&(decide ((((aa.mk b false 0).bytesC 1).need ((((aa.mk b false 0).byteV)==13)||(((aa.mk b false 0).byteV)==14)) 8).byteV<5))) 6).bytesC 1).need ((decide (1≤((((((aa.mk b false 0).bytesC 1).need ((((aa.mk b false 0).byteV)==13)||(((aa.mk b false 0).byteV)==14)) 8).bytesC 1).need ((decide (0<(((aa.mk b false 0).bytesC 1).need ((((aa.mk b false 0).byteV)==13)||(((aa.mk b false 0).byteV)==14)) 8).byteV))&&(decide ((((aa.mk b false 0).bytesC 1).need ((((aa.mk b false 0).byteV)==13)||(((aa.mk b false 0).byteV)==14)) 8).byteV<5))) 6).byteV%128)))&&(decide (((((((aa.mk b false 0).bytesC 1).need ((((aa.mk b false 0).byteV)==13)||(((aa.mk b false 0).byteV)==14)) 8).bytesC 1).need ((decide (0<(((aa.mk b false 0).bytesC 1).need ((((aa.mk b false 0).byteV)==13)||(((aa.mk b false 0).byteV)==14)) 8).byteV))&&(decide ((((aa.mk b false 0).bytesC 1).need ((((aa.mk b false 0).byteV)==13)||(((aa.mk b false 0).byteV)==14)) 8).byteV<5))) 6).byteV%128)≤3))) 6).byteV==255)) 6).bytesC 1).need (((((((((((aa.mk b false 0).bytesC 1).need ((((aa.mk b false 0).byteV)==13)||(((aa.mk b false 0).byteV)==14)) 8).bytesC 1).need ((decide (0<(((aa.mk b false 0).bytesC 1).need ((((aa.mk b false 0).byteV)==13)||(((aa.mk b false 0).byteV)==14)) 8).byteV))&&(decide ((((aa.mk b false 0).bytesC 1).need ((((aa.mk b false 0).byteV)==13)||(((aa.mk b false 0).byteV)==14)) 8).byteV<5))) 6).bytesC 1).need ((decide (1≤((((((aa.mk b false 0).bytesC 1).need ((((aa.mk b false 0).byteV)==13)||(((aa.mk b false 0).byteV)==14)) 8).bytesC 1).need ((decide (0<(((aa.mk b false 0).bytesC 1).need ((((aa.mk b false 0).byteV)==13)||(((aa.mk b false 0).byteV)==14)) 8).byteV))&&(decide ((((aa.mk b false 0).bytesC 1).need ((((aa.mk b false 0).byteV)==13)||(((aa.mk b false 0).byteV)==14)) 8).byteV<5))) 6).byteV%128)))&&(decide (((((((aa.mk b false 0).bytesC 1).need ((((aa.mk b false 0).byteV)==13)||(((aa.mk b false 0).byteV)==14)) 8).bytesC 1).need ((decide (0<(((aa.mk b false 0).bytesC 1).need ((((aa.mk b false 0).byteV)==13)||(((aa.mk b false 0).byteV)==14)) 8).byteV))&&(decide ((((aa.mk b false 0).bytesC 1).need ((((aa.mk b false 0).byteV)==13)||(((aa.mk b false 0).byteV)==14)) 8).byteV<5))) 6).byteV%128)≤3))) 6).bytesC 1).need (((((((((aa.mk b false 0).bytesC 1).need ((((aa.mk b false 0).byteV)==13)||(((aa.mk b false 0).byteV)==14)) 8).bytesC 1).need ((decide (0<(((aa.mk b false 0).bytesC 1).need ((((aa.mk b false 0).byteV)==13)||(((aa.mk b false 0).byteV)==14)) 8).byteV))&&(decide ((((aa.mk b false 0).bytesC 1).need ((((aa.mk b false 0).byteV)==13)||(((aa.mk b false 0).byteV)==14)) 8).byteV<5))) 6).bytesC 1).need ((decide (1≤((((((aa.mk b false 0).bytesC 1).need ((((aa.mk b false 0).byteV)==13)||(((aa.mk b false 0).byteV)==14)) 8).bytesC 1).need ((decide (0<(((aa.mk b false 0).bytesC 1).need ((((aa.mk b false 0).byteV)==13)||(((aa.mk b false 0).byteV)==14)) 8).byteV))&&(decide ((((aa.mk b false 0).bytesC 1).need ((((aa.mk b false 0).byteV)==13)||(((aa.mk b false 0).byteV)==14)) 8).byteV<5))) 6).byteV%128)))&&(decide (((((((aa.mk b false 0).bytesC 1).need ((((aa.mk b false 0).byteV)==13)||(((aa.mk b false 0).byteV)==14)) 8).bytesC 1).need ((decide (0<(((aa.mk b false 0).bytesC 1).need ((((aa.mk b false 0).byteV)==13)||(((aa.mk b false 0).byteV)==14)) 8).byteV))&&(decide ((((aa.mk b false 0).bytesC 1).need ((((aa.mk b false 0).byteV)==13)||(((aa.mk b false 0).byteV)==14)) 8).byteV<5))) 6).byteV%128)≤3))) 6).byteV==0)||((((((((aa.mk b false 0).bytesC 1).need ((((aa.mk b false 0).byteV)==13)||(((aa.mk b false 0).byteV)==14)) 8).bytesC 1).need ((decide (0<(((aa.mk b false 0).bytesC 1).need ((((aa.mk b false 0).byteV)==13)||(((aa.mk b false 0).byteV)==14)) 8).byteV))&&(decide ((((aa.mk b false 0).bytesC 1).need ((((aa.mk b false 0).byteV)==13)||(((aa.mk b false 0).byteV)==14)) 8).byteV<5))) 6).bytesC 1).need ((decide (1≤((((((aa.mk b false 0).bytesC 1).need ((((aa.mk b false 0).byteV)==13)||(((aa.mk b false 0).byteV)==14)) 8).bytesC 1).need ((decide (0<(((aa.mk b false 0).bytesC 1).need ((((aa.mk b false 0).byteV)==13)||(((aa.mk b false 0).byteV)==14)) 8).byteV))&&(decide ((((aa.mk b false 0).bytesC 1).need ((((aa.mk b false 0).byteV)==13)||(((aa.mk b false 0).byteV)==14)) 8).byteV<5))) 6).byteV%128)))&&(decide (((((((aa.mk b false 0).bytesC 1).need ((((aa.mk b false 0).byteV)==13)||(((aa.mk b false 0).byteV)==14)) 8).bytesC 1).need ((decide (0<(((aa.mk b false 0).bytesC 1).need ((((aa.mk b false 0).byteV)==13)||(((aa.mk b false 0).byteV)==14)) 8).byteV))&&(decide ((((aa.mk b false 0).bytesC 1).need ((((aa.mk b false 0).byteV)==13)||(((aa.mk b false 0).byteV)==14)) 8).byteV<5))) 6).byteV%128)≤3))) 6).byteV==255)) 6).byteV==0)||((((((((aa.mk b false 0).bytesC 1).need ((((aa.mk b false 0).byteV)==13)||(((aa.mk b false 0).byteV)==14)) 8).bytesC 1).need ((decide (0<(((aa.mk b false 0).bytesC 1).need ((((aa.mk b false 0).byteV)==13)||(((aa.mk b false 0).byteV)==14)) 8).byteV))&&(decide ((((aa.mk b false 0).bytesC 1).need ((((aa.mk b false 0).byteV)==13)||(((aa.mk b false 0).byteV)==14)) 8).byteV<5))) 6).bytesC 1).need ((decide (1≤((((((aa.mk b false 0).bytesC 1).need ((((aa.mk b false 0).byteV)==13)||(((aa.mk b false 0).byteV)==14)) 8).bytesC 1).need ((decide (0<(((aa.mk b false 0).bytesC 1).need ((((aa.mk b false 0).byteV)==13)||(((aa.mk b false 0).byteV)==14)) 8).byteV))&&(decide ((((aa.mk b false 0).bytesC 1).need ((((aa.mk b false 0).byteV)==13)||(((aa.mk b false 0).byteV)==14)) 8).byteV<5))) 6).byteV%128)))&&(decide (((((((aa.mk b false 0).bytesC 1).need ((((aa.mk b false 0).byteV)==13)||(((aa.mk b false 0).byteV)==14)) 8).bytesC 1).need ((decide (0<(((aa.mk b false 0).bytesC 1).need ((((aa.mk b false 0).byteV)==13)||(((aa.mk b false 0).byteV)==14)) 8).byteV))&&(decide ((((aa.mk b false 0).bytesC 1).need ((((aa.mk b false 0).byteV)==13)||(((aa.mk b false 0).byteV)==14)) 8).byteV<5))) 6).byteV%128)≤3))) 6).byteV==255)) 6).byteV.toNat (((((((((((((aa.mk b false 0).bytesC 1).need ((((aa.mk b false 0).byteV)==13)||(((aa.mk b false 0).byteV)==14)) 8).bytesC 1).need ((decide (0<(((aa.mk b false 0).bytesC 1).need ((((aa.mk b false 0).byteV)==13)||(((aa.mk b false 0).byteV)==14)) 8).byteV))&&(decide ((((aa.mk b false 0).bytesC 1).need ((((aa.mk b false 0).byteV)==13)||(((aa.mk b false 0).byteV)==14)) 8).byteV<5))) 6).bytesC 1).need ((decide (1≤((((((aa.mk b false 0).bytesC 1).need ((((aa.mk b false 0).byteV)==13)||(((aa.mk b false 0).byteV)==14)) 8).bytesC 1).need ((decide (0<(((aa.mk b false 0).bytesC 1).need ((((aa.mk b false 0).byteV)==13)||(((aa.mk b false 0).byteV)==14)) 8).byteV))&&(decide ((((aa.mk b false 0).bytesC 1).need ((((aa.mk b false 0).byteV)==13)||(((aa.mk b false 0).byteV)==14)) 8).byteV<5))) 6).byteV%128)))&&(decide (((((((aa.mk b false 0).bytesC 1).need ((((aa.mk b false 0).byteV)==13)||(((aa.mk b false 0).byteV)==14)) 8).bytesC 1).need ((decide (0<(((aa.mk b false 0).bytesC 1).need ((((aa.mk b false 0).byteV)==13)||(((aa.mk b false 0).byteV)==14)) 8).byteV))&&(decide ((((aa.mk b false 0).bytesC 1).need ((((aa.mk b false 0).byteV)==13)||(((aa.mk b false 0).byteV)==14)) 8).byteV<5))) 6).byteV%128)≤3))) 6).bytesC 1).need (((((((((aa.mk b false 0).bytesC 1).need ((((aa.mk b false 0).byteV)==13)||(((aa.mk b false 0).byteV)==14)) 8).bytesC 1).need ((decide (0<(((aa.mk b false 0).bytesC 1).need ((((aa.mk b false 0).byteV)==13)||(((aa.mk b false 0).byteV)==14)) 8).byteV))&&(decide ((((aa.mk b false 0).bytesC 1).need ((((aa.mk b false 0).byteV)==13)||(((aa.mk b false 0).byteV)==14)) 8).byteV<5))) 6).bytesC 1).need ((decide (1≤((((((aa.mk b false 0).bytesC 1).need ((((aa.mk b false 0).byteV)==13)||(((aa.mk b false 0).byteV)==14)) 8).bytesC 1).need ((decide (0<(((aa.mk b false 0).bytesC 1).need ((((aa.mk b false 0).byteV)==13)||(((aa.mk b false 0).byteV)==14)) 8).byteV))&&(decide ((((aa.mk b false 0).bytesC 1).need ((((aa.mk b false 0).byteV)==13)||(((aa.mk b false 0).byteV)==14)) 8).byteV<5))) 6).byteV%128)))&&(decide (((((((aa.mk b false 0).bytesC 1).need ((((aa.mk b false 0).byteV)==13)||(((aa.mk b false 0).byteV)==14)) 8).bytesC 1).need ((decide (0<(((aa.mk b false 0).bytesC 1).need ((((aa.mk b false 0).byteV)==13)||(((aa.mk b false 0).byteV)==14)) 8).byteV))&&(decide ((((aa.mk b false 0).bytesC 1).need ((((aa.mk b false 0).byteV)==13)||(((aa.mk b false 0).byteV)==14)) 8).byteV<5))) 6).byteV%128)≤3))) 6).byteV==0)||((((((((aa.mk b false 0).bytesC 1).need ((((aa.mk b false 0).byteV)==13)||(((aa.mk b false 0).byteV)==14)) 8).bytesC 1).need ((decide (0<(((aa.mk b false 0).bytesC 1).need ((((aa.mk b false 0).byteV)==13)||(((aa.mk b false 0).byteV)==14)) 8).byteV))&&(decide ((((aa.mk b false 0).bytesC 1).need ((((aa.mk b false 0).byteV)==13)||(((aa.mk b false 0).byteV)==14)) 8).byteV<5))) 6).bytesC 1).need ((decide (1≤((((((aa.mk b false 0).bytesC 1).need ((((aa.mk b false 0).byteV)==13)||(((aa.mk b false 0).byteV)==14)) 8).bytesC 1).need ((decide (0<(((aa.mk b false 0).bytesC 1).need ((((aa.mk b false 0).byteV)==13)||(((aa.mk b false 0).byteV)==14)) 8).byteV))&&(decide ((((aa.mk b false 0).bytesC 1).need ((((aa.mk b false 0).byteV)==13)||(((aa.mk b false 0).byteV)==14)) 8).byteV<5))) 6).byteV%128)))&&(decide (((((((aa.mk b false 0).bytesC 1).need ((((aa.mk b false 0).byteV)==13)||(((aa.mk b false 0).byteV)==14)) 8).bytesC 1).need ((decide (0<(((aa.mk b false 0).bytesC 1).need ((((aa.mk b false 0).byteV)==13)||(((aa.mk b false 0).byteV)==14)) 8).byteV))&&(decide ((((aa.mk b false 0).bytesC 1).need ((((aa.mk b false 0).byteV)==13)||(((aa.mk b false 0).byteV)==14)) 8).byteV<5))) 6).byteV%128)≤3))) 6).byteV==255)) 6).bytesC 1).need (((((((((((aa.mk b false 0).bytesC 1).need ((((aa.mk b false 0).byteV)==13)||(((aa.mk b false 0).byteV)==14)) 8).bytesC 1).need ((decide (0<(((aa.mk b false 0).bytesC 1).need ((((aa.mk b false 0).byteV)==13)||(((aa.mk b false 0).byteV)==14)) 8).byteV))&&(decide ((((aa.mk b false 0).bytesC 1).need ((((aa.mk b false 0).byteV)==13)||(((aa.mk b false 0).byteV)==14)) 8).byteV<5))) 6).bytesC 1).need ((decide (1≤((((((aa.mk b false 0).bytesC 1).need ((((aa.mk b false 0).byteV)==13)||(((aa.mk b false 0).byteV)==14)) 8).bytesC 1).need ((decide (0<(((aa.mk b false 0).bytesC 1).need ((((aa.mk b false 0).byteV)==13)||(((aa.mk b false 0).byteV)==14)) 8).byteV))&&(decide ((((aa.mk b false 0).bytesC 1).need ((((aa.mk b false 0).byteV)==13)||(((aa.mk b false 0).byteV)==14)) 8).byteV<5))) 6).byteV%128)))&&(decide (((((((aa.mk b false 0).bytesC 1).need ((((aa.mk b false 0).byteV)==13)||(((aa.mk b false 0).byteV)==14)) 8).bytesC 1).need ((decide (0<(((aa.mk b false 0).bytesC 1).need ((((aa.mk b false 0).byteV)==13)||(((aa.mk b false 0).byteV)==14)) 8).byteV))&&(decide ((((aa.mk b false 0).bytesC 1).need ((((aa.mk b false 0).byteV)==13)||(((aa.mk b false 0).byteV)==14)) 8).byteV<5))) 6).byteV%128)≤3))) 6).bytesC 1).need (((((((((aa.mk b false 0).bytesC 1).need ((((aa.mk b false 0).byteV)==13)||(((aa.mk b false 0).byteV)==14)) 8).bytesC 1).need ((decide (0<(((aa.mk b false 0).bytesC 1).need ((((aa.mk b false 0).byteV)==13)||(((aa.mk b false 0).byteV)==14)) 8).byteV))&&(decide ((((aa.mk b false 0).bytesC 1).need ((((aa.mk b false 0).byteV)==13)||(((aa.mk b false 0).byteV)==14)) 8).byteV<5))) 6).bytesC 1).need ((decide (1≤((((((aa.mk b false 0).bytesC 1).need ((((aa.mk b false 0).byteV)==13)||(((aa.mk b false 0).byteV)==14)) 8).bytesC 1).need ((decide (0<(((aa.mk b false 0).bytesC 1).need ((((aa.mk b false 0).byteV)==13)||(((aa.mk b false 0).byteV)==14)) 8).byteV))&&(decide ((((aa.mk b false 0).bytesC 1).need ((((aa.mk b false 0).byteV)==13)||(((aa.mk b false 0).byteV)==14)) 8).byteV<5))) 6).byteV%128)))&&(decide (((((((aa.mk b false 0).bytesC 1).need ((((aa.mk b false 0).byteV)==13)||(((aa.mk b false 0).byteV)==14)) 8).bytesC 1).need ((decide (0<(((aa.mk b false 0).bytesC 1).need ((((aa.mk b false 0).byteV)==13)||(((aa.mk b false 0).byteV)==14)) 8).byteV))&&(decide ((((aa.mk b false 0).bytesC 1).need ((((aa.mk b false 0).byteV)==13)||(((aa.mk b false 0).byteV)==14)) 8).byteV<5))) 6).byteV%128)≤3))) 6).byteV==0)||((((((((aa.mk b false 0).bytesC 1).need ((((aa.mk b false 0).byteV)==13)||(((aa.mk b false 0).byteV)==14)) 8).bytesC 1).need ((decide (0<(((aa.mk b false 0).bytesC 1).need ((((aa.mk b false 0).byteV)==13)||(((aa.mk b false 0).byteV)==14)) 8).byteV))&&(decide ((((aa.mk b false 0).bytesC 1).need ((((aa.mk b false 0).byteV)==13)||(((aa.mk b false 0).byteV)==14)) 8).byteV<5))) 6).bytesC 1).need ((decide (1≤((((((aa.mk b false 0).bytesC 1).need ((((aa.mk b false 0).byteV)==13)||(((aa.mk b false 0).byteV)==14)) 8).bytesC 1).need ((decide (0<(((aa.mk b false 0).bytesC 1).need ((((aa.mk b false 0).byteV)==13)||(((aa.mk b false 0).byteV)==14)) 8).byteV))&&(decide ((((aa.mk b false 0).bytesC 1).need ((((aa.mk b false 0).byteV)==13)||(((aa.mk b false 0).byteV)==14)) 8).byteV<5))) 6).byteV%128)))&&(decide (((((((aa.mk b false 0).bytesC 1).need ((((aa.mk b false 0).byteV)==13)||(((aa.mk b false 0).byteV)==14)) 8).bytesC 1).need ((decide (0<(((aa.mk b false 0).bytesC 1).need ((((aa.mk b false 0).byteV)==13)||(((aa.mk b false 0).byteV)==14)) 8).byteV))&&(decide ((((aa.mk b false 0).bytesC 1).need ((((aa.mk b false 0).byteV)==13)||(((aa.mk b false 0).byteV)==14)) 8).byteV<5))) 6).byteV%128)≤3))) 6).byteV==255)) 6).byteV==0)||((((((((aa.mk b false 0).bytesC 1).need ((((aa.mk b false 0).byteV)==13)||(((aa.mk b false 0).byteV)==14)) 8).bytesC 1).need ((decide (0<(((aa.mk b false 0).bytesC 1).need ((((aa.mk b false 0).byteV)==13)||(((aa.mk b false 0).byteV)==14)) 8).byteV))&&(decide ((((aa.mk b false 0).bytesC 1).need ((((aa.mk b false 0).byteV)==13)||(((aa.mk b false 0).byteV)==14)) 8).byteV<5))) 6).bytesC 1).need ((decide (1≤((((((aa.mk b false 0).bytesC 1).need ((((aa.mk b false 0).byteV)==13)||(((aa.mk b false 0).byteV)==14)) 8).bytesC 1).need ((decide (0<(((aa.mk b false 0).bytesC 1).need ((((aa.mk b false 0).byteV)==13)||(((aa.mk b false 0).byteV)==14)) 8).byteV))&&(decide ((((aa.mk b false 0).bytesC 1).need ((((aa.mk b false 0).byteV)==13)||(((aa.mk b false 0).byteV)==14)) 8).byteV<5))) 6).byteV%128)))&&(decide (((((((aa.mk b false 0).bytesC 1).need ((((aa.mk b false 0).byteV)==13)||(((aa.mk b false 0).byteV)==14)) 8).bytesC 1).need ((decide (0<(((aa.mk b false 0).bytesC 1).need ((((aa.mk b false 0).byteV)==13)||(((aa.mk b false 0).byteV)==14)) 8).byteV))&&(decide ((((aa.mk b false 0).bytesC 1).need ((((aa.mk b false 0).byteV)==13)||(((aa.mk b false 0).byteV)==14)) 8).byteV<5))) 6).byteV%128)≤3))) 6).byteV==255)) 6).bytesC 1).need (((((((((((((aa.mk b false 0).bytesC 1).need ((((aa.mk b false 0).byteV)==13)||(((aa.mk b false 0).byteV)==14)) 8).bytesC 1).need ((decide (0<(((aa.mk b false 0).bytesC 1).need ((((aa.mk b false 0).byteV)==13)||(((aa.mk b false 0).byteV)==14)) 8).byteV))&&(decide ((((aa.mk b false 0).bytesC 1).need ((((aa.mk b false 0).byteV)==13)||(((aa.mk b false 0).byteV)==14)) 8).byteV<5))) 6).bytesC 1).need ((decide (1≤((((((aa.mk b false 0).bytesC 1).need ((((aa.mk b false 0).byteV)==13)||(((aa.mk b false 0).byteV)==14)) 8).bytesC 1).need ((decide (0<(((aa.mk b false 0).bytesC 1).need ((((aa.mk b false 0).byteV)==13)||(((aa.mk b false 0).byteV)==14)) 8).byteV))&&(decide ((((aa.mk b false 0).bytesC 1).need ((((aa.mk b false 0).byteV)==13)||(((aa.mk b false 0).byteV)==14)) 8).byteV<5))) 6).byteV%128)))&&(decide (((((((aa.mk b false 0).bytesC 1).need ((((aa.mk b false 0).byteV)==13)||(((aa.mk b false 0).byteV)==14)) 8).bytesC 1).need ((decide (0<(((aa.mk b false 0).bytesC 1).need ((((aa.mk b false 0).byteV)==13)||(((aa.mk b false 0).byteV)==14)) 8).byteV))&&(decide ((((aa.mk b false 0).bytesC 1).need ((((aa.mk b false 0).byteV)==13)||(((aa.mk b false 0).byteV)==14)) 8).byteV<5))) 6).byteV%128)≤3))) 6).bytesC 1).need (((((((((aa.mk b false 0).bytesC 1).need ((((aa.mk b false 0).byteV)==13)||(((aa.mk b false 0).byteV)==14)) 8).bytesC 1).need ((decide (0<(((aa.mk b false 0).bytesC 1).need ((((aa.mk b false 0).byteV)==13)||(((aa.mk b false 0).byteV)==14)) 8).byteV))&&(decide ((((aa.mk b false 0).bytesC 1).need ((((aa.mk b false 0).byteV)==13)||(((aa.mk b false 0).byteV)==14)) 8).byteV<5))) 6).bytesC 1).need ((decide (1≤((((((aa.mk b false 0).bytesC 1).need ((((aa.mk b false 0).byteV)==13)||(((aa.mk b false 0).byteV)==14)) 8).bytesC 1).need ((decide (0<(((aa.mk b false 0).bytesC 1).need ((((aa.mk b false 0).byteV)==13)||(((aa.mk b false 0).byteV)==14)) 8).byteV))&&(decide ((((aa.mk b false 0).bytesC 1).need ((((aa.mk b false 0).byteV)==13)||(((aa.mk b false 0).byteV)==14)) 8).byteV<5))) 6).byteV%128)))&&(decide (((((((aa.mk b false 0).bytesC 1).need ((((aa.mk b false 0).byteV)==13)||(((aa.mk b false 0).byteV)==14)) 8).bytesC 1).need ((decide (0<(((aa.mk b false 0).bytesC 1).need ((((aa.mk b false 0).byteV)==13)||(((aa.mk b false 0).byteV)==14)) 8).byteV))&&(decide ((((aa.mk b false 0).bytesC 1).need ((((aa.mk b false 0).byteV)==13)||(((aa.mk b false 0).byteV)==14)) 8).byteV<5))) 6).byteV%128)≤3))) 6).byteV==0)||((((((((aa.mk b false 0).bytesC 1).need ((((aa.mk b false 0).byteV)==13)||(((aa.mk b false 0).byteV)==14)) 8).bytesC 1).need ((decide (0<(((aa.mk b false 0).bytesC 1).need ((((aa.mk b false 0).byteV)==13)||(((aa.mk b false 0).byteV)==14)) 8).byteV))&&(decide ((((aa.mk b false 0).bytesC 1).need ((((aa.mk b false 0).byteV)==13)||(((aa.mk b false 0).byteV)==14)) 8).byteV<5))) 6).bytesC 1).need ((decide (1≤((((((aa.mk b false 0).bytesC 1).need ((((aa.mk b false 0).byteV)==13)||(((aa.mk b false 0).byteV)==14)) 8).bytesC 1).need ((decide (0<(((aa.mk b false 0).bytesC 1).need ((((aa.mk b false 0).byteV)==13)||(((aa.mk b false 0).byteV)==14)) 8).byteV))&&(decide ((((aa.mk b false 0).bytesC 1).need ((((aa.mk b false 0).byteV)==13)||(((aa.mk b false 0).byteV)==14)) 8).byteV<5))) 6).byteV%128)))&&(decide (((((((aa.mk b false 0).bytesC 1).need ((((aa.mk b false 0).byteV)==13)||(((aa.mk b false 0).byteV)==14)) 8).bytesC 1).need ((decide (0<(((aa.mk b false 0).bytesC 1).need ((((aa.mk b false 0).byteV)==13)||(((aa.mk b false 0).byteV)==14)) 8).byteV))&&(decide ((((aa.mk b false 0).bytesC 1).need ((((aa.mk b false 0).byteV)==13)||(((aa.mk b false 0).byteV)==14)) 8).byteV<5))) 6).byteV%128)≤3))) 6).byteV==255)) 6).bytesC 1).need (((((((((((aa.mk b false 0).bytesC 1).need ((((aa.mk b false 0).byteV)==13)||(((aa.mk b false 0).byteV)==14)) 8).bytesC 1).need ((decide (0<(((aa.mk b false 0).bytesC 1).need ((((aa.mk b false 0).byteV)==13)||(((aa.mk b false 0).byteV)==14)) 8).byteV))&&(decide ((((aa.mk b false 0).bytesC 1).need ((((aa.mk b false 0).byteV)==13)||(((aa.mk b false 0).byteV)==14)) 8).byteV<5))) 6).bytesC 1).need ((decide (1≤((((((aa.mk b false 0).bytesC 1).need ((((aa.mk b false 0).byteV)==13)||(((aa.mk b false 0).byteV)==14)) 8).bytesC 1).need ((decide (0<(((aa.mk b false 0).bytesC 1).need ((((aa.mk b false 0).byteV)==13)||(((aa.mk b false 0).byteV)==14)) 8).byteV))&&(decide ((((aa.mk b false 0).bytesC 1).need ((((aa.mk b false 0).byteV)==13)||(((aa.mk b false 0).byteV)==14)) 8).byteV<5))) 6).byteV%128)))&&(decide (((((((aa.mk b false 0).bytesC 1).need ((((aa.mk b false 0).byteV)==13)||(((aa.mk b false 0).byteV)==14)) 8).bytesC 1).need ((decide (0<(((aa.mk b false 0).bytesC 1).need ((((aa.mk b false 0).byteV)==13)||(((aa.mk b false 0).byteV)==14)) 8).byteV))&&(decide ((((aa.mk b false 0).bytesC 1).need ((((aa.mk b false 0).byteV)==13)||(((aa.mk b false 0).byteV)==14)) 8).byteV<5))) 6).byteV%128)≤3))) 6).bytesC 1).need (((((((((aa.mk b false 0).bytesC 1).need ((((aa.mk b false 0).byteV)==13)||(((aa.mk b false 0).byteV)==14)) 8).bytesC 1).need ((decide (0<(((aa.mk b false 0).bytesC 1).need ((((aa.mk b false 0).byteV)==13)||(((aa.mk b false 0).byteV)==14)) 8).byteV))&&(decide ((((aa.mk b false 0).bytesC 1).need ((((aa.mk b false 0).byteV)==13)||(((aa.mk b false 0).byteV)==14)) 8).byteV<5))) 6).bytesC 1).need ((decide (1≤((((((aa.mk b false 0).bytesC 1).need ((((aa.mk b false 0).byteV)==13)||(((aa.mk b false 0).byteV)==14)) 8).bytesC 1).need ((decide (0<(((aa.mk b false 0).bytesC 1).need ((((aa.mk b false 0).byteV)==13)||(((aa.mk b false 0).byteV)==14)) 8).byteV))&&(decide ((((aa.mk b false 0).bytesC 1).need ((((aa.mk b false 0).byteV)==13)||(((aa.mk b false 0).byteV)==14)) 8).byteV<5))) 6).byteV%128)))&&(decide (((((((aa.mk b false 0).bytesC 1).need ((((aa.mk b false 0).byteV)==13)||(((aa.mk b false 0).byteV)==14)) 8).bytesC 1).need ((decide (0<(((aa.mk b false 0).bytesC 1).need ((((aa.mk b false 0).byteV)==13)||(((aa.mk b false 0).byteV)==14)) 8).byteV))&&(decide ((((aa.mk b false 0).bytesC 1).need ((((aa.mk b false 0).byteV)==13)||(((aa.mk b false 0).byteV)==14)) 8).byteV<5))) 6).byteV%128)≤3))) 6).byteV==0)||((((((((aa.mk b false 0).bytesC 1).need ((((aa.mk b false 0).byteV)==13)||(((aa.mk b false 0).byteV)==14)) 8).bytesC 1).need ((decide (0<(((aa.mk b false 0).bytesC 1).need ((((aa.mk b false 0).byteV)==13)||(((aa.mk b false 0).byteV)==14)) 8).byteV))&&(decide ((((aa.mk b false 0).bytesC 1).need ((((aa.mk b false 0).byteV)==13)||(((aa.mk b false 0).byteV)==14)) 8).byteV<5))) 6).bytesC 1).need ((decide (1≤((((((aa.mk b false 0).bytesC 1).need ((((aa.mk b false 0).byteV)==13)||(((aa.mk b false 0).byteV)==14)) 8).bytesC 1).need ((decide (0<(((aa.mk b false 0).bytesC 1).need ((((aa.mk b false 0).byteV)==13)||(((aa.mk b false 0).byteV)==14)) 8).byteV))&&(decide ((((aa.mk b false 0).bytesC 1).need ((((aa.mk b false 0).byteV)==13)||(((aa.mk b false 0).byteV)==14)) 8).byteV<5))) 6).byteV%128)))&&(decide (((((((aa.mk b false 0).bytesC 1).need ((((aa.mk b false 0).byteV)==13)||(((aa.mk b false 0).byteV)==14)) 8).bytesC 1).need ((decide (0<(((aa.mk b false 0).bytesC 1).need ((((aa.mk b false 0).byteV)==13)||(((aa.mk b false 0).byteV)==14)) 8).byteV))&&(decide ((((aa.mk b false 0).bytesC 1).need ((((aa.mk b false 0).byteV)==13)||(((aa.mk b false 0).byteV)==14)) 8).byteV<5))) 6).byteV%128)≤3))) 6).byteV==255)) 6).byteV==0)||((((((((aa.mk b false 0).bytesC 1).need ((((aa.mk b false 0).byteV)==13)||(((aa.mk b false 0).byteV)==14)) 8).bytesC 1).need ((decide (0<(((aa.mk b false 0).bytesC 1).need ((((aa.mk b false 0).byteV)==13)||(((aa.mk b false 0).byteV)==14)) 8).byteV))&&(decide ((((aa.mk b false 0).bytesC 1).need ((((aa.mk b false 0).byteV)==13)||(((aa.mk b false 0).byteV)==14)) 8).byteV<5))) 6).bytesC 1).need ((decide (1≤((((((aa.mk b false 0).bytesC 1).need ((((aa.mk b false 0).byteV)==13)||(((aa.mk b false 0).byteV)==14)) 8).bytesC 1).need ((decide (0<(((aa.mk b false 0).bytesC 1).need ((((aa.mk b false 0).byteV)==13)||(((aa.mk b false 0).byteV)==14)) 8).byteV))&&(decide ((((aa.mk b false 0).bytesC 1).need ((((aa.mk b false 0).byteV)==13)||(((aa.mk b false 0).byteV)==14)) 8).byteV<5))) 6).byteV%128)))&&(decide (((((((aa.mk b false 0).bytesC 1).need ((((aa.mk b false 0).byteV)==13)||(((aa.mk b false 0).byteV)==14)) 8).bytesC 1).need ((decide (0<(((aa.mk b false 0).bytesC 1).need ((((aa.mk b false 0).byteV)==13)||(((aa.mk b false 0).byteV)==14)) 8).byteV))&&(decide ((((aa.mk b false 0).bytesC 1).need ((((aa.mk b false 0).byteV)==13)||(((aa.mk b false 0).byteV)==14)) 8).byteV<5))) 6).byteV%128)≤3))) 6).byteV==255)) 6).byteV==1)||((((aa.mk b false 0).bytesC 1).need ((((aa.mk b false 0).byteV)==13)||(((aa.mk b false 0).byteV)==14)) 8).byteV != 4)) 5) []).2) (eb (((((((((((aa.mk b false 0).bytesC 1).need ((((aa.mk b false 0).byteV)==13)||(((aa.mk b false 0).byteV)==14)) 8).bytesC 1).need ((decide (0<(((aa.mk b false 0).bytesC 1).need ((((aa.mk b false 0).byteV)==13)||(((aa.mk b false 0).byteV)==14)) 8).byteV))&&(decide ((((aa.mk b false 0).bytesC 1).need ((((aa.mk b false 0).byteV)==13)||(((aa.mk b false 0).byteV)==14)) 8).byteV<5))) 6).bytesC 1).need ((decide (1≤((((((aa.mk b false 0).bytesC 1).need ((((aa.mk b false 0).byteV)==13)||(((aa.mk b false 0).byteV)==14)) 8).bytesC 1).need ((decide (0<(((aa.mk b false 0).bytesC 1).need ((((aa.mk b false 0).byteV)==13)||(((aa.mk b false 0).byteV)==14)) 8).byteV))&&(decide ((((aa.mk b false 0).bytesC 1).need ((((aa.mk b false 0).byteV)==13)||(((aa.mk b false 0).byteV)==14)) 8).byteV<5))) 6).byteV%128)))&&(decide (((((((aa.mk b false 0).bytesC 1).need ((((aa.mk b false 0).byteV)==13)||(((aa.mk b false 0).byteV)==14)) 8).bytesC 1).need ((decide (0<(((aa.mk b false 0).bytesC 1).need ((((aa.mk b false 0).byteV)==13)||(((aa.mk b false 0).byteV)==14)) 8).byteV))&&(decide ((((aa.mk b false 0).bytesC 1).need ((((aa.mk b false 0).byteV)==13)||(((aa.mk b false 0).byteV)==14)) 8).byteV<5))) 6).byteV%128)≤3))) 6).bytesC 1).need (((((((((aa.mk b false 0).bytesC 1).need ((((aa.mk b false 0).byteV)==13)||(((aa.mk b false 0).byteV)==14)) 8).bytesC 1).need ((decide (0<(((aa.mk b false 0).bytesC 1).need ((((aa.mk b false 0).byteV)==13)||(((aa.mk b false 0).byteV)==14)) 8).byteV))&&(decide ((((aa.mk b false 0).bytesC 1).need ((((aa.mk b false 0).byteV)==13)||(((aa.mk b false 0).byteV)==14)) 8).byteV<5))) 6).bytesC 1).need ((decide (1≤((((((aa.mk b false 0).bytesC 1).need ((((aa.mk b false 0).byteV)==13)||(((aa.mk b false 0).byteV)==14)) 8).bytesC 1).need ((decide (0<(((aa.mk b false 0).bytesC 1).need ((((aa.mk b false 0).byteV)==13)||(((aa.mk b false 0).byteV)==14)) 8).byteV))&&(decide ((((aa.mk b false 0).bytesC 1).need ((((aa.mk b false 0).byteV)==13)||(((aa.mk b false 0).byteV)==14)) 8).byteV<5))) 6).byteV%128)))&&(decide (((((((aa.mk b false 0).bytesC 1).need ((((aa.mk b false 0).byteV)==13)||(((aa.mk b false 0).byteV)==14)) 8).bytesC 1).need ((decide (0<(((aa.mk b false 0).bytesC 1).need ((((aa.mk b false 0).byteV)==13)||(((aa.mk b false 0).byteV)==14)) 8).byteV))&&(decide ((((aa.mk b false 0).bytesC 1).need ((((aa.mk b false 0).byteV)==13)||(((aa.mk b false 0).byteV)==14)) 8).byteV<5))) 6).byteV%128)≤3))) 6).byteV==0)||((((((((aa.mk b false 0).bytesC 1).need ((((aa.mk b false 0).byteV)==13)||(((aa.mk b false 0).byteV)==14)) 8).bytesC 1).need ((decide (0<(((aa.mk b false 0).bytesC 1).need ((((aa.mk b false 0).byteV)==13)||(((aa.mk b false 0).byteV)==14)) 8).byteV))&&(decide ((((aa.mk b false 0).bytesC 1).need ((((aa.mk b false 0).byteV)==13)||(((aa.mk b false 0).byteV)==14)) 8).byteV<5))) 6).bytesC 1).need ((decide (1≤((((((aa.mk b false 0).bytesC 1).need ((((aa.mk b false 0).byteV)==13)||(((aa.mk b false 0).byteV)==14)) 8).bytesC 1).need ((decide (0<(((aa.mk b false 0).bytesC 1).need ((((aa.mk b false 0).byteV)==13)||(((aa.mk b false 0).byteV)==14)) 8).byteV))&&(decide ((((aa.mk b false 0).bytesC 1).need ((((aa.mk b false 0).byteV)==13)||(((aa.mk b false 0).byteV)==14)) 8).byteV<5))) 6).byteV%128)))&&(decide (((((((aa.mk b false 0).bytesC 1).need ((((aa.mk b false 0).byteV)==13)||(((aa.mk b false 0).byteV)==14)) 8).bytesC 1).need ((decide (0<(((aa.mk b false 0).bytesC 1).need ((((aa.mk b false 0).byteV)==13)||(((aa.mk b false 0).byteV)==14)) 8).byteV))&&(decide ((((aa.mk b false 0).bytesC 1).need ((((aa.mk b false 0).byteV)==13)||(((aa.mk b false 0).byteV)==14)) 8).byteV<5))) 6).byteV%128)≤3))) 6).byteV==255)) 6).bytesC 1).need (((((((((((aa.mk b false 0).bytesC 1).need ((((aa.mk b false 0).byteV)==13)||(((aa.mk b false 0).byteV)==14)) 8).bytesC 1).need ((decide (0<(((aa.mk b false 0).bytesC 1).need ((((aa.mk b false 0).byteV)==13)||(((aa.mk b false 0).byteV)==14)) 8).byteV))&&(decide ((((aa.mk b false 0).bytesC 1).need ((((aa.mk b false 0).byteV)==13)||(((aa.mk b false 0).byteV)==14)) 8).byteV<5))) 6).bytesC 1).need ((decide (1≤((((((aa.mk b false 0).bytesC 1).need ((((aa.mk b false 0).byteV)==13)||(((aa.mk b false 0).byteV)==14)) 8).bytesC 1).need ((decide (0<(((aa.mk b false 0).bytesC 1).need ((((aa.mk b false 0).byteV)==13)||(((aa.mk b false 0).byteV)==14)) 8).byteV))&&(decide ((((aa.mk b false 0).bytesC 1).need ((((aa.mk b false 0).byteV)==13)||(((aa.mk b false 0).byteV)==14)) 8).byteV<5))) 6).byteV%128)))&&(decide (((((((aa.mk b false 0).bytesC 1).need ((((aa.mk b false 0).byteV)==13)||(((aa.mk b false 0).byteV)==14)) 8).bytesC 1).need ((decide (0<(((aa.mk b false 0).bytesC 1).need ((((aa.mk b false 0).byteV)==13)||(((aa.mk b false 0).byteV)==14)) 8).byteV))&&(decide ((((aa.mk b false 0).bytesC 1).need ((((aa.mk b false 0).byteV)==13)||(((aa.mk b false 0).byteV)==14)) 8).byteV<5))) 6).byteV%128)≤3))) 6).bytesC 1).need (((((((((aa.mk b false 0).bytesC 1).need ((((aa.mk b false 0).byteV)==13)||(((aa.mk b false 0).byteV)==14)) 8).bytesC 1).need ((decide (0<(((aa.mk b false 0).bytesC 1).need ((((aa.mk b false 0).byteV)==13)||(((aa.mk b false 0).byteV)==14)) 8).byteV))&&(decide ((((aa.mk b false 0).bytesC 1).need ((((aa.mk b false 0).byteV)==13)||(((aa.mk b false 0).byteV)==14)) 8).byteV<5))) 6).bytesC 1).need ((decide (1≤((((((aa.mk b false 0).bytesC 1).need ((((aa.mk b false 0).byteV)==13)||(((aa.mk b false 0).byteV)==14)) 8).bytesC 1).need ((decide (0<(((aa.mk b false 0).bytesC 1).need ((((aa.mk b false 0).byteV)==13)||(((aa.mk b false 0).byteV)==14)) 8).byteV))&&(decide ((((aa.mk b false 0).bytesC 1).need ((((aa.mk b false 0).byteV)==13)||(((aa.mk b false 0).byteV)==14)) 8).byteV<5))) 6).byteV%128)))&&(decide (((((((aa.mk b false 0).bytesC 1).need ((((aa.mk b false 0).byteV)==13)||(((aa.mk b false 0).byteV)==14)) 8).bytesC 1).need ((decide (0<(((aa.mk b false 0).bytesC 1).need ((((aa.mk b false 0).byteV)==13)||(((aa.mk b false 0).byteV)==14)) 8).byteV))&&(decide ((((aa.mk b false 0).bytesC 1).need ((((aa.mk b false 0).byteV)==13)||(((aa.mk b false 0).byteV)==14)) 8).byteV<5))) 6).byteV%128)≤3))) 6).byteV==0)||((((((((aa.mk b false 0).bytesC 1).need ((((aa.mk b false 0).byteV)==13)||(((aa.mk b false 0).byteV)==14)) 8).bytesC 1).need ((decide (0<(((aa.mk b false 0).bytesC 1).need ((((aa.mk b false 0).byteV)==13)||(((aa.mk b false 0).byteV)==14)) 8).byteV))&&(decide ((((aa.mk b false 0).bytesC 1).need ((((aa.mk b false 0).byteV)==13)||(((aa.mk b false 0).byteV)==14)) 8).byteV<5))) 6).bytesC 1).need ((decide (1≤((((((aa.mk b false 0).bytesC 1).need ((((aa.mk b false 0).byteV)==13)||(((aa.mk b false 0).byteV)==14)) 8).bytesC 1).need ((decide (0<(((aa.mk b false 0).bytesC 1).need ((((aa.mk b false 0).byteV)==13)||(((aa.mk b false 0).byteV)==14)) 8).byteV))&&(decide ((((aa.mk b false 0).bytesC 1).need ((((aa.mk b false 0).byteV)==13)||(((aa.mk b false 0).byteV)==14)) 8).byteV<5))) 6).byteV%128)))&&(decide (((((((aa.mk b false 0).bytesC 1).need ((((aa.mk b false 0).byteV)==13)||(((aa.mk b false 0).byteV)==14)) 8).bytesC 1).need ((decide (0<(((aa.mk b false 0).bytesC 1).need ((((aa.mk b false 0).byteV)==13)||(((aa.mk b false 0).byteV)==14)) 8).byteV))&&(decide ((((aa.mk b false 0).bytesC 1).need ((((aa.mk b false 0).byteV)==13)||(((aa.mk b false 0).byteV)==14)) 8).byteV<5))) 6).byteV%128)≤3))) 6).byteV==255)) 6).byteV==0)||((((((((aa.mk b false 0).bytesC 1).need ((((aa.mk b false 0).byteV)==13)||(((aa.mk b false 0).byteV)==14)) 8).bytesC 1).need ((decide (0<(((aa.mk b false 0).bytesC 1).need ((((aa.mk b false 0).byteV)==13)||(((aa.mk b false 0).byteV)==14)) 8).byteV))&&(decide ((((aa.mk b false 0).bytesC 1).need ((((aa.mk b false 0).byteV)==13)||(((aa.mk b false 0).byteV)==14)) 8).byteV<5))) 6).bytesC 1).need ((decide (1≤((((((aa.mk b false 0).bytesC 1).need ((((aa.mk b false 0).byteV)==13)||(((aa.mk b false 0).byteV)==14)) 8).bytesC 1).need ((decide (0<(((aa.mk b false 0).bytesC 1).need ((((aa.mk b false 0).byteV)==13)||(((aa.mk b false 0).byteV)==14)) 8).byteV))&&(decide ((((aa.mk b false 0).bytesC 1).need ((((aa.mk b false 0).byteV)==13)||(((aa.mk b false 0).byteV)==14)) 8).byteV<5))) 6).byteV%128)))&&(decide (((((((aa.mk b false 0).bytesC 1).need ((((aa.mk b false 0).byteV)==13)||(((aa.mk b false 0).byteV)==14)) 8).bytesC 1).need ((decide (0<(((aa.mk b false 0).bytesC 1).need ((((aa.mk b false 0).byteV)==13)||(((aa.mk b false 0).byteV)==14)) 8).byteV))&&(decide ((((aa.mk b false 0).bytesC 1).need ((((aa.mk b false 0).byteV)==13)||(((aa.mk b false 0).byteV)==14)) 8).byteV<5))) 6).byteV%128)≤3))) 6).byteV==255)) 6).byteV.toNat (((((((((((((aa.mk b false 0).bytesC 1).need ((((aa.mk b false 0).byteV)==13)||(((aa.mk b false 0).byteV)==14)) 8).bytesC 1).need ((decide (0<(((aa.mk b false 0).bytesC 1).need ((((aa.mk b false 0).byteV)==13)||(((aa.mk b false 0).byteV)==14)) 8).byteV))&&(decide ((((aa.mk b false 0).bytesC 1).need ((((aa.mk b false 0).byteV)==13)||(((aa.mk b false 0).byteV)==14)) 8).byteV<5))) 6).bytesC 1).need ((decide (1≤((((((aa.mk b false 0).bytesC 1).need ((((aa.mk b false 0).byteV)==13)||(((aa.mk b false 0).byteV)==14)) 8).bytesC 1).need ((decide (0<(((aa.mk b false 0).bytesC 1).need ((((aa.mk b false 0).byteV)==13)||(((aa.mk b false 0).byteV)==14)) 8).byteV))&&(decide ((((aa.mk b false 0).bytesC 1).need ((((aa.mk b false 0).byteV)==13)||(((aa.mk b false 0).byteV)==14)) 8).byteV<5))) 6).byteV%128)))&&(decide (((((((aa.mk b false 0).bytesC 1).need ((((aa.mk b false 0).byteV)==13)||(((aa.mk b false 0).byteV)==14)) 8).bytesC 1).need ((decide (0<(((aa.mk b false 0).bytesC 1).need ((((aa.mk b false 0).byteV)==13)||(((aa.mk b false 0).byteV)==14)) 8).byteV))&&(decide ((((aa.mk b false 0).bytesC 1).need ((((aa.mk b false 0).byteV)==13)||(((aa.mk b false 0).byteV)==14)) 8).byteV<5))) 6).byteV%128)≤3))) 6).bytesC 1).need (((((((((aa.mk b false 0).bytesC 1).need ((((aa.mk b false 0).byteV)==13)||(((aa.mk b false 0).byteV)==14)) 8).bytesC 1).need ((decide (0<(((aa.mk b false 0).bytesC 1).need ((((aa.mk b false 0).byteV)==13)||(((aa.mk b false 0).byteV)==14)) 8).byteV))&&(decide ((((aa.mk b false 0).bytesC 1).need ((((aa.mk b false 0).byteV)==13)||(((aa.mk b false 0).byteV)==14)) 8).byteV<5))) 6).bytesC 1).need ((decide (1≤((((((aa.mk b false 0).bytesC 1).need ((((aa.mk b false 0).byteV)==13)||(((aa.mk b false 0).byteV)==14)) 8).bytesC 1).need ((decide (0<(((aa.mk b false 0).bytesC 1).need ((((aa.mk b false 0).byteV)==13)||(((aa.mk b false 0).byteV)==14)) 8).byteV))&&(decide ((((aa.mk b false 0).bytesC 1).need ((((aa.mk b false 0).byteV)==13)||(((aa.mk b false 0).byteV)==14)) 8).byteV<5))) 6).byteV%128)))&&(decide (((((((aa.mk b false 0).bytesC 1).need ((((aa.mk b false 0).byteV)==13)||(((aa.mk b false 0).byteV)==14)) 8).bytesC 1).need ((decide (0<(((aa.mk b false 0).bytesC 1).need ((((aa.mk b false 0).byteV)==13)||(((aa.mk b false 0).byteV)==14)) 8).byteV))&&(decide ((((aa.mk b false 0).bytesC 1).need ((((aa.mk b false 0).byteV)==13)||(((aa.mk b false 0).byteV)==14)) 8).byteV<5))) 6).byteV%128)≤3))) 6).byteV==0)||((((((((aa.mk b false 0).bytesC 1).need ((((aa.mk b false 0).byteV)==13)||(((aa.mk b false 0).byteV)==14)) 8).bytesC 1).need ((decide (0<(((aa.mk b false 0).bytesC 1).need ((((aa.mk b false 0).byteV)==13)||(((aa.mk b false 0).byteV)==14)) 8).byteV))&&(decide ((((aa.mk b false 0).bytesC 1).need ((((aa.mk b false 0).byteV)==13)||(((aa.mk b false 0).byteV)==14)) 8).byteV<5))) 6).bytesC 1).need ((decide (1≤((((((aa.mk b false 0).bytesC 1).need ((((aa.mk b false 0).byteV)==13)||(((aa.mk b false 0).byteV)==14)) 8).bytesC 1).need ((decide (0<(((aa.mk b false 0).bytesC 1).need ((((aa.mk b false 0).byteV)==13)||(((aa.mk b false 0).byteV)==14)) 8).byteV))&&(decide ((((aa.mk b false 0).bytesC 1).need ((((aa.mk b false 0).byteV)==13)||(((aa.mk b false 0).byteV)==14)) 8).byteV<5))) 6).byteV%128)))&&(decide (((((((aa.mk b false 0).bytesC 1).need ((((aa.mk b false 0).byteV)==13)||(((aa.mk b false 0).byteV)==14)) 8).bytesC 1).need ((decide (0<(((aa.mk b false 0).bytesC 1).need ((((aa.mk b false 0).byteV)==13)||(((aa.mk b false 0).byteV)==14)) 8).byteV))&&(decide ((((aa.mk b false 0).bytesC 1).need ((((aa.mk b false 0).byteV)==13)||(((aa.mk b false 0).byteV)==14)) 8).byteV<5))) 6).byteV%128)≤3))) 6).byteV==255)) 6).bytesC 1).need (((((((((((aa.mk b false 0).bytesC 1).need ((((aa.mk b false 0).byteV)==13)||(((aa.mk b false 0).byteV)==14)) 8).bytesC 1).need ((decide (0<(((aa.mk b false 0).bytesC 1).need ((((aa.mk b false 0).byteV)==13)||(((aa.mk b false 0).byteV)==14)) 8).byteV))&&(decide ((((aa.mk b false 0).bytesC 1).need ((((aa.mk b false 0).byteV)==13)||(((aa.mk b false 0).byteV)==14)) 8).byteV<5))) 6).bytesC 1).need ((decide (1≤((((((aa.mk b false 0).bytesC 1).need ((((aa.mk b false 0).byteV)==13)||(((aa.mk b false 0).byteV)==14)) 8).bytesC 1).need ((decide (0<(((aa.mk b false 0).bytesC 1).need ((((aa.mk b false 0).byteV)==13)||(((aa.mk b false 0).byteV)==14)) 8).byteV))&&(decide ((((aa.mk b false 0).bytesC 1).need ((((aa.mk b false 0).byteV)==13)||(((aa.mk b false 0).byteV)==14)) 8).byteV<5))) 6).byteV%128)))&&(decide (((((((aa.mk b false 0).bytesC 1).need ((((aa.mk b false 0).byteV)==13)||(((aa.mk b false 0).byteV)==14)) 8).bytesC 1).need ((decide (0<(((aa.mk b false 0).bytesC 1).need ((((aa.mk b false 0).byteV)==13)||(((aa.mk b false 0).byteV)==14)) 8).byteV))&&(decide ((((aa.mk b false 0).bytesC 1).need ((((aa.mk b false 0).byteV)==13)||(((aa.mk b false 0).byteV)==14)) 8).byteV<5))) 6).byteV%128)≤3))) 6).bytesC 1).need (((((((((aa.mk b false 0).bytesC 1).need ((((aa.mk b false 0).byteV)==13)||(((aa.mk b false 0).byteV)==14)) 8).bytesC 1).need ((decide (0<(((aa.mk b false 0).bytesC 1).need ((((aa.mk b false 0).byteV)==13)||(((aa.mk b false 0).byteV)==14)) 8).byteV))&&(decide ((((aa.mk b false 0).bytesC 1).need ((((aa.mk b false 0).byteV)==13)||(((aa.mk b false 0).byteV)==14)) 8).byteV<5))) 6).bytesC 1).need ((decide (1≤((((((aa.mk b false 0).bytesC 1).need ((((aa.mk b false 0).byteV)==13)||(((aa.mk b false 0).byteV)==14)) 8).bytesC 1).need ((decide (0<(((aa.mk b false 0).bytesC 1).need ((((aa.mk b false 0).byteV)==13)||(((aa.mk b false 0).byteV)==14)) 8).byteV))&&(decide ((((aa.mk b false 0).bytesC 1).need ((((aa.mk b false 0).byteV)==13)||(((aa.mk b false 0).byteV)==14)) 8).byteV<5))) 6).byteV%128)))&&(decide (((((((aa.mk b false 0).bytesC 1).need ((((aa.mk b false 0).byteV)==13)||(((aa.mk b false 0).byteV)==14)) 8).bytesC 1).need ((decide (0<(((aa.mk b false 0).bytesC 1).need ((((aa.mk b false 0).byteV)==13)||(((aa.mk b false 0).byteV)==14)) 8).byteV))&&(decide ((((aa.mk b false 0).bytesC 1).need ((((aa.mk b false 0).byteV)==13)||(((aa.mk b false 0).byteV)==14)) 8).byteV<5))) 6).byteV%128)≤3))) 6).byteV==0)||((((((((aa.mk b false 0).bytesC 1).need ((((aa.mk b false 0).byteV)==13)||(((aa.mk b false 0).byteV)==14)) 8).bytesC 1).need ((decide (0<(((aa.mk b false 0).bytesC 1).need ((((aa.mk b false 0).byteV)==13)||(((aa.mk b false 0).byteV)==14)) 8).byteV))&&(decide ((((aa.mk b false 0).bytesC 1).need ((((aa.mk b false 0).byteV)==13)||(((aa.mk b false 0).byteV)==14)) 8).byteV<5))) 6).bytesC 1).need ((decide (1≤((((((aa.mk b false 0).bytesC 1).need ((((aa.mk b false 0).byteV)==13)||(((aa.mk b false 0).byteV)==14)) 8).bytesC 1).need ((decide (0<(((aa.mk b false 0).bytesC 1).need ((((aa.mk b false 0).byteV)==13)||(((aa.mk b false 0).byteV)==14)) 8).byteV))&&(decide ((((aa.mk b false 0).bytesC 1).need ((((aa.mk b false 0).byteV)==13)||(((aa.mk b false 0).byteV)==14)) 8).byteV<5))) 6).byteV%128)))&&(decide (((((((aa.mk b false 0).bytesC 1).need ((((aa.mk b false 0).byteV)==13)||(((aa.mk b false 0).byteV)==14)) 8).bytesC 1).need ((decide (0<(((aa.mk b false 0).bytesC 1).need ((((aa.mk b false 0).byteV)==13)||(((aa.mk b false 0).byteV)==14)) 8).byteV))&&(decide ((((aa.mk b false 0).bytesC 1).need ((((aa.mk b false 0).byteV)==13)||(((aa.mk b false 0).byteV)==14)) 8).byteV<5))) 6).byteV%128)≤3))) 6).byteV==255)) 6).byteV==0)||((((((((aa.mk b false 0).bytesC 1).need ((((aa.mk b false 0).byteV)==13)||(((aa.mk b false 0).byteV)==14)) 8).bytesC 1).need ((decide (0<(((aa.mk b false 0).bytesC 1).need ((((aa.mk b false 0).byteV)==13)||(((aa.mk b false 0).byteV)==14)) 8).byteV))&&(decide ((((aa.mk b false 0).bytesC 1).need ((((aa.mk b false 0).byteV)==13)||(((aa.mk b false 0).byteV)==14)) 8).byteV<5))) 6).bytesC 1).need ((decide (1≤((((((aa.mk b false 0).bytesC 1).need ((((aa.mk b false 0).byteV)==13)||(((aa.mk b false 0).byteV)==14)) 8).bytesC 1).need ((decide (0<(((aa.mk b false 0).bytesC 1).need ((((aa.mk b false 0).byteV)==13)||(((aa.mk b false 0).byteV)==14)) 8).byteV))&&(decide ((((aa.mk b false 0).bytesC 1).need ((((aa.mk b false 0).byteV)==13)||(((aa.mk b false 0).byteV)==14)) 8).byteV<5))) 6).byteV%128)))&&(decide (((((((aa.mk b false 0).bytesC 1).need ((((aa.mk b false 0).byteV)==13)||(((aa.mk b false 0).byteV)==14)) 8).bytesC 1).need ((decide (0<(((aa.mk b false 0).bytesC 1).need ((((aa.mk b false 0).byteV)==13)||(((aa.mk b false 0).byteV)==14)) 8).byteV))&&(decide ((((aa.mk b false 0).bytesC 1).need ((((aa.mk b false 0).byteV)==13)||(((aa.mk b false 0).byteV)==14)) 8).byteV<5))) 6).byteV%128)≤3))) 6).byteV==255)) 6).bytesC 1).need (((((((((((((aa.mk b false 0).bytesC 1).need ((((aa.mk b false 0).byteV)==13)||(((aa.mk b false 0).byteV)==14)) 8).bytesC 1).need ((decide (0<(((aa.mk b false 0).bytesC 1).need ((((aa.mk b false 0).byteV)==13)||(((aa.mk b false 0).byteV)==14)) 8).byteV))&&(decide ((((aa.mk b false 0).bytesC 1).need ((((aa.mk b false 0).byteV)==13)||(((aa.mk b false 0).byteV)==14)) 8).byteV<5))) 6).bytesC 1).need ((decide (1≤((((((aa.mk b false 0).bytesC 1).need ((((aa.mk b false 0).byteV)==13)||(((aa.mk b false 0).byteV)==14)) 8).bytesC 1).need ((decide (0<(((aa.mk b false 0).bytesC 1).need ((((aa.mk b false 0).byteV)==13)||(((aa.mk b false 0).byteV)==14)) 8).byteV))&&(decide ((((aa.mk b false 0).bytesC 1).need ((((aa.mk b false 0).byteV)==13)||(((aa.mk b false 0).byteV)==14)) 8).byteV<5))) 6).byteV%128)))&&(decide (((((((aa.mk b false 0).bytesC 1).need ((((aa.mk b false 0).byteV)==13)||(((aa.mk b false 0).byteV)==14)) 8).bytesC 1).need ((decide (0<(((aa.mk b false 0).bytesC 1).need ((((aa.mk b false 0).byteV)==13)||(((aa.mk b false 0).byteV)==14)) 8).byteV))&&(decide ((((aa.mk b false 0).bytesC 1).need ((((aa.mk b false 0).byteV)==13)||(((aa.mk b false 0).byteV)==14)) 8).byteV<5))) 6).byteV%128)≤3))) 6).bytesC 1).need (((((((((aa.mk b false 0).bytesC 1).need ((((aa.mk b false 0).byteV)==13)||(((aa.mk b false 0).byteV)==14)) 8).bytesC 1).need ((decide (0<(((aa.mk b false 0).bytesC 1).need ((((aa.mk b false 0).byteV)==13)||(((aa.mk b false 0).byteV)==14)) 8).byteV))&&(decide ((((aa.mk b false 0).bytesC 1).need ((((aa.mk b false 0).byteV)==13)||(((aa.mk b false 0).byteV)==14)) 8).byteV<5))) 6).bytesC 1).need ((decide (1≤((((((aa.mk b false 0).bytesC 1).need ((((aa.mk b false 0).byteV)==13)||(((aa.mk b false 0).byteV)==14)) 8).bytesC 1).need ((decide (0<(((aa.mk b false 0).bytesC 1).need ((((aa.mk b false 0).byteV)==13)||(((aa.mk b false 0).byteV)==14)) 8).byteV))&&(decide ((((aa.mk b false 0).bytesC 1).need ((((aa.mk b false 0).byteV)==13)||(((aa.mk b false 0).byteV)==14)) 8).byteV<5))) 6).byteV%128)))&&(decide (((((((aa.mk b false 0).bytesC 1).need ((((aa.mk b false 0).byteV)==13)||(((aa.mk b false 0).byteV)==14)) 8).bytesC 1).need ((decide (0<(((aa.mk b false 0).bytesC 1).need ((((aa.mk b false 0).byteV)==13)||(((aa.mk b false 0).byteV)==14)) 8).byteV))&&(decide ((((aa.mk b false 0).bytesC 1).need ((((aa.mk b false 0).byteV)==13)||(((aa.mk b false 0).byteV)==14)) 8).byteV<5))) 6).byteV%128)≤3))) 6).byteV==0)||((((((((aa.mk b false 0).bytesC 1).need ((((aa.mk b false 0).byteV)==13)||(((aa.mk b false 0).byteV)==14)) 8).bytesC 1).need ((decide (0<(((aa.mk b false 0).bytesC 1).need ((((aa.mk b false 0).byteV)==13)||(((aa.mk b false 0).byteV)==14)) 8).byteV))&&(decide ((((aa.mk b false 0).bytesC 1).need ((((aa.mk b false 0).byteV)==13)||(((aa.mk b false 0).byteV)==14)) 8).byteV<5))) 6).bytesC 1).need ((decide (1≤((((((aa.mk b false 0).bytesC 1).need ((((aa.mk b false 0).byteV)==13)||(((aa.mk b false 0).byteV)==14)) 8).bytesC 1).need ((decide (0<(((aa.mk b false 0).bytesC 1).need ((((aa.mk b false 0).byteV)==13)||(((aa.mk b false 0).byteV)==14)) 8).byteV))&&(decide ((((aa.mk b false 0).bytesC 1).need ((((aa.mk b false 0).byteV)==13)||(((aa.mk b false 0).byteV)==14)) 8).byteV<5))) 6).byteV%128)))&&(decide (((((((aa.mk b false 0).bytesC 1).need ((((aa.mk b false 0).byteV)==13)||(((aa.mk b false 0).byteV)==14)) 8).bytesC 1).need ((decide (0<(((aa.mk b false 0).bytesC 1).need ((((aa.mk b false 0).byteV)==13)||(((aa.mk b false 0).byteV)==14)) 8).byteV))&&(decide ((((aa.mk b false 0).bytesC 1).need ((((aa.mk b false 0).byteV)==13)||(((aa.mk b false 0).byteV)==14)) 8).byteV<5))) 6).byteV%128)≤3))) 6).byteV==255)) 6).bytesC 1).need (((((((((((aa.mk b false 0).bytesC 1).need ((((aa.mk b false 0).byteV)==13)||(((aa.mk b false 0).byteV)==14)) 8).bytesC 1).need ((decide (0<(((aa.mk b false 0).bytesC 1).need ((((aa.mk b false 0).byteV)==13)||(((aa.mk b false 0).byteV)==14)) 8).byteV))&&(decide ((((aa.mk b false 0).bytesC 1).need ((((aa.mk b false 0).byteV)==13)||(((aa.mk b false 0).byteV)==14)) 8).byteV<5))) 6).bytesC 1).need ((decide (1≤((((((aa.mk b false 0).bytesC 1).need ((((aa.mk b false 0).byteV)==13)||(((aa.mk b false 0).byteV)==14)) 8).bytesC 1).need ((decide (0<(((aa.mk b false 0).bytesC 1).need ((((aa.mk b false 0).byteV)==13)||(((aa.mk b false 0).byteV)==14)) 8).byteV))&&(decide ((((aa.mk b false 0).bytesC 1).need ((((aa.mk b false 0).byteV)==13)||(((aa.mk b false 0).byteV)==14)) 8).byteV<5))) 6).byteV%128)))&&(decide (((((((aa.mk b false 0).bytesC 1).need ((((aa.mk b false 0).byteV)==13)||(((aa.mk b false 0).byteV)==14)) 8).bytesC 1).need ((decide (0<(((aa.mk b false 0).bytesC 1).need ((((aa.mk b false 0).byteV)==13)||(((aa.mk b false 0).byteV)==14)) 8).byteV))&&(decide ((((aa.mk b false 0).bytesC 1).need ((((aa.mk b false 0).byteV)==13)||(((aa.mk b false 0).byteV)==14)) 8).byteV<5))) 6).byteV%128)≤3))) 6).bytesC 1).need (((((((((aa.mk b false 0).bytesC 1).need ((((aa.mk b false 0).byteV)==13)||(((aa.mk b false 0).byteV)==14)) 8).bytesC 1).need ((decide (0<(((aa.mk b false 0).bytesC 1).need ((((aa.mk b false 0).byteV)==13)||(((aa.mk b false 0).byteV)==14)) 8).byteV))&&(decide ((((aa.mk b false 0).bytesC 1).need ((((aa.mk b false 0).byteV)==13)||(((aa.mk b false 0).byteV)==14)) 8).byteV<5))) 6).bytesC 1).need ((decide (1≤((((((aa.mk b false 0).bytesC 1).need ((((aa.mk b false 0).byteV)==13)||(((aa.mk b false 0).byteV)==14)) 8).bytesC 1).need ((decide (0<(((aa.mk b false 0).bytesC 1).need ((((aa.mk b false 0).byteV)==13)||(((aa.mk b false 0).byteV)==14)) 8).byteV))&&(decide ((((aa.mk b false 0).bytesC 1).need ((((aa.mk b false 0).byteV)==13)||(((aa.mk b false 0).byteV)==14)) 8).byteV<5))) 6).byteV%128)))&&(decide (((((((aa.mk b false 0).bytesC 1).need ((((aa.mk b false 0).byteV)==13)||(((aa.mk b false 0).byteV)==14)) 8).bytesC 1).need ((decide (0<(((aa.mk b false 0).bytesC 1).need ((((aa.mk b false 0).byteV)==13)||(((aa.mk b false 0).byteV)==14)) 8).byteV))&&(decide ((((aa.mk b false 0).bytesC 1).need ((((aa.mk b false 0).byteV)==13)||(((aa.mk b false 0).byteV)==14)) 8).byteV<5))) 6).byteV%128)≤3))) 6).byteV==0)||((((((((aa.mk b false 0).bytesC 1).need ((((aa.mk b false 0).byteV)==13)||(((aa.mk b false 0).byteV)==14)) 8).bytesC 1).need ((decide (0<(((aa.mk b false 0).bytesC 1).need ((((aa.mk b false 0).byteV)==13)||(((aa.mk b false 0).byteV)==14)) 8).byteV))&&(decide ((((aa.mk b false 0).bytesC 1).need ((((aa.mk b false 0).byteV)==13)||(((aa.mk b false 0).byteV)==14)) 8).byteV<5))) 6).bytesC 1).need ((decide (1≤((((((aa.mk b false 0).bytesC 1).need ((((aa.mk b false 0).byteV)==13)||(((aa.mk b false 0).byteV)==14)) 8).bytesC 1).need ((decide (0<(((aa.mk b false 0).bytesC 1).need ((((aa.mk b false 0).byteV)==13)||(((aa.mk b false 0).byteV)==14)) 8).byteV))&&(decide ((((aa.mk b false 0).bytesC 1).need ((((aa.mk b false 0).byteV)==13)||(((aa.mk b false 0).byteV)==14)) 8).byteV<5))) 6).byteV%128)))&&(decide (((((((aa.mk b false 0).bytesC 1).need ((((aa.mk b false 0).byteV)==13)||(((aa.mk b false 0).byteV)==14)) 8).bytesC 1).need ((decide (0<(((aa.mk b false 0).bytesC 1).need ((((aa.mk b false 0).byteV)==13)||(((aa.mk b false 0).byteV)==14)) 8).byteV))&&(decide ((((aa.mk b false 0).bytesC 1).need ((((aa.mk b false 0).byteV)==13)||(((aa.mk b false 0).byteV)==14)) 8).byteV<5))) 6).byteV%128)≤3))) 6).byteV==255)) 6).byteV==0)||((((((((aa.mk b false 0).bytesC 1).need ((((aa.mk b false 0).byteV)==13)||(((aa.mk b false 0).byteV)==14)) 8).bytesC 1).need ((decide (0<(((aa.mk b false 0).bytesC 1).need ((((aa.mk b false 0).byteV)==13)||(((aa.mk b false 0).byteV)==14)) 8).byteV))&&(decide ((((aa.mk b false 0).bytesC 1).need ((((aa.mk b false 0).byteV)==13)||(((aa.mk b false 0).byteV)==14)) 8).byteV<5))) 6).bytesC 1).need ((decide (1≤((((((aa.mk b false 0).bytesC 1).need ((((aa.mk b false 0).byteV)==13)||(((aa.mk b false 0).byteV)==14)) 8).bytesC 1).need ((decide (0<(((aa.mk b false 0).bytesC 1).need ((((aa.mk b false 0).byteV)==13)||(((aa.mk b false 0).byteV)==14)) 8).byteV))&&(decide ((((aa.mk b false 0).bytesC 1).need ((((aa.mk b false 0).byteV)==13)||(((aa.mk b false 0).byteV)==14)) 8).byteV<5))) 6).byteV%128)))&&(decide (((((((aa.mk b false 0).bytesC 1).need ((((aa.mk b false 0).byteV)==13)||(((aa.mk b false 0).byteV)==14)) 8).bytesC 1).need ((decide (0<(((aa.mk b false 0).bytesC 1).need ((((aa.mk b false 0).byteV)==13)||(((aa.mk b false 0).byteV)==14)) 8).byteV))&&(decide ((((aa.mk b false 0).bytesC 1).need ((((aa.mk b false 0).byteV)==13)||(((aa.mk b false 0).byteV)==14)) 8).byteV<5))) 6).byteV%128)≤3))) 6).byteV==255)) 6).byteV==1)||((((aa.mk b false 0).bytesC 1).need ((((aa.mk b false 0).byteV)==13)||(((aa.mk b false 0).byteV)==14)) 8).byteV != 4)) 5) []).1:=by
   unfold ag bN cY fg eE eF eh dN dY dk
   (try simp only[y,E,W,Y,bs,if_true,if_false,decide_true,decide_false,eq_self,true_or,or_true,or_false,false_or,if_true,if_false,ch,cc,cg,ci,reduceIte])
   all_goals rfl
 rw[hR] at hs
 rw[hs]
 exact bo b0 ⟨_,_,_,_,_,rfl,aK.nil ..,aK.nil ..,(fun _ _ _=>aK.nil ..),aK.nil ..,((ax r (us X cE) (fun x hx=>(ae (fun e=>(RC.nrow D r (by decide)) (e▸hx)) (ae (fun e=>(dl H r (by decide)) (e▸hx)) ay))) (fun _ _ h=>h))).rd,⟨(b8 (x:=43) (by omega)),(b8 (x:=0) (by omega)),(aB (x:=0) (by omega)),(aB (x:=0) (by omega)),(aB (x:=0) (by omega)),(aB (x:=0) (by omega)),(aB (x:=0) (by omega)),(aB (x:=0) (by omega)),(aB (x:=0) (by omega)),(aB (x:=0) (by omega)),(aB (x:=0) (by omega)),(aB (x:=0) (by omega)),(b8 (x:=(aa.mk b false 0).byteV) (by omega)),(b8 (x:=(((aa.mk b false 0).bytesC 1).need ((((aa.mk b false 0).byteV)==13)||(((aa.mk b false 0).byteV)==14)) 8).byteV) (by omega)),(b8 (x:=(((((aa.mk b false 0).bytesC 1).need ((((aa.mk b false 0).byteV)==13)||(((aa.mk b false 0).byteV)==14)) 8).bytesC 1).need ((decide (0<(((aa.mk b false 0).bytesC 1).need ((((aa.mk b false 0).byteV)==13)||(((aa.mk b false 0).byteV)==14)) 8).byteV))&&(decide ((((aa.mk b false 0).bytesC 1).need ((((aa.mk b false 0).byteV)==13)||(((aa.mk b false 0).byteV)==14)) 8).byteV<5))) 6).byteV) (by omega)),(b8 (x:=(((((((aa.mk b false 0).bytesC 1).need ((((aa.mk b false 0).byteV)==13)||(((aa.mk b false 0).byteV)==14)) 8).bytesC 1).need ((decide (0<(((aa.mk b false 0).bytesC 1).need ((((aa.mk b false 0).byteV)==13)||(((aa.mk b false 0).byteV)==14)) 8).byteV))&&(decide ((((aa.mk b false 0).bytesC 1).need ((((aa.mk b false 0).byteV)==13)||(((aa.mk b false 0).byteV)==14)) 8).byteV<5))) 6).bytesC 1).need ((decide (1≤((((((aa.mk b false 0).bytesC 1).need ((((aa.mk b false 0).byteV)==13)||(((aa.mk b false 0).byteV)==14)) 8).bytesC 1).need ((decide (0<(((aa.mk b false 0).bytesC 1).need ((((aa.mk b false 0).byteV)==13)||(((aa.mk b false 0).byteV)==14)) 8).byteV))&&(decide ((((aa.mk b false 0).bytesC 1).need ((((aa.mk b false 0).byteV)==13)||(((aa.mk b false 0).byteV)==14)) 8).byteV<5))) 6).byteV%128)))&&(decide (((((((aa.mk b false 0).bytesC 1).need ((((aa.mk b false 0).byteV)==13)||(((aa.mk b false 0).byteV)==14)) 8).bytesC 1).need ((decide (0<(((aa.mk b false 0).bytesC 1).need ((((aa.mk b false 0).byteV)==13)||(((aa.mk b false 0).byteV)==14)) 8).byteV))&&(decide ((((aa.mk b false 0).bytesC 1).need ((((aa.mk b false 0).byteV)==13)||(((aa.mk b false 0).byteV)==14)) 8).byteV<5))) 6).byteV%128)≤3))) 6).byteV) (by omega)),(b8 (x:=(((((((((aa.mk b false 0).bytesC 1).need ((((aa.mk b false 0).byteV)==13)||(((aa.mk b false 0).byteV)==14)) 8).bytesC 1).need ((decide (0<(((aa.mk b false 0).bytesC 1).need ((((aa.mk b false 0).byteV)==13)||(((aa.mk b false 0).byteV)==14)) 8).byteV))&&(decide ((((aa.mk b false 0).bytesC 1).need ((((aa.mk b false 0).byteV)==13)||(((aa.mk b false 0).byteV)==14)) 8).byteV<5))) 6).bytesC 1).need ((decide (1≤((((((aa.mk b false 0).bytesC 1).need ((((aa.mk b false 0).byteV)==13)||(((aa.mk b false 0).byteV)==14)) 8).bytesC 1).need ((decide (0<(((aa.mk b false 0).bytesC 1).need ((((aa.mk b false 0).byteV)==13)||(((aa.mk b false 0).byteV)==14)) 8).byteV))&&(decide ((((aa.mk b false 0).bytesC 1).need ((((aa.mk b false 0).byteV)==13)||(((aa.mk b false 0).byteV)==14)) 8).byteV<5))) 6).byteV%128)))&&(decide (((((((aa.mk b false 0).bytesC 1).need ((((aa.mk b false 0).byteV)==13)||(((aa.mk b false 0).byteV)==14)) 8).bytesC 1).need ((decide (0<(((aa.mk b false 0).bytesC 1).need ((((aa.mk b false 0).byteV)==13)||(((aa.mk b false 0).byteV)==14)) 8).byteV))&&(decide ((((aa.mk b false 0).bytesC 1).need ((((aa.mk b false 0).byteV)==13)||(((aa.mk b false 0).byteV)==14)) 8).byteV<5))) 6).byteV%128)≤3))) 6).bytesC 1).need (((((((((aa.mk b false 0).bytesC 1).need ((((aa.mk b false 0).byteV)==13)||(((aa.mk b false 0).byteV)==14)) 8).bytesC 1).need ((decide (0<(((aa.mk b false 0).bytesC 1).need ((((aa.mk b false 0).byteV)==13)||(((aa.mk b false 0).byteV)==14)) 8).byteV))&&(decide ((((aa.mk b false 0).bytesC 1).need ((((aa.mk b false 0).byteV)==13)||(((aa.mk b false 0).byteV)==14)) 8).byteV<5))) 6).bytesC 1).need ((decide (1≤((((((aa.mk b false 0).bytesC 1).need ((((aa.mk b false 0).byteV)==13)||(((aa.mk b false 0).byteV)==14)) 8).bytesC 1).need ((decide (0<(((aa.mk b false 0).bytesC 1).need ((((aa.mk b false 0).byteV)==13)||(((aa.mk b false 0).byteV)==14)) 8).byteV))&&(decide ((((aa.mk b false 0).bytesC 1).need ((((aa.mk b false 0).byteV)==13)||(((aa.mk b false 0).byteV)==14)) 8).byteV<5))) 6).byteV%128)))&&(decide (((((((aa.mk b false 0).bytesC 1).need ((((aa.mk b false 0).byteV)==13)||(((aa.mk b false 0).byteV)==14)) 8).bytesC 1).need ((decide (0<(((aa.mk b false 0).bytesC 1).need ((((aa.mk b false 0).byteV)==13)||(((aa.mk b false 0).byteV)==14)) 8).byteV))&&(decide ((((aa.mk b false 0).bytesC 1).need ((((aa.mk b false 0).byteV)==13)||(((aa.mk b false 0).byteV)==14)) 8).byteV<5))) 6).byteV%128)≤3))) 6).byteV==0)||((((((((aa.mk b false 0).bytesC 1).need ((((aa.mk b false 0).byteV)==13)||(((aa.mk b false 0).byteV)==14)) 8).bytesC 1).need ((decide (0<(((aa.mk b false 0).bytesC 1).need ((((aa.mk b false 0).byteV)==13)||(((aa.mk b false 0).byteV)==14)) 8).byteV))&&(decide ((((aa.mk b false 0).bytesC 1).need ((((aa.mk b false 0).byteV)==13)||(((aa.mk b false 0).byteV)==14)) 8).byteV<5))) 6).bytesC 1).need ((decide (1≤((((((aa.mk b false 0).bytesC 1).need ((((aa.mk b false 0).byteV)==13)||(((aa.mk b false 0).byteV)==14)) 8).bytesC 1).need ((decide (0<(((aa.mk b false 0).bytesC 1).need ((((aa.mk b false 0).byteV)==13)||(((aa.mk b false 0).byteV)==14)) 8).byteV))&&(decide ((((aa.mk b false 0).bytesC 1).need ((((aa.mk b false 0).byteV)==13)||(((aa.mk b false 0).byteV)==14)) 8).byteV<5))) 6).byteV%128)))&&(decide (((((((aa.mk b false 0).bytesC 1).need ((((aa.mk b false 0).byteV)==13)||(((aa.mk b false 0).byteV)==14)) 8).bytesC 1).need ((decide (0<(((aa.mk b false 0).bytesC 1).need ((((aa.mk b false 0).byteV)==13)||(((aa.mk b false 0).byteV)==14)) 8).byteV))&&(decide ((((aa.mk b false 0).bytesC 1).need ((((aa.mk b false 0).byteV)==13)||(((aa.mk b false 0).byteV)==14)) 8).byteV<5))) 6).byteV%128)≤3))) 6).byteV==255)) 6).byteV) (by omega))⟩⟩ (ud cz cE J)
theorem jA{m:Md}{A:Option Addr}{cp:Nat}{b:List Int}{w:World}{dir c:Int}(hcode:B8 c)(hsl:bi m w (.slice A b.length cp) b)(hb:b.length≤1048576)(hd:¬ (dir=0∨dir=1)) :
    Calls Tryz.prog 97 #[.int .i64 dir,.int .u8 c,.slice A b.length cp] w (d7 (.slice A b.length cp) b (ag bN dir c b) w):=by
 obtain⟨hcode1,hcode2⟩:=hcode
 have hln:(b.length:Int)≤1048576:=by omega
 have e0:(dir != 0)=true:=by simp;omega
 have e1:(dir != 1)=true:=by simp;omega
 refine en 176 Tryz.func97 rfl<|sg<|L0<|bK mZ fun g h a d e=>Pl 1<|nt<|sq<|sg<|Pl 3<|sy 19 e0<|Pl 3<|nl<|?_
 refine tn<|ct e1<|sg<|Pl 1<|L0<|b7 d mZ fun i dx f=>Pl 1<|nt<|rt<|tr<|bL dx (.int .i64 1)<|?_
 have hs:ag bN dir c b=(aP.zero,1):=by
   unfold ag bN cY fg eE eF eh dN dY dk
   (try simp only[e0,e1,bs,if_true,if_false,decide_true,decide_false,eq_self,true_or,or_true,or_false,false_or,if_true,if_false,ch,cc,cg,ci,reduceIte,hd])
   all_goals rfl
 rw[hs]
 exact bu (ud e f a)
theorem nf{m:Md}{v:Value}{b:List Int}{w:World}{dir c:Int}(hc:B8 c)(h:bi m w v b)(hb:b.length≤1048576) :
    Calls Tryz.prog 97 #[.int .i64 dir,.int .u8 c,v] w (d7 v b (ag bF dir c b) w):=by
  rw[← lS (bi.range h)]
  obtain⟨A,cp,rfl,_,_⟩:=h.shape
  by_cases h0:dir=0
  · subst h0;exact jm hc h hb
  by_cases h1:dir=1
  · subst h1;exact jD hc h hb
  exact jA hc h hb (by omega)
open Go.RowKit
theorem p6{x:Int}{w:World}:Calls Tryz.prog 148 #[.int .u8 x] w (dh (.bool (ky x)) w):=by
 refine en 37 Tryz.func148 rfl<|sg<|Pl 1<|ng<|Pl 3<|cu 3 [5] 8 (((decide (1≤x))&&(decide (x≤8)))) (fun K i=>?_) ?_
 refine bl 5 ((decide (1≤x))) (fun a=>?_) (fun a=>?_)
 have v:=of_decide_eq_true a
 exact Pl 3<|ce i (decide (x≤8)) (by rw[a];rfl)
 have v:=of_decide_eq_false a
 exact Pl 3<|ce i false (by rw[a];rfl)
 refine Pl 1<|cu 3 [9] 12 ((((decide (1≤x))&&(decide (x≤8)))||(x==11))) (fun K j=>?_) ?_
 refine bl 9 (((decide (1≤x))&&(decide (x≤8)))) (fun b=>?_) (fun b=>?_)
 have y:=(aW b).1
 have z:=(aW b).2
 have G:=of_decide_eq_true y
 have H:=of_decide_eq_true z
 exact Pl 3<|ce j true (by rw[b];rfl)
 exact Pl 3<|ce j (x==11) (by rw[b];rfl)
 refine Pl 1<|cu 3 [13] 16 (((((decide (1≤x))&&(decide (x≤8)))||(x==11))||(x==12))) (fun K k=>?_) ?_
 refine bl 13 ((((decide (1≤x))&&(decide (x≤8)))||(x==11))) (fun c=>?_) (fun c=>?_)
 exact Pl 3<|ce k true (by rw[c];rfl)
 have I:=(aJ c).1
 have A:=(aJ c).2
 have J:=ap A
 exact Pl 3<|ce k (x==12) (by rw[c];rfl)
 refine Pl 1<|cu 7 [17] 24 ((((((decide (1≤x))&&(decide (x≤8)))||(x==11))||(x==12))||((decide (15≤x))&&(decide (x≤17))))) (fun K l=>?_) ?_
 refine bl 17 (((((decide (1≤x))&&(decide (x≤8)))||(x==11))||(x==12))) (fun d=>?_) (fun d=>?_)
 exact Pl 7<|ce l true (by rw[d];rfl)
 have m:=(aJ d).1
 have B:=(aJ d).2
 have L:=(aJ m).1
 have C:=(aJ m).2
 have q16abp:=ap C
 have M:=ap B
 refine Pl 3<|cu 3 [20] 23 (((decide (15≤x))&&(decide (x≤17)))) (fun K n=>?_) ?_
 refine bl 20 ((decide (15≤x))) (fun e=>?_) (fun e=>?_)
 have D:=of_decide_eq_true e
 exact Pl 3<|ce n (decide (x≤17)) (by rw[e];rfl)
 have D:=of_decide_eq_false e
 exact Pl 3<|ce n false (by rw[e];rfl)
 exact Pl 1<|ce l ((decide (15≤x))&&(decide (x≤17))) (by rw[d];rfl)
 refine Pl 1<|cu 7 [25] 32 (((((((decide (1≤x))&&(decide (x≤8)))||(x==11))||(x==12))||((decide (15≤x))&&(decide (x≤17))))||((decide (20≤x))&&(decide (x≤24))))) (fun K o=>?_) ?_
 refine bl 25 ((((((decide (1≤x))&&(decide (x≤8)))||(x==11))||(x==12))||((decide (15≤x))&&(decide (x≤17))))) (fun f=>?_) (fun f=>?_)
 exact Pl 7<|ce o true (by rw[f];rfl)
 have p:=(aJ f).1
 have N:=(aJ f).2
 have q:=(aJ p).1
 have E:=(aJ p).2
 have q20aaa:=(aJ q).1
 have q20aab:=(aJ q).2
 have q20aabp:=ap q20aab
 have q20abp:=ap E
 refine Pl 3<|cu 3 [28] 31 (((decide (20≤x))&&(decide (x≤24)))) (fun K r=>?_) ?_
 refine bl 28 ((decide (20≤x))) (fun g=>?_) (fun g=>?_)
 have F:=of_decide_eq_true g
 exact Pl 3<|ce r (decide (x≤24)) (by rw[g];rfl)
 have F:=of_decide_eq_false g
 exact Pl 3<|ce r false (by rw[g];rfl)
 exact Pl 1<|ce o ((decide (20≤x))&&(decide (x≤24))) (by rw[f];rfl)
 refine Pl 1<|cu 3 [33] 36 ((((((((decide (1≤x))&&(decide (x≤8)))||(x==11))||(x==12))||((decide (15≤x))&&(decide (x≤17))))||((decide (20≤x))&&(decide (x≤24))))||(x==43))) (fun K s=>?_) ?_
 refine bl 33 (((((((decide (1≤x))&&(decide (x≤8)))||(x==11))||(x==12))||((decide (15≤x))&&(decide (x≤17))))||((decide (20≤x))&&(decide (x≤24))))) (fun h=>?_) (fun h=>?_)
 exact Pl 3<|ce s true (by rw[h];rfl)
 have t:=(aJ h).1
 have O:=(aJ h).2
 have u:=(aJ t).1
 have P:=(aJ t).2
 have q24aaa:=(aJ u).1
 have q24aab:=(aJ u).2
 have q24aaaa:=(aJ q24aaa).1
 have q24aaab:=(aJ q24aaa).2
 have q24aaabp:=ap q24aaab
 have q24aabp:=ap q24aab
 exact Pl 3<|ce s (x==43) (by rw[h];rfl)
 refine Pl 1<|nt<|rt<|rr (.bool (((((((decide (1≤x))&&(decide (x≤8)))||(x==11))||(x==12))||((decide (15≤x))&&(decide (x≤17))))||((decide (20≤x))&&(decide (x≤24))))||(x==43)))<|?_
 have hs:ky x=(((((((decide (1≤x))&&(decide (x≤8)))||(x==11))||(x==12))||((decide (15≤x))&&(decide (x≤17))))||((decide (20≤x))&&(decide (x≤24))))||(x==43)):=by
   unfold ky
   (try simp only[bs,if_true,if_false,decide_true,decide_false])
 rw[hs]
 exact⟨rfl,(aE.refl [] _)⟩
open Go.RowKit
def ex (b:List Int) : aP × Int :=
  if decide ((b.length:Int)<1) then (aP.zero,2)
  else if decide (b.getD 0 0-128<0) then (aP.zero,4)
  else if !(ky ((b.getD 0 0-128)%256)) then (aP.zero,4)
  else if decide ((b.length:Int)<2) then (aP.zero,2)
  else if !(cZ (b.getD 1 0)) then (aP.zero,6)
  else if decide (2<(b.length:Int)) then (aP.zero,3)
  else (mK ((b.getD 0 0-128)%256) (b.getD 1 0),0)
theorem sb{x:Int}:ky x=eH x:=by
  unfold ky eH
  rw[Bool.eq_iff_iff]
  simp only[decide_eq_true_eq,List.mem_cons,List.not_mem_nil,or_false,Bool.or_eq_true,Bool.and_eq_true,beq_iff_eq]
  omega
theorem qi(b:List Int) : ex b=ez b:=by
  unfold ex ez
  rw[sb,show decide ((b.length:Int)<1)=((b.length:Int)==0) from by rw[Bool.eq_iff_iff];simp only[decide_eq_true_eq,beq_iff_eq];omega,show decide (b.getD 0 0-128<0)=decide (b.getD 0 0<128) from by rw[Bool.eq_iff_iff];simp only[decide_eq_true_eq];omega]
  by_cases h:b.length=0
  · rw[show((b.length:Int)==0)=true from by rw[beq_iff_eq];omega];rfl
  · rw[show decide ((b.length:Int)<2)=((b.length:Int)==1) from by rw[Bool.eq_iff_iff];simp only[decide_eq_true_eq,beq_iff_eq];omega]
theorem lG{m:Md}{A:Option Addr}{cp:Nat}{b:List Int}{w:World}(hsl:bi m w (.slice A b.length cp) b)(hb:b.length≤1048576) :
    Calls Tryz.prog 92 #[.slice A b.length cp] w (d7 (.slice A b.length cp) b (ex b) w):=by
 have hln:(b.length:Int)≤1048576:=by omega
 refine en 46 Tryz.func92 rfl<|sg<|L0<|bK mZ fun a2 a3 e f n=>Pl 1<|nt<|sq<|sg<|Pl 3<|nt<|cb ((decide (((b.length:Nat) : Int)<1))) (fun a=>?_) (fun a=>?_)
 have u:=of_decide_eq_true a
 refine sg<|Pl 1<|L0<|b7 f mZ fun a4 y z=>Pl 1<|nt<|rt<|tr<|bL y (.int .i64 2)<|?_
 have hs:ex b=(aP.zero,2):=by
   unfold ex
   (try simp only[a,bs,if_true,if_false,decide_true,decide_false,Bool.not_eq_true,reduceIte])
   all_goals rfl
 rw[hs]
 exact bu (ud n z e)
 have u:=of_decide_eq_false a
 refine bz<|sg<|Pl 1<|?_
 have s:=bi.old hsl n
 refine fM (bi.at_ s 0 (by omega)) fun B C D E a5=>L0<|kj b.length 0 D (by omega)<|L0<|ec (p:=⟨B,C+0,none⟩) (v:=.int .u8 (b.getD 0 0)) E<|L0<|Oi (b.getD 0 0)<|L0<|Oi ((b.getD 0 0)-128)<|Pl 1<|nt<|sq<|sg<|Pl 2<|nt<|?_
 refine cb ((decide (((b.getD 0 0)-128)<0))) (fun c=>?_) (fun c=>?_)
 have F:=of_decide_eq_true c
 refine sg<|Pl 1<|L0<|b7 f mZ fun a6 G H=>Pl 1<|nt<|rt<|tr<|bL G (.int .i64 4)<|?_
 have hs:ex b=(aP.zero,4):=by
   unfold ex
   (try simp only[a,c,bs,if_true,if_false,decide_true,decide_false,Bool.not_eq_true,reduceIte])
   all_goals rfl
 rw[hs]
 exact bu (ud n H e)
 have F:=of_decide_eq_false c
 refine bz<|sg<|Pl 2<|L0<|Oc<|m1 (p6 (x:=(((b.getD 0 0)-128)%256))) fun a7 g=>Pl 1<|nt<|sq<|sg<|Pl 2<|nl<|?_
 refine tn<|?_
 have q:=aI n g
 refine cb ((!(ky (((b.getD 0 0)-128)%256)))) (fun d=>?_) (fun d=>?_)
 have i:(ky (((b.getD 0 0)-128)%256))=false:=by simpa using d
 refine sg<|Pl 1<|?_
 refine L0<|b7 (ub g f) mZ fun a8 I J=>Pl 1<|nt<|rt<|tr<|bL I (.int .i64 4)<|?_
 have hs:ex b=(aP.zero,4):=by
   unfold ex
   (try simp only[a,c,d,i,bs,if_true,if_false,decide_true,decide_false,Bool.not_eq_true,reduceIte])
   all_goals rfl
 rw[hs]
 exact bu (ud q J e)
 have i:(ky (((b.getD 0 0)-128)%256))=true:=by simpa using d
 refine bz<|sq<|sg<|Pl 3<|nt<|cb ((decide (((b.length:Nat) : Int)<2))) (fun h=>?_) (fun h=>?_)
 have K:=of_decide_eq_true h
 refine sg<|Pl 1<|?_
 refine L0<|b7 (ub g f) mZ fun a9 L M=>Pl 1<|nt<|rt<|tr<|bL L (.int .i64 2)<|?_
 have hs:ex b=(aP.zero,2):=by
   unfold ex
   (try simp only[a,c,d,i,h,bs,if_true,if_false,decide_true,decide_false,Bool.not_eq_true,reduceIte])
   all_goals rfl
 rw[hs]
 exact bu (ud q M e)
 have K:=of_decide_eq_false h
 refine bz<|sg<|Pl 1<|?_
 have t:=bi.old s g
 refine fM (bi.at_ t 1 (by omega)) fun N O P Q aa=>L0<|kj b.length 1 P (by omega)<|L0<|ec (p:=⟨N,O+1,none⟩) (v:=.int .u8 (b.getD 1 0)) Q<|L0<|Oc<|m1 (pq (x:=(b.getD 1 0)) (by omega)) fun ab k=>Pl 1<|nt<|sq<|sg<|Pl 2<|nt<|?_
 have r:=aI q k
 refine cb ((!(cZ (b.getD 1 0)))) (fun j=>?_) (fun j=>?_)
 have o:(cZ (b.getD 1 0))=false:=by simpa using j
 refine sg<|Pl 1<|?_
 refine L0<|b7 (ub (aI g k) f) mZ fun ac R S=>Pl 1<|nt<|rt<|tr<|bL R (.int .i64 6)<|?_
 have hs:ex b=(aP.zero,6):=by
   unfold ex
   (try simp only[a,c,d,i,h,j,o,bs,if_true,if_false,decide_true,decide_false,Bool.not_eq_true,reduceIte])
   all_goals rfl
 rw[hs]
 exact bu (ud r S e)
 have o:(cZ (b.getD 1 0))=true:=by simpa using j
 refine bz<|sq<|sg<|Pl 3<|nt<|cb ((decide (2<((b.length:Nat) : Int)))) (fun l=>?_) (fun l=>?_)
 have T:=of_decide_eq_true l
 refine sg<|Pl 1<|?_
 refine L0<|b7 (ub (aI g k) f) mZ fun ad U V=>Pl 1<|nt<|rt<|tr<|bL U (.int .i64 3)<|?_
 have hs:ex b=(aP.zero,3):=by
   unfold ex
   (try simp only[a,c,d,i,h,j,o,l,bs,if_true,if_false,decide_true,decide_false,Bool.not_eq_true,reduceIte])
   all_goals rfl
 rw[hs]
 exact bu (ud r V e)
 have T:=of_decide_eq_false l
 refine bz<|sg<|Pl 3<|?_
 refine fM (bi.at_ (bi.old t k) 1 (by omega)) fun W X Y Z ae=>L0<|kj b.length 1 Y (by omega)<|L0<|ec (p:=⟨W,X+1,none⟩) (v:=.int .u8 (b.getD 1 0)) Z<|Pl 1<|?_
 refine L0<|b7 (ub (aI g k) f) (mG (((b.getD 0 0)-128)%256) (b.getD 1 0) 0 0 0 0 0 0 0 0 0 0 nS nS nS nS 0 0 0 0 0 nS) fun af a0 a1=>Pl 1<|nt<|rt<|bL a0 (.int .i64 0)<|?_
 have hs:ex b=((aP.mk (((b.getD 0 0)-128)%256) (b.getD 1 0) 0 0 0 0 0 0 0 0 0 0 [] [] [] [] 0 0 0 0 0 []),0):=by
   unfold ex
   (try simp only[a,c,d,i,h,j,o,l,bs,if_true,if_false,decide_true,decide_false,Bool.not_eq_true,reduceIte])
   all_goals rfl
 rw[hs]
 exact⟨_,rfl,⟨_,_,_,_,_,rfl,aK.nil ..,aK.nil ..,(fun _ _ _=>aK.nil ..),aK.nil ..,aK.nil ..,⟨(b8 (x:=(((b.getD 0 0)-128)%256)) (by omega)),(b8 (x:=(b.getD 1 0)) (by omega)),(aB (x:=0) (by omega)),(aB (x:=0) (by omega)),(aB (x:=0) (by omega)),(aB (x:=0) (by omega)),(aB (x:=0) (by omega)),(aB (x:=0) (by omega)),(aB (x:=0) (by omega)),(aB (x:=0) (by omega)),(aB (x:=0) (by omega)),(aB (x:=0) (by omega)),(b8 (x:=0) (by omega)),(b8 (x:=0) (by omega)),(b8 (x:=0) (by omega)),(b8 (x:=0) (by omega)),(b8 (x:=0) (by omega))⟩⟩,(ud r a1 e)⟩
theorem mN{m:Md}{v:Value}{b:List Int}{w:World}(h:bi m w v b)(hb:b.length≤1048576) : Calls Tryz.prog 92 #[v] w (d7 v b (ez b) w):=by
  obtain⟨A,cp,rfl,_,_⟩:=h.shape
  rw[← qi]
  exact lG h hb
open Go.RowKit
theorem fv{x y:aP × Int}(h:x=y){w:World}{e:Ending}{w':World}{v0:Value}{b:List Int}(k:d7 v0 b y w e w') : d7 v0 b x w e w':=by rw[h];exact k
theorem kH{m:Md}{v:Value}{b:List Int}{w:World}{dir c:Int}(hc:B8 c)(h:bi m w v b)(hb:b.length≤1048576) :
    Calls Tryz.prog 93 #[.int .i64 dir,.int .u8 c,v] w (d7 v b (ag aD dir c b) w):=by
  obtain⟨A,cp,rfl,_,_⟩:=h.shape
  by_cases h0:dir=0
  · subst h0;exact iC hc h hb
  by_cases h1:dir=1
  · subst h1;exact iD hc h hb
  exact iX hc h hb (by omega)
theorem lz{m:Md}{v:Value}{b:List Int}{w:World}{dir c:Int}(hc:B8 c)(h:bi m w v b)(hb:b.length≤1048576) :
    Calls Tryz.prog 94 #[.int .i64 dir,.int .u8 c,v] w (d7 v b (ag aH dir c b) w):=by
  obtain⟨A,cp,rfl,_,_⟩:=h.shape
  by_cases h0:dir=0
  · subst h0;exact jC hc h hb
  by_cases h1:dir=1
  · subst h1;exact jE hc h hb
  exact jq hc h hb (by omega)
theorem lV{m:Md}{v:Value}{b:List Int}{w:World}{dir c:Int}(hc:B8 c)(h:bi m w v b)(hb:b.length≤1048576) :
    Calls Tryz.prog 95 #[.int .i64 dir,.int .u8 c,v] w (d7 v b (ag aM dir c b) w):=by
  obtain⟨A,cp,rfl,_,_⟩:=h.shape
  rw[← kz]
  by_cases h0:dir=0
  · subst h0;exact jo hc h hb
  by_cases h1:dir=1
  · subst h1;exact jw hc h hb
  exact jk hc h hb (by omega)
theorem ma{m:Md}{A:Option Addr}{cp:Nat}{b:List Int}{w:World}{dir:Int}(hsl:bi m w (.slice A b.length cp) b)(hb:b.length≤1048576) :
    Calls Tryz.prog 25 #[.int .i64 dir,.slice A b.length cp] w (d7 (.slice A b.length cp) b (dO dir b) w):=by
 have hln:(b.length:Int)≤1048576:=by omega
 refine en 87 Tryz.func25 rfl<|sg<|L0<|bK mZ fun bN bO u d i=>Pl 1<|nt<|sq<|sg<|Pl 3<|cu 3 [11] 14 (((dir != 0)&&(dir != 1))) (fun K W=>?_) ?_
 refine bl 11 ((dir != 0)) (fun F=>?_) (fun F=>?_)
 have aZ:=av F
 exact Pl 3<|ce W (dir != 1) (by rw[F];rfl)
 have aZ:=ai F
 exact Pl 3<|ce W false (by rw[F];rfl)
 refine nt<|cb (((dir != 0)&&(dir != 1))) (fun f=>?_) (fun f=>?_)
 have X:=(aW f).1
 have Y:=(aW f).2
 have bP:=av X
 have bQ:=av Y
 refine sg<|Pl 1<|L0<|b7 d mZ fun bR b0 b1=>Pl 1<|nt<|rt<|tr<|bL b0 (.int .i64 1)<|?_
 have hs:fd dir b=(aP.zero,1):=by
   unfold fd
   (try simp only[f,X,Y,bs,if_true,if_false,decide_true,decide_false,eB,reduceIte])
   all_goals rfl
 rw[← eG]
 refine fv hs ?_
 exact bu (ud i b1 u)
 refine bz<|sq<|sg<|Pl 3<|nt<|cb ((((b.length:Nat) : Int)==0)) (fun g=>?_) (fun g=>?_)
 have b2:=am g
 refine sg<|Pl 1<|L0<|b7 d mZ fun bS b3 b4=>Pl 1<|nt<|rt<|tr<|bL b3 (.int .i64 2)<|?_
 have hs:fd dir b=(aP.zero,2):=by
   unfold fd
   (try simp only[f,g,bs,if_true,if_false,decide_true,decide_false,eB,reduceIte])
   all_goals rfl
 rw[← eG]
 refine fv hs ?_
 exact bu (ud i b4 u)
 have b2:=ap g
 refine bz<|sq<|sg<|Pl 3<|nt<|cb ((decide (253<((b.length:Nat) : Int)))) (fun j=>?_) (fun j=>?_)
 have b5:=of_decide_eq_true j
 refine sg<|Pl 1<|L0<|b7 d mZ fun bT b6 b9=>Pl 1<|nt<|rt<|tr<|bL b6 (.int .i64 3)<|?_
 have hs:fd dir b=(aP.zero,3):=by
   unfold fd
   (try simp only[f,g,j,bs,if_true,if_false,decide_true,decide_false,eB,reduceIte])
   all_goals rfl
 rw[← eG]
 refine fv hs ?_
 exact bu (ud i b9 u)
 have b5:=of_decide_eq_false j
 refine bz<|sg<|Pl 1<|?_
 have G:=bi.old hsl i
 refine fM (bi.at_ G 0 (by omega)) fun ba bb bc bd bU=>L0<|kj b.length 0 bc (by omega)<|L0<|ec (p:=⟨ba,bb+0,none⟩) (v:=.int .u8 (b.getD 0 0)) bd<|Pl 1<|nt<|sq<|sg<|Pl 3<|cu 3 [29] 32 (((decide (128≤(b.getD 0 0)))&&(dir==1))) (fun K Z=>?_) ?_
 refine bl 29 ((decide (128≤(b.getD 0 0)))) (fun H=>?_) (fun H=>?_)
 have be:=of_decide_eq_true H
 exact Pl 3<|ce Z (dir==1) (by rw[H];rfl)
 have be:=of_decide_eq_false H
 exact Pl 3<|ce Z false (by rw[H];rfl)
 refine nt<|cb (((decide (128≤(b.getD 0 0)))&&(dir==1))) (fun x=>?_) (fun x=>?_)
 have a0:=(aW x).1
 have a1:=(aW x).2
 have bV:=of_decide_eq_true a0
 have bW:=am a1
 refine sg<|Pl 1<|L0<|Oc<|e2 (mN G (by omega)) fun bf bX I S=>?_
 refine Pl 2<|?_
 have a2:=ub S d
 refine L0<|b7 (hz:=(by rw[I.size];exact aO)) (hv:=I.size) (h1:=(dn.one I (bi.old G S))) a2 (bf) fun bY bg a3=>Pl 1<|nt<|rt<|tr<|dZ 22 I.size bg (.int .i64 (((ez b)).2))<|?_
 have hs:fd dir b=(ez b):=by
   unfold fd
   (try simp only[f,g,j,x,a0,a1,bs,if_true,if_false,decide_true,decide_false,eB,reduceIte])
   all_goals rfl
 rw[← eG]
 refine fv hs ?_
 exact⟨_,rfl,(dn.upd I a3 (al (aQ a2 (by decide)) aG)),(ud i (uz S a3) u)⟩
 refine bz<|sg<|Pl 3<|nv (dD (P:=Tryz.prog) 22 5 1 Tryz.underlying22 rfl rfl A b.length cp 1 (by omega)) fun bh hrun54 a4=>L0<|mg (.slice bh (b.length-1) (cp-1)) (dQ (kl:=.i64) (k:=((1:Nat) : Int)) (A:=A) (n:=b.length) (c:=cp) rfl Tryz.underlying22 (by kernel_rfl) (by kernel_rfl) (hrun54 _ _))<|L0<|Oc<|e2 (kH (dir:=dir) (c:=(b.getD 0 0)) (b8 (by omega)) (a4 _ _ _ _ _ G) (by(try simp only[List.length_drop]);omega)) fun a5 c0 bj e=>?_
 have L:=bi.old G e
 have l:=dn.sub bj (fun m' w' q=>(a4 _ _ _ _ _ q))
 refine Pl 3<|L0<|bK mZ fun c1 c2 a bk bm=>L0<|b7 (hz:=(by rw[l.size];exact aO)) (hv:=l.size) (h1:=(dn.one l hsl)) bk (a5) fun c3 a6 bn=>Pl 1<|nt<|sq<|sg<|Pl 2<|nt<|?_
 have M:=ud bm bn a
 have o:=aI e M
 have a7:=aI i o
 refine cb (((((ag aD dir (b.getD 0 0) (b.drop 1))).2)==4)) (fun h=>?_) (fun h=>?_)
 have bo:=am h
 refine go<|Pl 3<|nv (dD (P:=Tryz.prog) 22 5 1 Tryz.underlying22 rfl rfl A b.length cp 1 (by omega)) fun bp hrun75 a8=>L0<|mg (.slice bp (b.length-1) (cp-1)) (dQ (kl:=.i64) (k:=((1:Nat) : Int)) (A:=A) (n:=b.length) (c:=cp) rfl Tryz.underlying22 (by kernel_rfl) (by kernel_rfl) (hrun75 _ _))<|?_
 have a9:=bi.old L M
 refine L0<|Oc<|e2 (lz (dir:=dir) (c:=(b.getD 0 0)) (b8 (by omega)) (a8 _ _ _ _ _ a9) (by(try simp only[List.length_drop]);omega)) fun aa c4 bq N=>?_
 have c5:=bi.old a9 N
 have r:=dn.sub bq (fun m' w' q=>(a8 _ _ _ _ _ q))
 refine Pl 3<|?_
 have ab:=ub N a6
 refine L0<|b7 (hz:=(by rw[r.size];exact aO)) (hv:=(Eq.trans r.size (Eq.symm l.size))) (h1:=(dn.one r hsl)) ab (aa) fun c6 ad T=>Pl 1<|nt<|sq<|sg<|Pl 2<|nt<|?_
 have D:=uz N T
 have ae:=ud a7 D (le (le i.size e.size) a)
 refine cb (((((ag aH dir (b.getD 0 0) (b.drop 1))).2)==4)) (fun y=>?_) (fun y=>?_)
 have br:=am y
 refine go<|Pl 3<|nv (dD (P:=Tryz.prog) 22 5 1 Tryz.underlying22 rfl rfl A b.length cp 1 (by omega)) fun bt hrun92 af=>L0<|mg (.slice bt (b.length-1) (cp-1)) (dQ (kl:=.i64) (k:=((1:Nat) : Int)) (A:=A) (n:=b.length) (c:=cp) rfl Tryz.underlying22 (by kernel_rfl) (by kernel_rfl) (hrun92 _ _))<|?_
 have ah:=ud M D a
 have aj:=bi.old L ah
 refine L0<|Oc<|e2 (lV (dir:=dir) (c:=(b.getD 0 0)) (b8 (by omega)) (af _ _ _ _ _ aj) (by(try simp only[List.length_drop]);omega)) fun ak c7 bv O=>?_
 have c8:=bi.old aj O
 have s:=dn.sub bv (fun m' w' q=>(af _ _ _ _ _ q))
 refine Pl 3<|?_
 have an:=ub O ad
 refine L0<|b7 (hz:=(by rw[s.size];exact aO)) (hv:=(Eq.trans s.size (Eq.symm r.size))) (h1:=(dn.one s hsl)) an (ak) fun c9 ao U=>Pl 1<|nt<|sq<|sg<|Pl 2<|nt<|?_
 have E:=uz O U
 have ar:=ud ae E (le (le i.size e.size) a)
 refine cb (((((ag aM dir (b.getD 0 0) (b.drop 1))).2)==4)) (fun B=>?_) (fun B=>?_)
 have bw:=am B
 refine go<|Pl 3<|nv (dD (P:=Tryz.prog) 22 5 1 Tryz.underlying22 rfl rfl A b.length cp 1 (by omega)) fun bx hrun110 au=>L0<|mg (.slice bx (b.length-1) (cp-1)) (dQ (kl:=.i64) (k:=((1:Nat) : Int)) (A:=A) (n:=b.length) (c:=cp) rfl Tryz.underlying22 (by kernel_rfl) (by kernel_rfl) (hrun110 _ _))<|?_
 have V:=u1 D E im
 have aw:=ud ah E a
 have ax:=bi.old L aw
 refine L0<|Oc<|e2 (kZ (dir:=dir) (c:=(b.getD 0 0)) (b8 (by omega)) (au _ _ _ _ _ ax) (by(try simp only[List.length_drop]);omega)) fun ay ca bA Q=>?_
 have cc:=bi.old ax Q
 have t:=dn.sub bA (fun m' w' q=>(au _ _ _ _ _ q))
 refine Pl 3<|?_
 have az:=ub Q ao
 refine L0<|b7 (hz:=(by rw[t.size];exact aO)) (hv:=(Eq.trans t.size (Eq.symm s.size))) (h1:=(dn.one t hsl)) az (ay) fun cd aA aB=>Pl 1<|nt<|sq<|sg<|Pl 2<|nt<|?_
 have C:=uz Q aB
 have aC:=ud ar C (le (le i.size e.size) a)
 refine cb (((((ag aY dir (b.getD 0 0) (b.drop 1))).2)==4)) (fun J=>?_) (fun J=>?_)
 have bB:=am J
 refine go<|Pl 3<|nv (dD (P:=Tryz.prog) 22 5 1 Tryz.underlying22 rfl rfl A b.length cp 1 (by omega)) fun bC hrun130 aE=>L0<|mg (.slice bC (b.length-1) (cp-1)) (dQ (kl:=.i64) (k:=((1:Nat) : Int)) (A:=A) (n:=b.length) (c:=cp) rfl Tryz.underlying22 (by kernel_rfl) (by kernel_rfl) (hrun130 _ _))<|?_
 have cg:=u1 U C im
 have ch:=u1 E C im
 have ci:=u1 (u1 T E im) C im
 have aF:=u1 V C im
 have aJ:=bi.old L (ud aw C a)
 refine L0<|Oc<|e2 (nf (dir:=dir) (c:=(b.getD 0 0)) (b8 (by omega)) (aE _ _ _ _ _ aJ) (by(try simp only[List.length_drop]);omega)) fun aK cj bD R=>?_
 have ck:=bi.old aJ R
 have z:=dn.sub bD (fun m' w' q=>(aE _ _ _ _ _ q))
 refine Pl 3<|?_
 have aL:=ub R aA
 refine L0<|b7 (hz:=(by rw[z.size];exact aO)) (hv:=(Eq.trans z.size (Eq.symm t.size))) (h1:=(dn.one z hsl)) aL (aK) fun cl bE aN=>Pl 1<|ng<|L0<|bZ (hz:=(by rw[z.size];exact aO)) bE<|Pl 1<|?_
 have aR:=uz R aN
 refine L0<|b7 (hz:=(by rw[z.size];exact aO)) (hv:=z.size) (h1:=(dn.one z hsl)) (ub (ud o (u1 aF aR im) (le e.size a)) d) (aK) fun cm bG aS=>Pl 1<|nt<|rt<|dZ 22 z.size bG (.int .i64 (((ag bF dir (b.getD 0 0) (b.drop 1))).2))<|?_
 have hs:fd dir b=(ag bF dir (b.getD 0 0) (b.drop 1)):=by
   unfold fd
   (try simp only[f,g,j,x,h,y,B,J,bs,if_true,if_false,decide_true,decide_false,eB,reduceIte])
   all_goals rfl
 rw[← eG]
 refine fv hs ?_
 exact⟨_,rfl,(dn.upd z (us aN aS) (al (aQ aL (by decide)) (al (aQ (ub (ud o (aI aF R) (le e.size a)) d) (by decide)) aG))),(ut aC (us aR aS) (ac (ni (le i.size e.size) a) (ac (nr u) aq)))⟩
 have bB:=ap J
 refine bz<|sg<|L0<|bZ (hz:=(by rw[t.size];exact aO)) aA<|Pl 1<|?_
 refine L0<|b7 (hz:=(by rw[t.size];exact aO)) (hv:=t.size) (h1:=(dn.one t hsl)) (ub (ud o (u1 V C im) (le e.size a)) d) (ay) fun cn bH aT=>Pl 1<|nt<|rt<|dZ 22 t.size bH (.int .i64 (((ag aY dir (b.getD 0 0) (b.drop 1))).2))<|?_
 have hs:fd dir b=(ag aY dir (b.getD 0 0) (b.drop 1)):=by
   unfold fd
   (try simp only[f,g,j,x,h,y,B,J,bs,if_true,if_false,decide_true,decide_false,eB,reduceIte])
   all_goals rfl
 rw[← eG]
 refine fv hs ?_
 exact⟨_,rfl,(dn.upd t (us aB aT) (al (aQ az (by decide)) (al (aQ (ub (ud o (aI V Q) (le e.size a)) d) (by decide)) aG))),(ud aC aT u)⟩
 have bw:=ap B
 refine bz<|sq<|sg<|Pl 2<|nt<|cf B<|bz<|sg<|L0<|bZ (hz:=(by rw[s.size];exact aO)) ao<|?_
 refine Pl 1<|?_
 refine L0<|b7 (hz:=(by rw[s.size];exact aO)) (hv:=s.size) (h1:=(dn.one s hsl)) (ub (ud o (u1 D E im) (le e.size a)) d) (ak) fun co bI aU=>Pl 1<|nt<|rt<|dZ 22 s.size bI (.int .i64 (((ag aM dir (b.getD 0 0) (b.drop 1))).2))<|?_
 have hs:fd dir b=(ag aM dir (b.getD 0 0) (b.drop 1)):=by
   unfold fd
   (try simp only[f,g,j,x,h,y,B,bs,if_true,if_false,decide_true,decide_false,eB,reduceIte])
   all_goals rfl
 rw[← eG]
 refine fv hs ?_
 exact⟨_,rfl,(dn.upd s (us U aU) (al (aQ an (by decide)) (al (aQ (ub (ud o (aI D O) (le e.size a)) d) (by decide)) aG))),(ud ar aU u)⟩
 have br:=ap y
 refine bz<|sq<|sg<|Pl 2<|nt<|cf y<|bz<|sq<|sg<|?_
 refine Pl 2<|nt<|cf y<|bz<|sg<|L0<|bZ (hz:=(by rw[r.size];exact aO)) ad<|Pl 1<|?_
 refine L0<|b7 (hz:=(by rw[r.size];exact aO)) (hv:=r.size) (h1:=(dn.one r hsl)) (ub (ud o D (le e.size a)) d) (aa) fun cq bJ aV=>Pl 1<|nt<|rt<|dZ 22 r.size bJ (.int .i64 (((ag aH dir (b.getD 0 0) (b.drop 1))).2))<|?_
 have hs:fd dir b=(ag aH dir (b.getD 0 0) (b.drop 1)):=by
   unfold fd
   (try simp only[f,g,j,x,h,y,bs,if_true,if_false,decide_true,decide_false,eB,reduceIte])
   all_goals rfl
 rw[← eG]
 refine fv hs ?_
 exact⟨_,rfl,(dn.upd r (us T aV) (al (aQ ab (by decide)) (al (aQ (ub (aI o N) d) (by decide)) aG))),(ud ae aV u)⟩
 have bo:=ap h
 refine bz<|sq<|sg<|Pl 2<|nt<|cf h<|bz<|sq<|sg<|?_
 refine Pl 2<|nt<|cf h<|bz<|sq<|sg<|Pl 2<|nt<|cf h<|sk<|?_
 refine tn<|sg<|L0<|bZ (hz:=(by rw[l.size];exact aO)) a6<|Pl 1<|?_
 refine L0<|b7 (hz:=(by rw[l.size];exact aO)) (hv:=l.size) (h1:=(dn.one l hsl)) (ub o d) (a5) fun cr bM aX=>Pl 1<|nt<|rt<|dZ 22 l.size bM (.int .i64 (((ag aD dir (b.getD 0 0) (b.drop 1))).2))<|?_
 have hs:fd dir b=(ag aD dir (b.getD 0 0) (b.drop 1)):=by
   unfold fd
   (try simp only[f,g,j,x,h,bs,if_true,if_false,decide_true,decide_false,eB,reduceIte])
   all_goals rfl
 rw[← eG]
 refine fv hs ?_
 exact⟨_,rfl,(dn.upd l (uz M aX) (al (aQ (ub e d) (by decide)) aG)),(ud a7 aX u)⟩
theorem mS{m:Md}{v:Value}{b:List Int}{w:World}{dir:Int}(h:bi m w v b)(hb:b.length≤1048576) : Calls Tryz.prog 25 #[.int .i64 dir,v] w (d7 v b (dO dir b) w):=by
  obtain⟨A,cp,rfl,_,_⟩:=h.shape
  exact ma h hb
open Go.RowKit
theorem mt{m m':Md}{A B:Option Addr}{c d:Nat}{xs ys:List Int}{w:World}(h1:bi m w (.slice A xs.length c) xs)(h2:bi m' w (.slice B ys.length d) ys) :
    Calls Tryz.prog 30 #[.slice A xs.length c,.slice B ys.length d] w (dh (.bool (decide (xs=ys))) w):=by
 refine en 10 Tryz.func30 rfl<|sg<|Pl 1<|ng<|Pl 1<|L0<|mg (.string (strOfNums xs)) (eq (A:=A) (n:=xs.length) (c:=c) rfl (by kernel_rfl) Tryz.underlying22 Tryz.underlying5 Tryz.underlying9 h1)<|Pl 1<|L0<|mg (.string (strOfNums ys)) (eq (A:=B) (n:=ys.length) (c:=d) rfl (by kernel_rfl) Tryz.underlying22 Tryz.underlying5 Tryz.underlying9 h2)<|L0<|mg (.bool (decide (xs=ys))) (iF (a:=(strOfNums xs)) (b:=(strOfNums ys)) rfl (by kernel_rfl) (by kernel_rfl) (mQ h1 h2))<|Pl 1<|nl<|?_
 refine tn<|rt<|rr (.bool (decide (xs=ys)))<|?_
 exact⟨rfl,(aE.refl [] _)⟩
theorem jI{m m':Md}{a b:Value}{xs ys:List Int}{w:World}(h1:bi m w a xs)(h2:bi m' w b ys) : Calls Tryz.prog 30 #[a,b] w (dh (.bool (decide (xs=ys))) w):=by
  obtain⟨A,c,rfl,_,_⟩:=h1.shape
  obtain⟨B,d,rfl,_,_⟩:=h2.shape
  exact mt h1 h2
open Go.RowKit
def kE:aP:={ aP.zero with code:=3,addr:=107,count:=3 }
def mw:aP:={ aP.zero with code:=3,fail:=2 }
theorem uK:dO 0 [3,0,107,0,3]=(kE,0):=by decide +kernel
theorem uR:dO 1 [131,2]=(mw,0):=by decide +kernel
theorem uH:dp 0 kE=some [3,0,107,0,3]:=by decide +kernel
theorem tv:d8 kE:=⟨by decide,by decide,by decide,by decide,(fun r h=>nomatch h),by decide,(fun r h=>nomatch h)⟩
theorem qz{w:World}:Calls Tryz.prog 23 #[] w (dh (.bool true) w):=by
 refine en 62 Tryz.func23 rfl<|sg<|Pl 1<|ng<|L0<|dv (m:=5) (e:=5) #[.int .u8 3,.int .u8 0,.int .u8 107,.int .u8 0,.int .u8 3] fun aJ C D E F=>?_
 have G:=dK D (xs:=[3,0,107,0,3]) (by as_aux_lemma=>kernel_rfl) (az (by omega) (az (by omega) (az (by omega) (az (by omega) (az (by omega) aZ))))) (by(try simp only[List.length_cons,List.length_nil]);omega) E
 have l:=gV (dir:=0) (w:=C) (G).rd (by decide)
 rw[uK] at l
 refine L0<|Oc<|e2 l fun H aK o I=>?_
 have J:=o
 obtain⟨K,L,M,N,O,P,Q,R,S,T,U,aL⟩:=J
 obtain rfl:H=(bP kE K L M N O).toArray:=by apply Array.toList_inj.1;simpa using P
 obtain⟨V,W,rfl,_,_⟩:=Q.shape
 obtain⟨X,Y,rfl,_,_⟩:=R.shape
 obtain⟨Z,a0,rfl,_,_⟩:=S.shape
 obtain⟨a1,a2,rfl,_,_⟩:=T.shape
 obtain⟨a3,a4,rfl,_,_⟩:=U.shape
 refine Pl 3<|L0<|bK mZ fun aM aN p a5 q=>L0<|b7 a5 (mG 3 0 107 3 0 0 0 0 0 0 0 0 (.slice V kE.words.length W) (.slice X kE.bits.length Y) (.slice Z kE.data.length a0) (.slice a1 kE.recs.length a2) 0 0 0 0 0 (.slice a3 kE.objects.length a4)) fun aO a6 r=>Pl 1<|ng<|L0<|dv (m:=2) (e:=5) #[.int .u8 131,.int .u8 2] fun aP a7 a8 a9 d=>?_
 have aa:=dK a8 (xs:=[131,2]) (by as_aux_lemma=>kernel_rfl) (az (by omega) (az (by omega) aZ)) (by(try simp only[List.length_cons,List.length_nil]);omega) a9
 have s:=gV (dir:=1) (w:=a7) (aa).rd (by decide)
 rw[uR] at s
 refine L0<|Oc<|e2 s fun ab aQ ac f=>?_
 have ad:=ac
 obtain⟨ae,af,ag,ah,ai,aj,ak,al,am,an,ao,aS⟩:=ad
 obtain rfl:ab=(bP mw ae af ag ah ai).toArray:=by apply Array.toList_inj.1;simpa using aj
 obtain⟨ap,aq,rfl,_,_⟩:=ak.shape
 obtain⟨ar,au,rfl,_,_⟩:=al.shape
 obtain⟨av,aw,rfl,_,_⟩:=am.shape
 obtain⟨ax,ay,rfl,_,_⟩:=an.shape
 obtain⟨aA,aB,rfl,_,_⟩:=ao.shape
 refine Pl 3<|L0<|bK mZ fun aT aU g aC h=>L0<|b7 aC (mG 3 2 0 0 0 0 0 0 0 0 0 0 (.slice ap mw.words.length aq) (.slice ar mw.bits.length au) (.slice av mw.data.length aw) (.slice ax mw.recs.length ay) 0 0 0 0 0 (.slice aA mw.objects.length aB)) fun aV aD i=>Pl 1<|ng<|?_
 have t:=aI d f
 have u:=ub (u1 (aI t h) i (ni t.size g)) a6
 refine L0<|bZ u<|?_
 have v:=aI (aI (u1 q r (nr p)) d) f
 have x:=nV (dir:=0) (b6.upd o (u1 (aI v h) i (ni v.size g)) aG) tv
 rw[uH] at x
 refine L0<|Oc<|ef x fun aE aF aW aH aX aY j=>Pl 5<|ng<|Pl 4<|?_
 have k:=ub j u
 refine L1<|aR k 0<|Pl 4<|L1<|aR k 2<|Pl 4<|L1<|aR k 3<|Pl 8<|?_
 have y:=ub j aD
 refine L1<|aR y 0<|Pl 4<|L1<|aR y 1<|Pl 8<|L1<|mg (.string (strOfNums ([3,0,107,0,3]))) (eq (A:=aE) (n:=[3,0,107,0,3].length) (c:=aF) rfl (by kernel_rfl) Tryz.underlying22 Tryz.underlying5 Tryz.underlying9 (aH).rd)<|L1<|mg (.bool true) (iF (a:=(strOfNums ([3,0,107,0,3]))) (b:=⟨#[3,0,107,0,3]⟩) rfl (by kernel_rfl) (by kernel_rfl) (qS rfl (by decide)))<|Pl 2<|nt<|rt<|rr (.bool true)<|?_
 have z:=aI F I
 have B:=aI (aI (u1 (aI z q) r (ni z.size p)) d) f
 exact⟨rfl,(aI (u1 (aI B h) i (ni B.size g)) j)⟩
open Go.RowKit
theorem fF{α:Type}{xs ys:List α}{k:Nat}(h:xs.take k=ys.take k)(h1:k=xs.length)(h2:xs.length=ys.length) : xs=ys:=by
  rw[List.take_of_length_le (by omega),List.take_of_length_le (by omega)] at h
  exact h
theorem jz{m m':Md}{A B:Option Addr}{c d:Nat}{xs ys:List Int}{w:World}(h1:dG m w (.slice A xs.length c) xs)(h2:dG m' w (.slice B ys.length d) ys) :
    Calls Tryz.prog 98 #[.slice A xs.length c,.slice B ys.length d] w (dh (.bool (decide (xs=ys))) w):=by
 have hz1:=aK.len h1
 have hz2:=aK.len h2
 refine en 26 Tryz.func98 rfl<|sg<|Pl 1<|nt<|sq<|sg<|Pl 5<|nt<|cb ((((xs.length:Nat) : Int)!=((ys.length:Nat) : Int))) (fun g=>?_) (fun g=>?_)
 have j:=av g
 refine sg<|Pl 1<|nt<|rt<|tr<|rr (.bool false)<|?_
 have hs:decide (xs=ys)=false:=decide_eq_false (fun e=>by rw[e] at j;omega)
 rw[hs]
 exact⟨rfl,(aE.refl [] _)⟩
 have j:=ai g
 refine bz<|sq<|sg<|Pl 1<|nt<|bk<|?_
 refine jc (fun x=>[(0,.slice A xs.length c),(1,.slice B ys.length d),(5,.int .i64 ((x:Nat) : Int))]) (fun(x:Nat) w'=>aE [] w w'∧(xs.take x=ys.take x)∧(x≤xs.length)) (fun x=>xs.length-x) 0 ⟨aE.refl _ _,(by(try dsimp only);simp),(by(try dsimp only);omega)⟩ ?_
 rintro k E ⟨b,p,q⟩
 refine jf [(0,.slice A xs.length c),(1,.slice B ys.length d),(5,.int .i64 ((k:Nat) : Int))] ?_
 have l:xs.take k=ys.take k:=p
 have F:k≤xs.length:=q
 refine sq<|sg<|Pl 4<|nt<|cb ((decide (((k:Nat) : Int)<((xs.length:Nat) : Int)))) (fun h=>?_) (fun h=>?_)
 have r:=of_decide_eq_true h
 refine bz<|sq<|bk<|sq<|?_
 refine fM (dG.at_ (dG.old h1 b) k (by omega)) fun s t u v G=>?_
 refine fM (dG.at_ (dG.old h2 b) k (by omega)) fun y z C D H=>Rg 9 (fun w'=>w'.cell? ⟨s,t+k,none⟩=some (.int .u16 (xs.getD k 0))∧w'.cell? ⟨y,z+k,none⟩=some (.int .u16 (ys.getD k 0))) fun I i=>bh ⟨(uc i v),(uc i D)⟩ fun a=>Rt 0 a<|Rt 1 a<|oM 2 a xs.length k ((k:Nat) : Int) rfl u (by omega)<|Rl 3 a (fun _ hs=>hs.1)<|Rt 4 a<|Rt 5 a<|oM 6 a ys.length k ((k:Nat) : Int) rfl C (by omega)<|Rl 7 a (fun _ hs=>hs.2)<|Rt 8 a<|re<|tn<|?_
 have n:=aI b i
 refine cb (((xs.getD k 0)!=(ys.getD k 0))) (fun f=>?_) (fun f=>?_)
 have o:=av f
 refine sg<|Pl 1<|nt<|rt<|br<|tr<|tr<|br<|tr<|rr (.bool false)<|?_
 have hs:decide (xs=ys)=false:=decide_eq_false (ow (d:=0) k (by simpa using f))
 rw[hs]
 exact⟨rfl,n⟩
 have o:=ai f
 exact sk<|bn<|tn<|go<|Pl 1<|L0<|Oi (((k:Nat) : Int)+1)<|Pl 1<|nl<|gf (k+1) ⟨n,(ku (d:=0) (by omega) (by omega) l o),(by(try dsimp only);omega)⟩ (by omega)
 have r:=of_decide_eq_false h
 refine xt<|tx<|tx<|bx<|tn<|sg<|Pl 1<|nt<|rt<|rr (.bool true)<|?_
 have hs:decide (xs=ys)=true:=decide_eq_true (fF l (by omega) (by omega))
 rw[hs]
 exact⟨rfl,b⟩
theorem gF{m m':Md}{a b:Value}{xs ys:List Int}{w:World}(h1:dG m w a xs)(h2:dG m' w b ys) : Calls Tryz.prog 98 #[a,b] w (dh (.bool (decide (xs=ys))) w):=by
  obtain⟨A,c,rfl,_,_⟩:=h1.shape
  obtain⟨B,d,rfl,_,_⟩:=h2.shape
  exact jz h1 h2
theorem jn{m m':Md}{A B:Option Addr}{c d:Nat}{xs ys:List Bool}{w:World}(h1:fP m w (.slice A xs.length c) xs)(h2:fP m' w (.slice B ys.length d) ys) :
    Calls Tryz.prog 99 #[.slice A xs.length c,.slice B ys.length d] w (dh (.bool (decide (xs=ys))) w):=by
 have hz1:=aK.len h1
 have hz2:=aK.len h2
 refine en 26 Tryz.func99 rfl<|sg<|Pl 1<|nt<|sq<|sg<|Pl 5<|nt<|cb ((((xs.length:Nat) : Int)!=((ys.length:Nat) : Int))) (fun f=>?_) (fun f=>?_)
 have j:=av f
 refine sg<|Pl 1<|nt<|rt<|tr<|rr (.bool false)<|?_
 have hs:decide (xs=ys)=false:=decide_eq_false (fun e=>by rw[e] at j;omega)
 rw[hs]
 exact⟨rfl,(aE.refl [] _)⟩
 have j:=ai f
 refine bz<|sq<|sg<|Pl 1<|nt<|bk<|?_
 refine jc (fun x=>[(0,.slice A xs.length c),(1,.slice B ys.length d),(5,.int .i64 ((x:Nat) : Int))]) (fun(x:Nat) w'=>aE [] w w'∧(xs.take x=ys.take x)∧(x≤xs.length)) (fun x=>xs.length-x) 0 ⟨aE.refl _ _,(by(try dsimp only);simp),(by(try dsimp only);omega)⟩ ?_
 rintro k D ⟨b,o,p⟩
 refine jf [(0,.slice A xs.length c),(1,.slice B ys.length d),(5,.int .i64 ((k:Nat) : Int))] ?_
 have l:xs.take k=ys.take k:=o
 have E:k≤xs.length:=p
 refine sq<|sg<|Pl 4<|nt<|cb ((decide (((k:Nat) : Int)<((xs.length:Nat) : Int)))) (fun g=>?_) (fun g=>?_)
 have q:=of_decide_eq_true g
 refine bz<|sq<|bk<|sq<|?_
 refine ul (fP.at_ (fP.old h1 b) k (by omega)) fun r s t u=>?_
 refine ul (fP.at_ (fP.old h2 b) k (by omega)) fun v y z C=>Rg 9 (fun w'=>w'.cell? ⟨r,s+k,none⟩=some (.bool (xs.getD k false))∧w'.cell? ⟨v,y+k,none⟩=some (.bool (ys.getD k false))) fun F h=>bh ⟨(uc h u),(uc h C)⟩ fun a=>Rt 0 a<|Rt 1 a<|oM 2 a xs.length k ((k:Nat) : Int) rfl t (by omega)<|Rl 3 a (fun _ hs=>hs.1)<|Rt 4 a<|Rt 5 a<|oM 6 a ys.length k ((k:Nat) : Int) rfl z (by omega)<|Rl 7 a (fun _ hs=>hs.2)<|Rt 8 a<|re<|tn<|?_
 have n:=aI b h
 refine cb (((xs.getD k false)!=(ys.getD k false))) (fun i=>?_) (fun i=>?_)
 refine sg<|Pl 1<|nt<|rt<|br<|tr<|tr<|br<|tr<|rr (.bool false)<|?_
 have hs:decide (xs=ys)=false:=decide_eq_false (ow (d:=false) k (by simpa using i))
 rw[hs]
 exact⟨rfl,n⟩
 exact sk<|bn<|tn<|go<|Pl 1<|L0<|Oi (((k:Nat) : Int)+1)<|Pl 1<|nl<|gf (k+1) ⟨n,(ku (d:=false) (by omega) (by omega) l (by simpa using i)),(by(try dsimp only);omega)⟩ (by omega)
 have q:=of_decide_eq_false g
 refine xt<|tx<|tx<|bx<|tn<|sg<|Pl 1<|nt<|rt<|rr (.bool true)<|?_
 have hs:decide (xs=ys)=true:=decide_eq_true (fF l (by omega) (by omega))
 rw[hs]
 exact⟨rfl,b⟩
theorem kC{m m':Md}{a b:Value}{xs ys:List Bool}{w:World}(h1:fP m w a xs)(h2:fP m' w b ys) : Calls Tryz.prog 99 #[a,b] w (dh (.bool (decide (xs=ys))) w):=by
  obtain⟨A,c,rfl,_,_⟩:=h1.shape
  obtain⟨B,d,rfl,_,_⟩:=h2.shape
  exact jn h1 h2
end Go.Proofs.YtogbnemojakcpaaGreat
