/- Contracts of functions, part CAduTurns6. -/
import Derived.Test.YtdkhbcefkfgbdaaGreatCAduTurns1
import Derived.Test.YtdkhbcefkfgbdaaGreatCAduTurns2
import Derived.Test.YtdkhbcefkfgbdaaGreatCAduTurns3
import Derived.Test.YtdkhbcefkfgbdaaGreatCAduTurns4
import Derived.Test.YtdkhbcefkfgbdaaGreatCAduTurns5
set_option linter.unusedVariables false
set_option linter.unusedSimpArgs false
set_option maxRecDepth 100000
set_option maxHeartbeats 4000000
namespace Go.Proofs.YtdkhbcefkfgbdaaGreat
open Go.RowKit
variable {A:Option Addr}{C:ai}{R:ai × List dt}{b full:List Int}{c dir s x:Int}{cp g i n:Nat}{m:Md}{v v0:Value}{w w' w0:World}
theorem RC.safe(h:RC w0 m A cp full w g C)(D:List TypeId)(hD:194∉D) : dC true D [g] w:=by
  obtain⟨k,h1,_⟩:=h.cell
  exact dC.one h1 hD
theorem RC.nrow{α:Type}{base sz c:Nat}{e:TypeId}{R:World→α→List Value→Prop}{B:Option Addr}{xs:List α}         (h:RC w0 m A cp full w g C)(ho:b7 base e sz R w (.slice B n c) xs)(ht:(194==e)=false) : g∉ob B:=by
  obtain⟨k,h1,_⟩:=h.cell
  exact dM h1 ho ht
theorem RC.fld2(h:RC w0 m A cp full w g C) : w.cell? ⟨g,2,none⟩=some (.bool C.sh):=by
  obtain⟨k,h1,_⟩:=h.cell
  rw[bF h1]
  rfl
def Cg (w0:World)(m:Md)(A:Option Addr)(cp:Nat)(full:List Int)(g:Nat)(C':ai)(r:dt)(w:World)(e:Ending)(w':World) : Prop:=e = .returned (.agg #[.int .u16 r.file,.int .u16 r.record,.int .u16 r.count,.slice none 0 0])∧eP r.file∧eP r.record∧eP r.count∧RC w0 m A cp full w' g C'∧aH [g] w w'
theorem pf(h : -1≤x∧x≤255) : 0≤Int.tdiv x 2∧Int.tdiv x 2≤127:=by
  by_cases h0:x = -1
  · subst h0;decide
  · rw[Int.tdiv_eq_ediv_of_nonneg (by omega)]
    omega
theorem jx{one:Int→ai→Int × ai × dt}    {L:List dt}  (h3:(C.e=0∧C.l.length≤n∧aZ one n s C L=R)∨(C.e≠0∧R.1=C))(hc:0<C.l.length)(he:C.e=0)(hlt:(one s C).2.1.l.length<C.l.length) :
    ((one s C).2.1.e=0∧(one s C).2.1.l.length≤n-1∧aZ one (n-1) (one s C).1 (one s C).2.1 (L++[(one s C).2.2])=R)∨((one s C).2.1.e≠0∧R.1=(one s C).2.1):=by
  rcases h3 with⟨_,hn,hR⟩|⟨h,_⟩
  · obtain⟨k,rfl⟩ : ∃ k,n=k+1:=⟨n-1,by omega⟩
    unfold aZ at hR
    rw[if_pos (by rw[he];simpa using hc)] at hR
    by_cases hz:(one s C).2.1.e=0
    · rw[if_neg (by rw[hz];decide)] at hR
      exact .inl ⟨hz,by omega,hR⟩
    · rw[if_pos (by simpa using hz)] at hR
      exact .inr ⟨hz,by rw[← hR]⟩
  · exact absurd he h
theorem gq{one:Int→ai→Int × ai × dt}    {L:List dt}  (h3:(C.e=0∧C.l.length≤n∧aZ one n s C L=R)∨(C.e≠0∧R.1=C))(hq:(decide (0<((C.l.length:Nat) : Int))&&C.e==0)=false) : R.1.e=C.e∧(C.e=0→R.2=L):=by
  rcases h3 with⟨he,hn,hR⟩|⟨h,h2⟩
  · rw[iL one n s C L hq] at hR
    rw[← hR]
    exact⟨rfl,fun _=>rfl⟩
  · rw[h2]
    exact⟨rfl,fun h3=>absurd h3 h⟩
def gU (R:ai × List dt)(w:World)(e:Ending)(w':World) : Prop:=∃ A2 n2 c2,e = .returned (.tuple #[.slice A2 n2 c2,.int .i64 (bD R.1.e)])∧(bD R.1.e=0→b7 w.heap.size 98 4 (bK true) w' (.slice A2 n2 c2) R.2)∧aH [] w w'
theorem n0{f:FuncId}{args:Array Value}   (h:Calls Tryz.prog f args w (gU R w))(h0:bD R.1.e=0) : Calls Tryz.prog f args w (fun e w'=>∃ v,e = .returned (.tuple #[v,.int .i64 0])∧b7 w.heap.size 98 4 (bK true) w' v R.2∧aH [] w w'):=by
  refine h.mono ?_
  rintro e w' ⟨A2,n2,c2,rfl,h1,h2⟩
  exact⟨_,by rw[h0],h1 h0,h2⟩
theorem lB{f:FuncId}{args:Array Value}   (h:Calls Tryz.prog f args w (gU R w)) : Calls Tryz.prog f args w (fun e w'=>∃ A2 n2 c2,e = .returned (.tuple #[.slice A2 n2 c2,.int .i64 (bD R.1.e)])∧aH [] w w'):=by
  refine h.mono ?_
  rintro e w' ⟨A2,n2,c2,rfl,h1,h2⟩
  exact⟨A2,n2,c2,rfl,h2⟩
theorem Cd(hC:RC w0 m A cp full w g C) : Calls Tryz.prog 225 #[vP g 0] w (Cg w0 m A cp full g (dY C) (aY C) w):=by
 have hr:fa C:=RC.rng hC
 refine en 42 Tryz.func225 rfl<|sg<|aK #[vW 0,vW 0,vW 0,nS] fun N O b i a=>aM 1<|?_
 refine ay<|m3 (eN (RC.upd hC a aF (aH.step (RC.u hC) a))) fun P c j Q=>Pl 1<|aM 4<|L0<|eH (p:=⟨g,2,none⟩) (v:=.bool ((C.bytesC 1).sh)) (RC.fld2 c)<|Pl 1<|ay<|m2 (bg ((!((C.bytesC 1).sh))) 5 c) fun R k l=>aM 3<|ay<|m2 (bg ((C.byteV==6)) 9 k) fun S n o=>?_
 refine gM n fun x26 q r=>?_
 refine aM 1<|ay<|m3 (de r) fun T s t U=>Pl 1<|aM 3<|ay<|m2 (bg ((decide (0<x26.wordV))) 6 s) fun V y z=>nl<|tn<|ak 1<|ay<|m3 (de y) fun W B D X=>Pl 1<|aM 3<|ay<|m2 (bg ((decide ((((x26.wordsC 1).need (decide (0<x26.wordV)) 6).wordV)≤9999))) 7 B) fun Y E F=>?_
 refine gM E fun x43 G H=>?_
 refine aM 1<|ay<|m3 (de H) fun Z I J a0=>Pl 1<|aM 3<|ay<|m2 (bg ((decide (0<x43.wordV))) 5 I) fun a1 K L=>nl<|tn<|ak 4<|?_
 have d:=u1 j (u1 l (u1 o (u1 t (u1 z (u1 D (u1 F (u1 J L im) im) im) im) im) im) im) im
 have e:=nb (RC.lt hC) lr b
 refine aG (be d (Ne.symm e) i) #[vW x26.wordV,vW (((x26.wordsC 1).need (decide (0<x26.wordV)) 6).wordV),vW x43.wordV,nS] fun a2 M f=>sI<|CW M<|?_
 subst G q
 have e1:dY C=(((((((((C.bytesC 1).need (!((C.bytesC 1).sh)) 5).need (C.byteV==6) 9).wordsC 1).need (decide (0<(((C.bytesC 1).need (!((C.bytesC 1).sh)) 5).need (C.byteV==6) 9).wordV)) 6).wordsC 1).need (decide (((((((C.bytesC 1).need (!((C.bytesC 1).sh)) 5).need (C.byteV==6) 9).wordsC 1).need (decide (0<(((C.bytesC 1).need (!((C.bytesC 1).sh)) 5).need (C.byteV==6) 9).wordV)) 6).wordV)≤9999)) 7).wordsC 1).need (decide (0<(((((((C.bytesC 1).need (!((C.bytesC 1).sh)) 5).need (C.byteV==6) 9).wordsC 1).need (decide (0<(((C.bytesC 1).need (!((C.bytesC 1).sh)) 5).need (C.byteV==6) 9).wordV)) 6).wordsC 1).need (decide (((((((C.bytesC 1).need (!((C.bytesC 1).sh)) 5).need (C.byteV==6) 9).wordsC 1).need (decide (0<(((C.bytesC 1).need (!((C.bytesC 1).sh)) 5).need (C.byteV==6) 9).wordV)) 6).wordV)≤9999)) 7).wordV)) 5):=by rw[← xu hr];rfl
 have e2:(aY C).file=(((C.bytesC 1).need (!((C.bytesC 1).sh)) 5).need (C.byteV==6) 9).wordV:=by show(jf C).wordV=_;rw[← yf];rfl
 have e3:(aY C).record=(((((C.bytesC 1).need (!((C.bytesC 1).sh)) 5).need (C.byteV==6) 9).wordsC 1).need (decide (0<(((C.bytesC 1).need (!((C.bytesC 1).sh)) 5).need (C.byteV==6) 9).wordV)) 6).wordV:=by show(jP C).wordV=_;rw[← zT hr];rfl
 have e4:(aY C).count=(((((((C.bytesC 1).need (!((C.bytesC 1).sh)) 5).need (C.byteV==6) 9).wordsC 1).need (decide (0<(((C.bytesC 1).need (!((C.bytesC 1).sh)) 5).need (C.byteV==6) 9).wordV)) 6).wordsC 1).need (decide (((((((C.bytesC 1).need (!((C.bytesC 1).sh)) 5).need (C.byteV==6) 9).wordsC 1).need (decide (0<(((C.bytesC 1).need (!((C.bytesC 1).sh)) 5).need (C.byteV==6) 9).wordV)) 6).wordV)≤9999)) 7).wordV:=by show(o0 C).wordV=_;rw[← ze hr];rfl
 have h:=ue a (us d f) b
 unfold Cg
 rw[e1,e2,e3,e4]
 exact⟨rfl,cT (by omega),cT (by omega),cT (by omega),(RC.upd K f (aa e aF) (hC.u.trans' h (fun x hx=>.inr (by simp at hx;subst hx;exact hC.new)))),h⟩
theorem yJ(hsl:aX m w (.slice A b.length cp) b)(hb:b.length≤1048576) :
    Calls Tryz.prog 179 #[vI 0,vB 20,.slice A b.length cp] w (gU (aZ dm b.length 0 ⟨b,false,0⟩ []) w):=by
 have hln:(b.length:Int)≤1048576:=by omega
 refine en 108 Tryz.func179 rfl<|ak 2<|aM 2<|L0<|da #[.slice A b.length cp,vI 0,.bool false,vI 0] fun d U E a8 F=>ah 1<|sq<|go<|Pl 1<|cN 1<|sq<|bk<|?_
 have V:RC w _ A cp b U d (ai.mk b false 0):=⟨hsl,F,E,⟨0,a8,Nat.zero_le _,rfl⟩,by omega⟩
 refine je (fun x=>[(0,vI 0),(1,vB 20),(6,nS),(7,vI 0),(8,vP d 0),(9,.slice x.2.2.2.1 x.2.2.1.length x.2.2.2.2.1),(10,vI x.2.2.2.2.2)]) (fun(x:Nat × ai × List dt × Option Addr × Nat × Int) w'=>aH [] w w'∧U.heap.size≤w'.heap.size∧RC w m A cp b w' d x.2.1∧b7 w.heap.size 98 4 (bK true) w' (.slice x.2.2.2.1 x.2.2.1.length x.2.2.2.2.1) x.2.2.1∧(0≤x.2.2.2.2.2)∧(x.2.1.e=0→x.2.2.2.2.2≤245)∧(x.2.2.1.length+x.2.1.l.length≤b.length)∧((x.2.1.e=0∧x.2.1.l.length≤x.1∧aZ dm x.1 x.2.2.2.2.2 x.2.1 x.2.2.1=aZ dm b.length 0 ⟨b,false,0⟩ [])∨(x.2.1.e≠0∧(aZ dm b.length 0 ⟨b,false,0⟩ []).1=x.2.1))) (fun x=>x.2.1.l.length) (b.length,(ai.mk b false 0),[],none,0,0) ⟨F,lr,V,(b7.nil w.heap.size _ _ (bK true) _),(by(try dsimp only);omega),(fun _=>(show(0:Int)≤245 from by decide)),(by(try dsimp only);simp),.inl ⟨rfl,Nat.le_refl _,rfl⟩⟩ ?_
 rintro⟨n,C,L,B,cq,s⟩ W ⟨a9,G,ab,ad,ae,af,aj,al⟩
 refine ji [(0,vI 0),(1,vB 20),(6,nS),(7,vI 0),(8,vP d 0),(9,.slice B L.length cq),(10,vI s)] ?_
 have a:RC w m A cp b W d C:=ab
 have hlC:=RC.clen a
 have hrC:fa C:=RC.rng a
 have i:b7 w.heap.size 98 4 (bK true) W (.slice B L.length cq) L:=ad
 have aW:0≤s:=ae
 have b0:C.e=0→s≤245:=af
 have b1:L.length+C.l.length≤b.length:=aj
 have H:(C.e=0∧C.l.length≤n∧aZ dm n s C L=aZ dm b.length 0 ⟨b,false,0⟩ [])∨(C.e≠0∧(aZ dm b.length 0 ⟨b,false,0⟩ []).1=C):=al
 refine sq<|ak 1<|ay<|m1 (jS a) fun b2 c=>?_
 have b3:=RC.clen a
 refine Pl 2<|cu 6 [20] 26 (((decide (0<(C.l.length:Int)))&&(C.e==0))) (fun K X=>?_) ?_
 refine bl 20 ((decide (0<(C.l.length:Int)))) (fun j=>?_) (fun j=>?_)
 have an:=of_decide_eq_true j
 refine Pl 3<|?_
 exact L1<|eH (p:=⟨d,3,none⟩) (v:=vI C.e) (RC.fld (RC.upd a c aF (aH.step (RC.u a) c)))<|Pl 2<|ce X (C.e==0) (by rw[j];rfl)
 have an:=of_decide_eq_false j
 exact Pl 6<|ce X false (by rw[j];rfl)
 refine nt<|?_
 have I:=aJ a9 c
 refine cb (((decide (0<(C.l.length:Int)))&&(C.e==0))) (fun f=>?_) (fun f=>?_)
 have J:=(bB f).1
 have M:=(bB f).2
 have b4:=of_decide_eq_true J
 have b5:=ag M
 refine bo<|bk<|ak 1<|aK #[vW 0,vW 0,vW 0,nS] fun b6 b8 k ao N=>aG ao #[vW 0,vW 0,vW 0,nS] fun b9 ap O=>nt<|sq<|ak 6<|nl<|tn<|c0<|ak 1<|?_
 have Y:=ud N O k
 have r:=aJ c Y
 refine ay<|m5 (Cd (RC.upd a r aF (aH.step (RC.u a) r))) fun ba ar au aw az t=>?_
 obtain⟨bb,bc⟩:=ar
 obtain⟨bd,bf⟩:=au
 obtain⟨bh,bi⟩:=aw
 have P:=nb (RC.lt V) (le G c.size) k
 refine aG (be t (Ne.symm P) ap) #[vW ((aY C).file),vW ((aY C).record),vW ((aY C).count),nS] fun bm Z y=>cN 2<|c0<|ak 1<|bq (s+2)<|Pl 1<|aE Z 2<|bq ((aY C).count)<|bq (2*((aY C).count))<|bq ((s+2)+(2*((aY C).count)))<|ah 1<|go<|Pl 3<|?_
 have Q:=us t y
 have a0:=ud I (ue Y Q k) E
 refine ay<|m2 (bg ((decide (((s+2)+(2*((aY C).count)))≤245))) 5 (RC.upd az y (aa P aF) a0)) fun br aA o=>?_
 refine gM aA fun x68 aI a1=>?_
 refine nt<|go<|Pl 1<|?_
 refine L0<|bO (be o (Ne.symm P) Z)<|L0<|d9 (m:=1) (e:=98) #[vW ((aY C).file),vW ((aY C).record),vW ((aY C).count),nS] fun bs bt bu aL z=>?_
 have aO:=mb (R:=bK true) (x:=(dt.mk ((aY C).file) ((aY C).record) ((aY C).count) ([]))) aL rfl ⟨_,rfl,(aS.nil true _ _ _ _),cT (x:=(aY C).file) (by omega),cT (x:=(aY C).record) (by omega),cT (x:=(aY C).count) (by omega)⟩
 have a2:=aJ o z
 have a3:=ue r (u1 Q a2 im) (le c.size k)
 have a4:=ax i a3 (fun x hx=>(aa (fun e=>(RC.nrow a i (by decide)) (e▸hx)) aF)) (bK.upd16 a3 (av (RC.safe a _ (by decide)) aN))
 refine L0<|j9 (xs:=L) (ys:=([(dt.mk ((aY C).file) ((aY C).record) ((aY C).count) ([]))])) (.agg #[vW 0,vW 0,vW 0,nS]) 4 32 a4 aO (by simp) bK.ones (fun w' hv=>bK.upd16 hv (dc (dS _ a4 (by decide)) aN)) (by(try simp only[bV,aB]);omega) (le (le (le (le (le (le (le (le F.size G) c.size) N.size) O.size) t.size) y.size) o.size) z.size) fun aP aQ bv aR S=>Pl 1<|nl<|bn<|?_
 subst aI
 have hC2:(dm s C).2.1=((dY C).need (decide (((s+2)+(2*((aY C).count)))≤245)) 5):=by show ff s C=_;(try simp only[ff,fq,← Int.add_assoc,f,J,M,bj]);all_goals rfl
 have hM2:[(dm s C).2.2]=[(dt.mk ((aY C).file) ((aY C).record) ((aY C).count) ([]))]:=by show[aY C]=_;(try simp only[ff,fq,← Int.add_assoc,f,J,M,bj]);all_goals rfl
 have hS2:(dm s C).1=((s+2)+(2*((aY C).count))):=by(try (show fq s C=_));(try simp only[fq,← Int.add_assoc]);all_goals rfl
 have hlt:=mz s C (by omega)
 have h9:=jx (one:=dm) H (by omega) (by omega) hlt
 rw[hC2,hM2,hS2] at h9
 rw[hC2] at hlt
 have a5:=ut a0 (ut (aH.mono (S':=(d :: (ob B++[]))) a2 (ac im aC)) S (aq il aC)) (ac (nr E) (aq (aU i lr) aC))
 have a6:=ue r (u1 Q o im) (le c.size k)
 exact gL ((n-1),((dY C).need (decide (((s+2)+(2*((aY C).count)))≤245)) 5),(L++[(dt.mk ((aY C).file) ((aY C).record) ((aY C).count) ([]))]),aP,aQ,((s+2)+(2*((aY C).count)))) ⟨a5,(le (le (le (le (le (le (le (le G c.size) N.size) O.size) t.size) y.size) o.size) z.size) S.size),(RC.upd a1 (ut (aH.mono (S':=(ob B++[])) z aC) S (aq il aC)) (bC (RC.nrow a1 (ax i a6 (fun x hx=>(aa (fun e=>(RC.nrow a i (by decide)) (e▸hx)) aF)) (bK.upd16 a6 (av (RC.safe a _ (by decide)) aN))) (by decide)) aF) a5),aR,(by(try dsimp only);omega),(by(try dsimp only);intro he;have hk:=(fw (by decide) he).2;simp only[decide_eq_true_eq] at hk;omega),(by(try dsimp only);simp only[bV];omega),h9⟩ (by omega)
 refine xt<|tx<|tx<|bx<|tn<|sq<|ak 3<|?_
 have T:=RC.upd a c aF (aH.step (RC.u a) c)
 refine L0<|eH (p:=⟨d,3,none⟩) (v:=vI C.e) (RC.fld T)<|ah 1<|cb ((C.e==2)) (fun q=>?_) (fun q=>?_)
 have aT:=ag q
 refine aD 2<|aV<|rr (.tuple #[nS,vI 5])<|?_
 obtain⟨jf,jP⟩:=gq H f
 have hw:bD (aZ dm b.length 0 ⟨b,false,0⟩ []).1.e=5:=by unfold bD;rw[jf,if_pos q]
 refine⟨none,0,0,by rw[hw],fun h=>absurd (hw.symm.trans h) (by decide),I⟩
 have aT:=am q
 refine bo<|sq<|Rg 7 (fun w'=>w'.cell? ⟨d,3,none⟩=some (vI C.e)) fun bw D=>?_
 refine bp (RC.fld (RC.upd T D aF (aH.step (RC.u T) D))) fun g=>Rt 0 g<|Rt 1 g<|Rt 2 g<|Rt 3 g<|Rl 4 g (fun _ hs=>hs)<|Rt 5 g<|Rt 6 g<|re<|tn<|rt<|rr (.tuple #[.slice B L.length cq,vI C.e])<|?_
 obtain⟨jf,jP⟩:=gq H f
 have hw:bD (aZ dm b.length 0 ⟨b,false,0⟩ []).1.e=C.e:=by unfold bD;rw[jf,if_neg (by rw[q];decide)]
 have a7:=aJ c D
 refine⟨_,_,_,by rw[hw],fun h=>by rw[jP (hw.symm.trans h)];exact(ax i a7 (fun x hx=>aF) (bK.upd16 a7 aN)),(aJ I D)⟩
theorem y6(hsl:aX m w (.slice A b.length cp) b)(hb:b.length≤1048576) :
    Calls Tryz.prog 179 #[vI 1,vB 20,.slice A b.length cp] w (gU (aZ bX b.length 0 ⟨b,false,0⟩ []) w):=by
 have hln:(b.length:Int)≤1048576:=by omega
 refine en 108 Tryz.func179 rfl<|ak 2<|aM 2<|L0<|da #[.slice A b.length cp,vI 0,.bool false,vI 0] fun f aj M bf N=>ah 1<|sq<|go<|Pl 1<|cN 1<|sq<|bk<|?_
 have Z:RC w _ A cp b aj f (ai.mk b false 0):=⟨hsl,N,M,⟨0,bf,Nat.zero_le _,rfl⟩,by omega⟩
 refine je (fun x=>[(0,vI 1),(1,vB 20),(6,nS),(7,vI 0),(8,vP f 0),(9,.slice x.2.2.2.1 x.2.2.1.length x.2.2.2.2.1),(10,vI x.2.2.2.2.2)]) (fun(x:Nat × ai × List dt × Option Addr × Nat × Int) w'=>aH [] w w'∧aj.heap.size≤w'.heap.size∧RC w m A cp b w' f x.2.1∧b7 w.heap.size 98 4 (bK true) w' (.slice x.2.2.2.1 x.2.2.1.length x.2.2.2.2.1) x.2.2.1∧(0≤x.2.2.2.2.2)∧(x.2.1.e=0→x.2.2.2.2.2≤245)∧(x.2.2.1.length+x.2.1.l.length≤b.length)∧((x.2.1.e=0∧x.2.1.l.length≤x.1∧aZ bX x.1 x.2.2.2.2.2 x.2.1 x.2.2.1=aZ bX b.length 0 ⟨b,false,0⟩ [])∨(x.2.1.e≠0∧(aZ bX b.length 0 ⟨b,false,0⟩ []).1=x.2.1))) (fun x=>x.2.1.l.length) (b.length,(ai.mk b false 0),[],none,0,0) ⟨N,lr,Z,(b7.nil w.heap.size _ _ (bK true) _),(by(try dsimp only);omega),(fun _=>(show(0:Int)≤245 from by decide)),(by(try dsimp only);simp),.inl ⟨rfl,Nat.le_refl _,rfl⟩⟩ ?_
 rintro⟨n,C,L,B,cq,s⟩ al ⟨bh,r,bi,bm,br,bs,bt,bu⟩
 refine ji [(0,vI 1),(1,vB 20),(6,nS),(7,vI 0),(8,vP f 0),(9,.slice B L.length cq),(10,vI s)] ?_
 have a:RC w m A cp b al f C:=bi
 have hlC:=RC.clen a
 have hrC:fa C:=RC.rng a
 have d:b7 w.heap.size 98 4 (bK true) al (.slice B L.length cq) L:=bm
 have c6:0≤s:=br
 have c7:C.e=0→s≤245:=bs
 have c8:L.length+C.l.length≤b.length:=bt
 have O:(C.e=0∧C.l.length≤n∧aZ bX n s C L=aZ bX b.length 0 ⟨b,false,0⟩ [])∨(C.e≠0∧(aZ bX b.length 0 ⟨b,false,0⟩ []).1=C):=bu
 refine sq<|ak 1<|ay<|m1 (jS a) fun c9 c=>?_
 have ca:=RC.clen a
 refine Pl 2<|cu 6 [20] 26 (((decide (0<(C.l.length:Int)))&&(C.e==0))) (fun K an=>?_) ?_
 refine bl 20 ((decide (0<(C.l.length:Int)))) (fun z=>?_) (fun z=>?_)
 have bv:=of_decide_eq_true z
 refine Pl 3<|?_
 exact L1<|eH (p:=⟨f,3,none⟩) (v:=vI C.e) (RC.fld (RC.upd a c aF (aH.step (RC.u a) c)))<|Pl 2<|ce an (C.e==0) (by rw[z];rfl)
 have bv:=of_decide_eq_false z
 exact Pl 6<|ce an false (by rw[z];rfl)
 refine nt<|?_
 have D:=aJ bh c
 refine cb (((decide (0<(C.l.length:Int)))&&(C.e==0))) (fun g=>?_) (fun g=>?_)
 have E:=(bB g).1
 have F:=(bB g).2
 have cc:=of_decide_eq_true E
 have cd:=ag F
 refine bo<|bk<|ak 1<|aK #[vW 0,vW 0,vW 0,nS] fun P cf j a0 G=>aG a0 #[vW 0,vW 0,vW 0,nS] fun cg ao k=>nt<|sq<|ak 6<|nl<|tn<|c1<|ak 1<|?_
 have ap:=ud G k j
 have t:=aJ c ap
 refine ay<|m3 (eN (RC.upd a t aF (aH.step (RC.u a) t))) fun ch H i ci=>bq C.byteV<|Pl 1<|aM 2<|L0<|Oe (vI (Int.tmod C.byteV 2)) (vI (C.byteV%2)) (congrArg (Value.int .i64) (Int.tmod_eq_emod_of_nonneg (by omega)))<|Pl 2<|cu 3 [41] 44 ((((C.byteV%2)==1)&&(decide (3≤C.byteV)))) (fun K ar=>?_) ?_
 refine bl 41 (((C.byteV%2)==1)) (fun I=>?_) (fun I=>?_)
 have bw:=ag I
 exact Pl 3<|ce ar (decide (3≤C.byteV)) (by rw[I];rfl)
 have bw:=am I
 exact Pl 3<|ce ar false (by rw[I];rfl)
 refine Pl 1<|?_
 have aw:=ud D (uz ap i) M
 refine bl 45 ((((C.byteV%2)==1)&&(decide (3≤C.byteV)))) (fun o=>?_) (fun o=>?_)
 have a1:=(bB o).1
 have a2:=(bB o).2
 have cj:=ag a1
 have ck:=of_decide_eq_true a2
 refine Pl 2<|L1<|Oc<|m1 (jS H) fun cl y=>?_
 have cn:=RC.clen H
 refine Pl 2<|?_
 refine ay<|m2 (bg ((decide (C.byteV≤(((C.bytesC 1).l.length:Nat) : Int)))) 5 (RC.upd H y aF (aH.step (RC.u H) y))) fun co bz Q=>?_
 refine gM bz fun x66 bA bE=>?_
 refine aM 1<|ay<|m3 (eN bE) fun cr bF S cs=>Pl 1<|aM 3<|ay<|m2 (bg ((x66.byteV==6)) 9 bF) fun ct bG T=>nl<|tn<|go<|Pl 2<|bq (C.byteV-1)<|?_
 have cv:=pf (x:=(C.byteV-1)) (by omega)
 refine L0<|Oe (vI (IntKind.i64.wrap (Int.tdiv (C.byteV-1) 2))) (vI (Int.tdiv (C.byteV-1) 2)) (congrArg (Value.int .i64) (mJ (by omega) (by omega)))<|ay<|qH (i7 (n:=(Int.tdiv (C.byteV-1) 2)) (by omega) bG) fun az aA cw aE cx cy bH a3=>?_
 refine gM bH fun x82 bI aI=>?_
 refine Pl 1<|?_
 have aO:=uz y (u1 Q (u1 S (u1 T a3 im) im) im)
 have a4:=u1 i aO im
 have aP:=nb (RC.lt Z) (le r c.size) j
 refine L0<|cm (be a4 (Ne.symm aP) ao) 3 #[vW 0,vW 0,vW 0,.slice az ((((x66.bytesC 1).need (x66.byteV==6) 9).wordsR (Int.tdiv (C.byteV-1) 2)).length) aA] fun cz bJ a5=>nt<|go<|Pl 1<|L0<|bO bJ<|L0<|d9 (m:=1) (e:=98) #[vW 0,vW 0,vW 0,.slice az ((((x66.bytesC 1).need (x66.byteV==6) 9).wordsR (Int.tdiv (C.byteV-1) 2)).length) aA] fun cA cB cC bL a6=>?_
 have a7:=aJ a5 a6
 have bM:=mb (R:=bK true) (x:=(dt.mk 0 0 0 (((x66.bytesC 1).need (x66.byteV==6) 9).wordsR (Int.tdiv (C.byteV-1) 2)))) bL rfl ⟨_,rfl,((ax aE a7 (fun x hx=>(aa (fun e=>(aL (au a0) (le (le (le (le (le k.size i.size) y.size) Q.size) S.size) T.size) aE) (e▸hx)) aF)) (fun _ _ h=>h))).rd,cT (x:=0) (by omega),cT (x:=0) (by omega),cT (x:=0) (by omega)⟩
 have aQ:=ue t (us a4 a7) (le c.size j)
 have aR:=ax d aQ (fun x hx=>(aa (fun e=>(RC.nrow a d (by decide)) (e▸hx)) aF)) (bK.upd16 aQ (av (RC.safe a _ (by decide)) aN))
 refine L0<|j9 (xs:=L) (ys:=([(dt.mk 0 0 0 (((x66.bytesC 1).need (x66.byteV==6) 9).wordsR (Int.tdiv (C.byteV-1) 2)))])) (.agg #[vW 0,vW 0,vW 0,nS]) 4 32 aR bM (by simp) bK.ones (fun w' hv=>bK.upd16 hv (dc (dS _ aR (by decide)) aN)) (by(try simp only[bV,aB]);omega) (le (le (le (le (le (le (le (le (le (le (le (le N.size r) c.size) G.size) k.size) i.size) y.size) Q.size) S.size) T.size) a3.size) a5.size) a6.size) fun bN bP cD bQ aS=>Pl 1<|nl<|bn<|?_
 subst bI bA
 have hC2:(bX s C).2.1=(((((C.bytesC 1).need (decide (C.byteV≤(((C.bytesC 1).l.length:Nat) : Int))) 5).bytesC 1).need (((C.bytesC 1).need (decide (C.byteV≤(((C.bytesC 1).l.length:Nat) : Int))) 5).byteV==6) 9).wordsC (Int.tdiv (C.byteV-1) 2)):=by show fx C=_;(try simp only[fx,fv,fj,iv,g,E,F,o,a1,a2,bj]);all_goals rfl
 have hM2:[(bX s C).2.2]=[(dt.mk 0 0 0 (((((C.bytesC 1).need (decide (C.byteV≤(((C.bytesC 1).l.length:Nat) : Int))) 5).bytesC 1).need (((C.bytesC 1).need (decide (C.byteV≤(((C.bytesC 1).l.length:Nat) : Int))) 5).byteV==6) 9).wordsR (Int.tdiv (C.byteV-1) 2)))]:=by show[fv C]=_;(try simp only[fx,fv,fj,iv,g,E,F,o,a1,a2,bj]);all_goals rfl
 have hS2:(bX s C).1=s:=by(try (show s=_));(try simp only[fq,← Int.add_assoc]);all_goals rfl
 have hlt:=jr s C (by omega)
 have h9:=jx (one:=bX) O (by omega) (by omega) hlt
 rw[hC2,hM2,hS2] at h9
 rw[hC2] at hlt
 have aT:=ut (aH.mono (S':=(P :: (ob B++[]))) a7 (ac im aC)) aS (aq il aC)
 have aW:=ut aw (ut (aH.mono (S':=(f :: (P :: (ob B++[])))) aO (ac im aC)) aT (ac im (aq il aC))) (ac (nr M) (ac (ni D.size j) (aq (aU d lr) aC)))
 have aY:=uz t a4
 exact gL ((n-1),(((((C.bytesC 1).need (decide (C.byteV≤(((C.bytesC 1).l.length:Nat) : Int))) 5).bytesC 1).need (((C.bytesC 1).need (decide (C.byteV≤(((C.bytesC 1).l.length:Nat) : Int))) 5).byteV==6) 9).wordsC (Int.tdiv (C.byteV-1) 2)),(L++[(dt.mk 0 0 0 (((((C.bytesC 1).need (decide (C.byteV≤(((C.bytesC 1).l.length:Nat) : Int))) 5).bytesC 1).need (((C.bytesC 1).need (decide (C.byteV≤(((C.bytesC 1).l.length:Nat) : Int))) 5).byteV==6) 9).wordsR (Int.tdiv (C.byteV-1) 2)))]),bN,bP,s) ⟨aW,(le (le (le (le (le (le (le (le (le (le (le (le r c.size) G.size) k.size) i.size) y.size) Q.size) S.size) T.size) a3.size) a5.size) a6.size) aS.size),(RC.upd aI aT (aa aP (bC (RC.nrow aI (ax d aY (fun x hx=>(aa (fun e=>(RC.nrow a d (by decide)) (e▸hx)) aF)) (bK.upd16 aY (av (RC.safe a _ (by decide)) aN))) (by decide)) aF)) aW),bQ,(by(try dsimp only);omega),(by(try dsimp only);intro he;omega),(by(try dsimp only);simp only[bV];omega),h9⟩ (by omega)
 refine Pl 5<|ay<|m2 (bg (false) 5 H) fun cE bR U=>aM 1<|ay<|m3 (eN bR) fun cF bS V cG=>Pl 1<|aM 3<|ay<|m2 (bg (((((C.bytesC 1).need false 5).byteV)==6)) 9 bS) fun cH bT W=>?_
 refine gM bT fun X bU bW=>?_
 refine nt<|go<|Pl 2<|bq (C.byteV-1)<|?_
 have cI:=pf (x:=(C.byteV-1)) (by omega)
 refine L0<|Oe (vI (IntKind.i64.wrap (Int.tdiv (C.byteV-1) 2))) (vI (Int.tdiv (C.byteV-1) 2)) (congrArg (Value.int .i64) (mJ (by omega) (by omega)))<|ay<|qH (i7 (n:=(Int.tdiv (C.byteV-1) 2)) (by omega) bW) fun b0 b1 cJ b2 cK cL b3 a8=>Pl 1<|?_
 have b4:=u1 U (u1 V (u1 W a8 im) im) im
 have a9:=u1 i b4 im
 have b5:=nb (RC.lt Z) (le r c.size) j
 refine L0<|cm (be a9 (Ne.symm b5) ao) 3 #[vW 0,vW 0,vW 0,.slice b0 ((X.wordsR (Int.tdiv (C.byteV-1) 2)).length) b1] fun cM bY ab=>nt<|go<|Pl 1<|L0<|bO bY<|L0<|d9 (m:=1) (e:=98) #[vW 0,vW 0,vW 0,.slice b0 ((X.wordsR (Int.tdiv (C.byteV-1) 2)).length) b1] fun cO cP cQ bZ ad=>?_
 have ae:=aJ ab ad
 have c0:=mb (R:=bK true) (x:=(dt.mk 0 0 0 (X.wordsR (Int.tdiv (C.byteV-1) 2)))) bZ rfl ⟨_,rfl,((ax b2 ae (fun x hx=>(aa (fun e=>(aL (au a0) (le (le (le (le k.size i.size) U.size) V.size) W.size) b2) (e▸hx)) aF)) (fun _ _ h=>h))).rd,cT (x:=0) (by omega),cT (x:=0) (by omega),cT (x:=0) (by omega)⟩
 have b6:=ue t (us a9 ae) (le c.size j)
 have b8:=ax d b6 (fun x hx=>(aa (fun e=>(RC.nrow a d (by decide)) (e▸hx)) aF)) (bK.upd16 b6 (av (RC.safe a _ (by decide)) aN))
 refine L0<|j9 (xs:=L) (ys:=([(dt.mk 0 0 0 (X.wordsR (Int.tdiv (C.byteV-1) 2)))])) (.agg #[vW 0,vW 0,vW 0,nS]) 4 32 b8 c0 (by simp) bK.ones (fun w' hv=>bK.upd16 hv (dc (dS _ b8 (by decide)) aN)) (by(try simp only[bV,aB]);omega) (le (le (le (le (le (le (le (le (le (le (le N.size r) c.size) G.size) k.size) i.size) U.size) V.size) W.size) a8.size) ab.size) ad.size) fun c2 c3 cR c4 b9=>Pl 1<|nl<|bn<|?_
 subst bU
 have hC2:(bX s C).2.1=(((((C.bytesC 1).need false 5).bytesC 1).need ((((C.bytesC 1).need false 5).byteV)==6) 9).wordsC (Int.tdiv (C.byteV-1) 2)):=by show fx C=_;(try simp only[fx,fv,fj,iv,g,E,F,o,bj]);all_goals rfl
 have hM2:[(bX s C).2.2]=[(dt.mk 0 0 0 (((((C.bytesC 1).need false 5).bytesC 1).need ((((C.bytesC 1).need false 5).byteV)==6) 9).wordsR (Int.tdiv (C.byteV-1) 2)))]:=by show[fv C]=_;(try simp only[fx,fv,fj,iv,g,E,F,o,bj]);all_goals rfl
 have hS2:(bX s C).1=s:=by(try (show s=_));(try simp only[fq,← Int.add_assoc]);all_goals rfl
 have hlt:=jr s C (by omega)
 have h9:=jx (one:=bX) O (by omega) (by omega) hlt
 rw[hC2,hM2,hS2] at h9
 rw[hC2] at hlt
 have ba:=ut (aH.mono (S':=(P :: (ob B++[]))) ae (ac im aC)) b9 (aq il aC)
 have bb:=ut aw (ut (aH.mono (S':=(f :: (P :: (ob B++[])))) b4 (ac im aC)) ba (ac im (aq il aC))) (ac (nr M) (ac (ni D.size j) (aq (aU d lr) aC)))
 have bc:=uz t a9
 exact gL ((n-1),(((((C.bytesC 1).need false 5).bytesC 1).need ((((C.bytesC 1).need false 5).byteV)==6) 9).wordsC (Int.tdiv (C.byteV-1) 2)),(L++[(dt.mk 0 0 0 (((((C.bytesC 1).need false 5).bytesC 1).need ((((C.bytesC 1).need false 5).byteV)==6) 9).wordsR (Int.tdiv (C.byteV-1) 2)))]),c2,c3,s) ⟨bb,(le (le (le (le (le (le (le (le (le (le (le r c.size) G.size) k.size) i.size) U.size) V.size) W.size) a8.size) ab.size) ad.size) b9.size),(RC.upd b3 ba (aa b5 (bC (RC.nrow b3 (ax d bc (fun x hx=>(aa (fun e=>(RC.nrow a d (by decide)) (e▸hx)) aF)) (bK.upd16 bc (av (RC.safe a _ (by decide)) aN))) (by decide)) aF)) bb),c4,(by(try dsimp only);omega),(by(try dsimp only);intro he;omega),(by(try dsimp only);simp only[bV];omega),h9⟩ (by omega)
 refine xt<|tx<|tx<|bx<|tn<|sq<|ak 3<|?_
 have af:=RC.upd a c aF (aH.step (RC.u a) c)
 refine L0<|eH (p:=⟨f,3,none⟩) (v:=vI C.e) (RC.fld af)<|ah 1<|cb ((C.e==2)) (fun J=>?_) (fun J=>?_)
 have c5:=ag J
 refine aD 2<|aV<|rr (.tuple #[nS,vI 5])<|?_
 obtain⟨jf,jP⟩:=gq O g
 have hw:bD (aZ bX b.length 0 ⟨b,false,0⟩ []).1.e=5:=by unfold bD;rw[jf,if_pos J]
 refine⟨none,0,0,by rw[hw],fun h=>absurd (hw.symm.trans h) (by decide),D⟩
 have c5:=am J
 refine bo<|sq<|Rg 7 (fun w'=>w'.cell? ⟨f,3,none⟩=some (vI C.e)) fun cS Y=>?_
 refine bp (RC.fld (RC.upd af Y aF (aH.step (RC.u af) Y))) fun q=>Rt 0 q<|Rt 1 q<|Rt 2 q<|Rt 3 q<|Rl 4 q (fun _ hs=>hs)<|Rt 5 q<|Rt 6 q<|re<|tn<|rt<|rr (.tuple #[.slice B L.length cq,vI C.e])<|?_
 obtain⟨jf,jP⟩:=gq O g
 have hw:bD (aZ bX b.length 0 ⟨b,false,0⟩ []).1.e=C.e:=by unfold bD;rw[jf,if_neg (by rw[J];decide)]
 have bd:=aJ c Y
 refine⟨_,_,_,by rw[hw],fun h=>by rw[jP (hw.symm.trans h)];exact(ax d bd (fun x hx=>aF) (bK.upd16 bd aN)),(aJ D Y)⟩
theorem yd(hsl:aX m w (.slice A b.length cp) b)(hb:b.length≤1048576) :
    Calls Tryz.prog 179 #[vI dir,vB 21,.slice A b.length cp] w (gU (aZ du b.length 0 ⟨b,false,0⟩ []) w):=by
 have hln:(b.length:Int)≤1048576:=by omega
 refine en 108 Tryz.func179 rfl<|ak 2<|aM 2<|L0<|da #[.slice A b.length cp,vI 0,.bool false,vI 0] fun d a3 N aO O=>ah 1<|sq<|go<|Pl 1<|cN 1<|sq<|bk<|?_
 have a4:RC w _ A cp b a3 d (ai.mk b false 0):=⟨hsl,O,N,⟨0,aO,Nat.zero_le _,rfl⟩,by omega⟩
 refine je (fun x=>[(0,vI dir),(1,vB 21),(6,nS),(7,vI 0),(8,vP d 0),(9,.slice x.2.2.2.1 x.2.2.1.length x.2.2.2.2.1),(10,vI x.2.2.2.2.2)]) (fun(x:Nat × ai × List dt × Option Addr × Nat × Int) w'=>aH [] w w'∧a3.heap.size≤w'.heap.size∧RC w m A cp b w' d x.2.1∧b7 w.heap.size 98 4 (bK true) w' (.slice x.2.2.2.1 x.2.2.1.length x.2.2.2.2.1) x.2.2.1∧(0≤x.2.2.2.2.2)∧(x.2.1.e=0→x.2.2.2.2.2≤245)∧(x.2.2.1.length+x.2.1.l.length≤b.length)∧((x.2.1.e=0∧x.2.1.l.length≤x.1∧aZ du x.1 x.2.2.2.2.2 x.2.1 x.2.2.1=aZ du b.length 0 ⟨b,false,0⟩ [])∨(x.2.1.e≠0∧(aZ du b.length 0 ⟨b,false,0⟩ []).1=x.2.1))) (fun x=>x.2.1.l.length) (b.length,(ai.mk b false 0),[],none,0,0) ⟨O,lr,a4,(b7.nil w.heap.size _ _ (bK true) _),(by(try dsimp only);omega),(fun _=>(show(0:Int)≤245 from by decide)),(by(try dsimp only);simp),.inl ⟨rfl,Nat.le_refl _,rfl⟩⟩ ?_
 rintro⟨n,C,L,B,cq,s⟩ a5 ⟨aP,P,aQ,aR,aS,aT,aW,b0⟩
 refine ji [(0,vI dir),(1,vB 21),(6,nS),(7,vI 0),(8,vP d 0),(9,.slice B L.length cq),(10,vI s)] ?_
 have a:RC w m A cp b a5 d C:=aQ
 have hlC:=RC.clen a
 have hrC:fa C:=RC.rng a
 have j:b7 w.heap.size 98 4 (bK true) a5 (.slice B L.length cq) L:=aR
 have bt:0≤s:=aS
 have bu:C.e=0→s≤245:=aT
 have bv:L.length+C.l.length≤b.length:=aW
 have Q:(C.e=0∧C.l.length≤n∧aZ du n s C L=aZ du b.length 0 ⟨b,false,0⟩ [])∨(C.e≠0∧(aZ du b.length 0 ⟨b,false,0⟩ []).1=C):=b0
 refine sq<|ak 1<|ay<|m1 (jS a) fun bw c=>?_
 have bz:=RC.clen a
 refine Pl 2<|cu 6 [20] 26 (((decide (0<(C.l.length:Int)))&&(C.e==0))) (fun K a6=>?_) ?_
 refine bl 20 ((decide (0<(C.l.length:Int)))) (fun r=>?_) (fun r=>?_)
 have b1:=of_decide_eq_true r
 refine Pl 3<|?_
 exact L1<|eH (p:=⟨d,3,none⟩) (v:=vI C.e) (RC.fld (RC.upd a c aF (aH.step (RC.u a) c)))<|Pl 2<|ce a6 (C.e==0) (by rw[r];rfl)
 have b1:=of_decide_eq_false r
 exact Pl 6<|ce a6 false (by rw[r];rfl)
 refine nt<|?_
 have F:=aJ aP c
 refine cb (((decide (0<(C.l.length:Int)))&&(C.e==0))) (fun g=>?_) (fun g=>?_)
 have S:=(bB g).1
 have T:=(bB g).2
 have bA:=of_decide_eq_true S
 have bE:=ag T
 refine bo<|bk<|ak 1<|aK #[vW 0,vW 0,vW 0,nS] fun U bF k a7 V=>aG a7 #[vW 0,vW 0,vW 0,nS] fun bG b2 G=>nt<|sq<|ak 6<|nl<|tn<|c0<|ak 1<|?_
 have a8:=ud V G k
 have H:=aJ c a8
 refine ay<|m5 (Cd (RC.upd a H aF (aH.step (RC.u a) H))) fun bH b3 b4 b5 b6 t=>?_
 obtain⟨bI,bJ⟩:=b3
 obtain⟨bL,bM⟩:=b4
 obtain⟨bN,bP⟩:=b5
 have y:=nb (RC.lt a4) (le P c.size) k
 refine aG (be t (Ne.symm y) b2) #[vW ((aY C).file),vW ((aY C).record),vW ((aY C).count),nS] fun bQ b8 I=>cN 2<|c1<|sq<|Rg 9 (fun w'=>w'.cell? ⟨U,2,none⟩=some (vW ((aY C).count))) fun bR z=>?_
 have a9:=ub z b8
 refine bp (ae a9 rfl) fun o=>Rt 0 o<|Rt 1 o<|Rl 2 o (fun _ hs=>hs)<|Rr 3 o (vI ((aY C).count)) (fun _ _=>bW (vI (IntKind.i64.wrap ((aY C).count))) (by kernel_rfl) (congrArg (Value.int .i64) (i64_in (by omega))))<|Rr 4 o (vI (2*((aY C).count))) (fun _ _=>bW (vI (IntKind.i64.wrap (2*((aY C).count)))) (by kernel_rfl) (congrArg (Value.int .i64) (IntWalk.i64_in _ (by omega))))<|Rt 5 o<|?_
 have ab:=aJ I z
 have W:=us t ab
 have ad:=ud F (ue a8 W k) N
 have J:=RC.upd b6 ab (aa y aF) ad
 refine R0 6 rfl<|Oc<|m1 (jS J) fun bS f=>?_
 have bT:=RC.clen J
 have af:=ub f a9
 refine bp (ae af rfl) fun b9=>Rt 7 b9<|?_
 refine R0 8 rfl<|Oc<|m2 (bg ((decide ((2*((aY C).count))≤(((dY C).l.length:Nat) : Int)))) 5 (RC.upd J f aF (aH.step (RC.u J) f))) fun bU ba q=>?_
 refine gM ba fun x93 bb bc=>?_
 have X:=be q (Ne.symm y) af
 refine bp (ae X rfl) fun bX=>re<|tn<|go<|Pl 2<|aE X 2<|bq ((aY C).count)<|ay<|qH (i7 (n:=(aY C).count) (by omega) bc) fun aj al bY an bZ c2 ao D=>Pl 1<|?_
 refine L0<|cm (be D (Ne.symm y) X) 3 #[vW ((aY C).file),vW ((aY C).record),vW ((aY C).count),.slice aj ((x93.wordsR ((aY C).count)).length) al] fun c3 bd Y=>nt<|go<|Pl 1<|L0<|bO bd<|L0<|d9 (m:=1) (e:=98) #[vW ((aY C).file),vW ((aY C).record),vW ((aY C).count),.slice aj ((x93.wordsR ((aY C).count)).length) al] fun c4 c5 c6 bf Z=>?_
 have a0:=aJ Y Z
 have bh:=mb (R:=bK true) (x:=(dt.mk ((aY C).file) ((aY C).record) ((aY C).count) (x93.wordsR ((aY C).count)))) bf rfl ⟨_,rfl,((ax an a0 (fun x hx=>(aa (fun e=>(aL (au a7) (le (le (le (le (le G.size t.size) I.size) z.size) f.size) q.size) an) (e▸hx)) aF)) (fun _ _ h=>h))).rd,cT (x:=(aY C).file) (by omega),cT (x:=(aY C).record) (by omega),cT (x:=(aY C).count) (by omega)⟩
 have ap:=uz f (ui q (us D a0))
 have ar:=ue H (ut W ap (ac im (ac im aC))) (le c.size k)
 have aw:=ax j ar (fun x hx=>(aa (fun e=>(RC.nrow a j (by decide)) (e▸hx)) aF)) (bK.upd16 ar (av (RC.safe a _ (by decide)) aN))
 refine L0<|j9 (xs:=L) (ys:=([(dt.mk ((aY C).file) ((aY C).record) ((aY C).count) (x93.wordsR ((aY C).count)))])) (.agg #[vW 0,vW 0,vW 0,nS]) 4 32 aw bh (by simp) bK.ones (fun w' hv=>bK.upd16 hv (dc (dS _ aw (by decide)) aN)) (by(try simp only[bV,aB]);omega) (le (le (le (le (le (le (le (le (le (le (le (le O.size P) c.size) V.size) G.size) t.size) I.size) z.size) f.size) q.size) D.size) Y.size) Z.size) fun bi bm c7 br a1=>Pl 1<|nl<|bn<|?_
 subst bb
 have hC2:(du s C).2.1=(((dY C).need (decide ((2*((aY C).count))≤(((dY C).l.length:Nat) : Int))) 5).wordsC ((aY C).count)):=by show ke C=_;(try simp only[ke,ka,oo,g,S,T,bj]);all_goals rfl
 have hM2:[(du s C).2.2]=[(dt.mk ((aY C).file) ((aY C).record) ((aY C).count) (((dY C).need (decide ((2*((aY C).count))≤(((dY C).l.length:Nat) : Int))) 5).wordsR ((aY C).count)))]:=by show[ka C]=_;(try simp only[ke,ka,oo,g,S,T,bj]);all_goals rfl
 have hS2:(du s C).1=s:=by(try (show s=_));(try simp only[fq,← Int.add_assoc]);all_goals rfl
 have hlt:=mj s C (by omega)
 have h9:=jx (one:=du) Q (by omega) (by omega) hlt
 rw[hC2,hM2,hS2] at h9
 rw[hC2] at hlt
 have az:=ut ad (ut (aH.mono (S':=(d :: (U :: (ob B++[])))) ap (ac im (ac im aC))) a1 (aq il aC)) (ac (nr N) (ac (ni F.size k) (aq (aU j lr) aC)))
 have aA:=ue H (u1 W (uz f (u1 q D im)) im) (le c.size k)
 exact gL ((n-1),(((dY C).need (decide ((2*((aY C).count))≤(((dY C).l.length:Nat) : Int))) 5).wordsC ((aY C).count)),(L++[(dt.mk ((aY C).file) ((aY C).record) ((aY C).count) (((dY C).need (decide ((2*((aY C).count))≤(((dY C).l.length:Nat) : Int))) 5).wordsR ((aY C).count)))]),bi,bm,s) ⟨az,(le (le (le (le (le (le (le (le (le (le (le (le P c.size) V.size) G.size) t.size) I.size) z.size) f.size) q.size) D.size) Y.size) Z.size) a1.size),(RC.upd ao (ut (aH.mono (S':=(U :: (ob B++[]))) a0 (ac im aC)) a1 (aq il aC)) (aa y (bC (RC.nrow ao (ax j aA (fun x hx=>(aa (fun e=>(RC.nrow a j (by decide)) (e▸hx)) aF)) (bK.upd16 aA (av (RC.safe a _ (by decide)) aN))) (by decide)) aF)) az),br,(by(try dsimp only);omega),(by(try dsimp only);intro he;omega),(by(try dsimp only);simp only[bV];omega),h9⟩ (by omega)
 refine xt<|tx<|tx<|bx<|tn<|sq<|ak 3<|?_
 have a2:=RC.upd a c aF (aH.step (RC.u a) c)
 refine L0<|eH (p:=⟨d,3,none⟩) (v:=vI C.e) (RC.fld a2)<|ah 1<|cb ((C.e==2)) (fun E=>?_) (fun E=>?_)
 have bs:=ag E
 refine aD 2<|aV<|rr (.tuple #[nS,vI 5])<|?_
 obtain⟨jf,jP⟩:=gq Q g
 have hw:bD (aZ du b.length 0 ⟨b,false,0⟩ []).1.e=5:=by unfold bD;rw[jf,if_pos E]
 refine⟨none,0,0,by rw[hw],fun h=>absurd (hw.symm.trans h) (by decide),F⟩
 have bs:=am E
 refine bo<|sq<|Rg 7 (fun w'=>w'.cell? ⟨d,3,none⟩=some (vI C.e)) fun c8 M=>?_
 refine bp (RC.fld (RC.upd a2 M aF (aH.step (RC.u a2) M))) fun i=>Rt 0 i<|Rt 1 i<|Rt 2 i<|Rt 3 i<|Rl 4 i (fun _ hs=>hs)<|Rt 5 i<|Rt 6 i<|re<|tn<|rt<|rr (.tuple #[.slice B L.length cq,vI C.e])<|?_
 obtain⟨jf,jP⟩:=gq Q g
 have hw:bD (aZ du b.length 0 ⟨b,false,0⟩ []).1.e=C.e:=by unfold bD;rw[jf,if_neg (by rw[E];decide)]
 have aI:=aJ c M
 refine⟨_,_,_,by rw[hw],fun h=>by rw[jP (hw.symm.trans h)];exact(ax j aI (fun x hx=>aF) (bK.upd16 aI aN)),(aJ F M)⟩
theorem pk(h:aX m w v b)(hb:b.length≤1048576) :
    Calls Tryz.prog 179 #[.int .i64 0,.int .u8 20,v] w (gU (aZ dm b.length 0 ⟨b,false,0⟩ []) w):=by
  obtain⟨A,cp,rfl,_,_⟩:=h.shape
  exact yJ h hb
theorem p6(h:aX m w v b)(hb:b.length≤1048576) :
    Calls Tryz.prog 179 #[.int .i64 1,.int .u8 20,v] w (gU (aZ bX b.length 0 ⟨b,false,0⟩ []) w):=by
  obtain⟨A,cp,rfl,_,_⟩:=h.shape
  exact y6 h hb
theorem oN(h:aX m w v b)(hb:b.length≤1048576) :
    Calls Tryz.prog 179 #[.int .i64 dir,.int .u8 21,v] w (gU (aZ du b.length 0 ⟨b,false,0⟩ []) w):=by
  obtain⟨A,cp,rfl,_,_⟩:=h.shape
  exact yd h hb
open Go.RowKit
theorem io(h:bD x=0) : x=0:=by
  unfold bD at h
  split at h
  · cases h
  · exact h
theorem lz(h:¬ bD x=0) : (x != 0)=true:=by
  rw[bne_iff_ne]
  rintro rfl
  exact h rfl
theorem jg:((0:Int)!=0)=false:=rfl
theorem yU(hsl:aX m w (.slice A b.length cp) b)(hb:b.length≤1048576) :
    Calls Tryz.prog 112 #[vI 0,vB 20,.slice A b.length cp] w (cV (.slice A b.length cp) b (dl dm j0 20 b) w):=by
 have hln:(b.length:Int)≤1048576:=by omega
 have hcp:b.length≤cp:=by obtain⟨_,_,hv,h1,_⟩:=aS.shape hsl;injection hv with _ _ h3;omega
 have hrb:=aX.range hsl
 refine en 101 Tryz.func112 rfl<|sg<|aK mZ fun ab ac i g j=>ah 1<|sq<|aD 6<|c0<|bo<|sq<|aD 6<|c0<|bo<|sq<|aD 3<|cb (((b.length:Int)==0)) (fun a=>?_) (fun a=>?_)
 have L:=ag a
 refine ak 1<|aG g mZ fun ad M N=>ah 1<|aV<|bH M (vI 2)<|?_
 exact cC (y:=(aT.zero,2)) (by unfold dl ek dk j0;(try simp only[a,bj,jg,reduceIte])<;>rfl) (bG (ud j N i))
 have L:=am a
 refine bo<|ak 1<|?_
 have t:=aX.old hsl j
 refine ft (aX.at_ t 0 (by omega)) fun O Q R S ae=>L0<|l9 b.length 0 R (by omega)<|L0<|eH (p:=⟨O,Q+0,none⟩) (v:=vB (b.getD 0 0)) S<|bq (b.getD 0 0)<|Pl 1<|aM 3<|cu 3 [36] 39 (((decide (9≤(b.getD 0 0)))&&(decide ((b.getD 0 0)≤251)))) (fun K D=>?_) ?_
 refine bl 36 ((decide (9≤(b.getD 0 0)))) (fun l=>?_) (fun l=>?_)
 have T:=of_decide_eq_true l
 exact Pl 3<|ce D (decide ((b.getD 0 0)≤251)) (by rw[l];rfl)
 have T:=of_decide_eq_false l
 exact Pl 3<|ce D false (by rw[l];rfl)
 refine ah 1<|sq<|aD 6<|c1<|go<|Pl 3<|cu 3 [48] 51 (((decide (7≤(b.getD 0 0)))&&(decide ((b.getD 0 0)≤245)))) (fun K E=>?_) ?_
 refine bl 48 ((decide (7≤(b.getD 0 0)))) (fun o=>?_) (fun o=>?_)
 have U:=of_decide_eq_true o
 exact Pl 3<|ce E (decide ((b.getD 0 0)≤245)) (by rw[o];rfl)
 have U:=of_decide_eq_false o
 exact Pl 3<|ce E false (by rw[o];rfl)
 refine Pl 1<|cu 4 [52] 56 ((((decide (7≤(b.getD 0 0)))&&(decide ((b.getD 0 0)≤245)))&&(((b.getD 0 0)%7)==0))) (fun K F=>?_) ?_
 refine bl 52 (((decide (7≤(b.getD 0 0)))&&(decide ((b.getD 0 0)≤245)))) (fun q=>?_) (fun q=>?_)
 have V:=(bB q).1
 have W:=(bB q).2
 have af:=of_decide_eq_true V
 have ai:=of_decide_eq_true W
 exact Pl 1<|L1<|Oe (vI (Int.tmod (b.getD 0 0) 7)) (vI ((b.getD 0 0)%7)) (congrArg (Value.int .i64) (Int.tmod_eq_emod_of_nonneg (by omega)))<|Pl 2<|ce F (((b.getD 0 0)%7)==0) (by rw[q];rfl)
 exact Pl 4<|ce F false (by rw[q];rfl)
 refine ah 1<|sq<|aD 6<|c0<|bo<|sq<|sq<|go<|ah 2<|cb ((!(((decide (7≤(b.getD 0 0)))&&(decide ((b.getD 0 0)≤245)))&&(((b.getD 0 0)%7)==0)))) (fun d=>?_) (fun d=>?_)
 have f:(((decide (7≤(b.getD 0 0)))&&(decide ((b.getD 0 0)≤245)))&&(((b.getD 0 0)%7)==0))=false:=by simpa only[Bool.not_eq_true',Bool.not_eq_false'] using d
 refine ak 1<|aG g mZ fun aj X Y=>ah 1<|aV<|bH X (vI 5)<|?_
 exact cC (y:=(aT.zero,5)) (by unfold dl ek dk j0;(try simp only[a,d,f,bj,jg,reduceIte])<;>rfl) (bG (ud j Y i))
 have f:(((decide (7≤(b.getD 0 0)))&&(decide ((b.getD 0 0)≤245)))&&(((b.getD 0 0)%7)==0))=true:=by simpa only[Bool.not_eq_true',Bool.not_eq_false'] using d
 have k:=(bB f).1
 have r:=(bB f).2
 have q32naa:=(bB k).1
 have q32nab:=(bB k).2
 have q32naap:=of_decide_eq_true q32naa
 have q32nabp:=of_decide_eq_true q32nab
 have q32nbp:=ag r
 refine bo<|sq<|ak 3<|bq ((b.getD 0 0)+1)<|ah 1<|cb ((decide ((b.length:Int)<((b.getD 0 0)+1)))) (fun h=>?_) (fun h=>?_)
 have Z:=of_decide_eq_true h
 refine ak 1<|aG g mZ fun al a0 a1=>ah 1<|aV<|bH a0 (vI 2)<|?_
 exact cC (y:=(aT.zero,2)) (by unfold dl ek dk j0;(try simp only[a,d,f,k,q32naa,q32nab,r,h,bj,jg,reduceIte])<;>rfl) (bG (ud j a1 i))
 have Z:=of_decide_eq_false h
 refine bo<|ak 4<|bq ((b.getD 0 0)+1)<|mT (gh (P:=Tryz.prog) 27 5 1 Tryz.underlying27 rfl rfl A b.length cp (lo:=1) (up:=((b.getD 0 0)+1)) 1 ((((b.getD 0 0)+1)).toNat) (by omega) (by omega) (by omega) (by omega) (by omega)) fun u hrun43 G=>L0<|gt (.slice u (((((b.getD 0 0)+1)).toNat)-1) (cp-1)) (eY (kl:=.i64) (kh:=.i64) (lo:=1) (hi:=((b.getD 0 0)+1)) (A:=A) (n:=b.length) (c:=cp) rfl Tryz.underlying27 (by kernel_rfl) (by kernel_rfl) (by kernel_rfl) (hrun43 _ _ _))<|?_
 by_cases hE:bD (aZ dm (((b.take ((((b.getD 0 0)+1)).toNat)).drop 1)).length 0 ⟨((b.take ((((b.getD 0 0)+1)).toNat)).drop 1),false,0⟩ []).1.e=0
 refine ay (args:=#[vI 0,vB 20,.slice u (((((b.getD 0 0)+1)).toNat)-1) (cp-1)])<|e2 (n0 (pk (G _ _ _ _ _ t) (by rw[List.length_drop,List.length_take];omega)) hE) fun an ao z B=>?_
 obtain⟨a2,a3,rfl,ap,aq⟩:=aS.shape z.rd
 refine ah 5<|sq<|aD 2<|c0<|bo<|sq<|sq<|go<|Pl 3<|bq ((b.getD 0 0)+1)<|ah 1<|?_
 have H:=aJ j B
 refine cb ((decide (((b.getD 0 0)+1)<(b.length:Int)))) (fun s=>?_) (fun s=>?_)
 have a4:=of_decide_eq_true s
 refine ak 1<|?_
 refine aG (ub B g) mZ fun ar a5 a6=>ah 1<|aV<|bH a5 (vI 3)<|?_
 have hE0:(aZ dm (((b.take ((((b.getD 0 0)+1)).toNat)).drop 1)).length 0 ⟨((b.take ((((b.getD 0 0)+1)).toNat)).drop 1),false,0⟩ []).1.e=0:=io hE
 exact cC (y:=(aT.zero,3)) (by unfold dl ek dk j0;(try simp only[a,d,f,k,q32naa,q32nab,r,h,s,bj,hE0,jg,reduceIte])<;>rfl) (bG (ud H a6 i))
 have a4:=of_decide_eq_false s
 refine bo<|ak 3<|?_
 have I:=ub B g
 refine aG I (mG 20 0 0 0 0 0 0 0 0 0 0 0 nS nS nS (.slice a2 ((aZ dm (((b.take ((((b.getD 0 0)+1)).toNat)).drop 1)).length 0 ⟨((b.take ((((b.getD 0 0)+1)).toNat)).drop 1),false,0⟩ []).2.length) a3) 0 0 0 0 0 nS) fun aw a7 C=>ah 1<|rt<|bH a7 (vI 0)<|?_
 have hE0:(aZ dm (((b.take ((((b.getD 0 0)+1)).toNat)).drop 1)).length 0 ⟨((b.take ((((b.getD 0 0)+1)).toNat)).drop 1),false,0⟩ []).1.e=0:=io hE
 exact cC (y:=((aT.mk 20 0 0 0 0 0 0 0 0 0 0 0 [] [] [] (aZ dm (((b.take ((((b.getD 0 0)+1)).toNat)).drop 1)).length 0 ⟨((b.take ((((b.getD 0 0)+1)).toNat)).drop 1),false,0⟩ []).2 0 0 0 0 0 []),0)) (by unfold dl ek dk j0;(try simp only[a,d,f,k,q32naa,q32nab,r,h,s,bj,hE0,jg,reduceIte])<;>rfl) ⟨_,rfl,⟨_,_,_,_,_,rfl,aS.nil ..,aS.nil ..,(fun _ _ _=>aS.nil ..),((ax z C (fun x hx=>(aa (fun e=>(aL (au g) lr z) (e▸hx)) aF)) (bK.upd16 C (av (b6 I (by decide)) aN)))).rd,aS.nil ..,(cY (by omega))⟩,(ud H C i)⟩
 refine ay (args:=#[vI 0,vB 20,.slice u (((((b.getD 0 0)+1)).toNat)-1) (cp-1)])<|(lB (pk (G _ _ _ _ _ t) (by rw[List.length_drop,List.length_take];omega))).mono ?_
 rintro _ az ⟨aA,aB,aC,rfl,J⟩
 refine⟨_,rfl,?_⟩
 have hE1:(bD (aZ dm (((b.take ((((b.getD 0 0)+1)).toNat)).drop 1)).length 0 ⟨((b.take ((((b.getD 0 0)+1)).toNat)).drop 1),false,0⟩ []).1.e != 0)=true:=by simpa using hE
 refine ah 5<|sq<|aD 2<|ct hE1<|ak 2<|?_
 refine aG (ub J g) mZ fun aE a8 a9=>ah 1<|aV<|bH a8 (vI (bD (aZ dm (((b.take ((((b.getD 0 0)+1)).toNat)).drop 1)).length 0 ⟨((b.take ((((b.getD 0 0)+1)).toNat)).drop 1),false,0⟩ []).1.e))<|?_
 have hE3:((aZ dm (((b.take ((((b.getD 0 0)+1)).toNat)).drop 1)).length 0 ⟨((b.take ((((b.getD 0 0)+1)).toNat)).drop 1),false,0⟩ []).1.e != 0)=true:=lz hE
 exact cC (y:=(aT.zero,bD (aZ dm (((b.take ((((b.getD 0 0)+1)).toNat)).drop 1)).length 0 ⟨((b.take ((((b.getD 0 0)+1)).toNat)).drop 1),false,0⟩ []).1.e)) (by unfold dl ek dk j0;(try simp only[a,d,f,k,q32naa,q32nab,r,h,hE1,bj,hE3,jg,reduceIte])<;>rfl) (bG (ud j (uz J a9) i))
theorem yX(hsl:aX m w (.slice A b.length cp) b)(hb:b.length≤1048576) :
    Calls Tryz.prog 112 #[vI 1,vB 20,.slice A b.length cp] w (cV (.slice A b.length cp) b (dl bX iN 20 b) w):=by
 have hln:(b.length:Int)≤1048576:=by omega
 have hcp:b.length≤cp:=by obtain⟨_,_,hv,h1,_⟩:=aS.shape hsl;injection hv with _ _ h3;omega
 have hrb:=aX.range hsl
 refine en 101 Tryz.func112 rfl<|sg<|aK mZ fun a6 a7 i g j=>ah 1<|sq<|aD 6<|c0<|bo<|sq<|aD 6<|c0<|bo<|sq<|aD 3<|cb (((b.length:Int)==0)) (fun a=>?_) (fun a=>?_)
 have I:=ag a
 refine ak 1<|aG g mZ fun a8 J L=>ah 1<|aV<|bH J (vI 2)<|?_
 exact cC (y:=(aT.zero,2)) (by unfold dl ek dk iN;(try simp only[a,bj,jg,reduceIte])<;>rfl) (bG (ud j L i))
 have I:=am a
 refine bo<|ak 1<|?_
 have s:=aX.old hsl j
 refine ft (aX.at_ s 0 (by omega)) fun M N O Q a9=>L0<|l9 b.length 0 O (by omega)<|L0<|eH (p:=⟨M,N+0,none⟩) (v:=vB (b.getD 0 0)) Q<|bq (b.getD 0 0)<|Pl 1<|aM 3<|cu 3 [36] 39 (((decide (9≤(b.getD 0 0)))&&(decide ((b.getD 0 0)≤251)))) (fun K C=>?_) ?_
 refine bl 36 ((decide (9≤(b.getD 0 0)))) (fun k=>?_) (fun k=>?_)
 have R:=of_decide_eq_true k
 exact Pl 3<|ce C (decide ((b.getD 0 0)≤251)) (by rw[k];rfl)
 have R:=of_decide_eq_false k
 exact Pl 3<|ce C false (by rw[k];rfl)
 refine ah 1<|sq<|aD 6<|c0<|bo<|sq<|sq<|go<|ah 6<|c1<|go<|Pl 3<|cu 3 [65] 68 (((decide (4≤(b.getD 0 0)))&&(decide ((b.getD 0 0)≤245)))) (fun K D=>?_) ?_
 refine bl 65 ((decide (4≤(b.getD 0 0)))) (fun l=>?_) (fun l=>?_)
 have S:=of_decide_eq_true l
 exact Pl 3<|ce D (decide ((b.getD 0 0)≤245)) (by rw[l];rfl)
 have S:=of_decide_eq_false l
 exact Pl 3<|ce D false (by rw[l];rfl)
 refine ah 1<|sq<|aD 2<|cb ((!((decide (4≤(b.getD 0 0)))&&(decide ((b.getD 0 0)≤245))))) (fun d=>?_) (fun d=>?_)
 have f:((decide (4≤(b.getD 0 0)))&&(decide ((b.getD 0 0)≤245)))=false:=by simpa only[Bool.not_eq_true',Bool.not_eq_false'] using d
 refine ak 1<|aG g mZ fun ab T U=>ah 1<|aV<|bH T (vI 5)<|?_
 exact cC (y:=(aT.zero,5)) (by unfold dl ek dk iN;(try simp only[a,d,f,bj,jg,reduceIte])<;>rfl) (bG (ud j U i))
 have f:((decide (4≤(b.getD 0 0)))&&(decide ((b.getD 0 0)≤245)))=true:=by simpa only[Bool.not_eq_true',Bool.not_eq_false'] using d
 have o:=(bB f).1
 have q:=(bB f).2
 have q30nap:=of_decide_eq_true o
 have q30nbp:=of_decide_eq_true q
 refine bo<|sq<|ak 3<|bq ((b.getD 0 0)+1)<|ah 1<|cb ((decide ((b.length:Int)<((b.getD 0 0)+1)))) (fun h=>?_) (fun h=>?_)
 have V:=of_decide_eq_true h
 refine ak 1<|aG g mZ fun ac W X=>ah 1<|aV<|bH W (vI 2)<|?_
 exact cC (y:=(aT.zero,2)) (by unfold dl ek dk iN;(try simp only[a,d,f,o,q,h,bj,jg,reduceIte])<;>rfl) (bG (ud j X i))
 have V:=of_decide_eq_false h
 refine bo<|ak 4<|bq ((b.getD 0 0)+1)<|mT (gh (P:=Tryz.prog) 27 5 1 Tryz.underlying27 rfl rfl A b.length cp (lo:=1) (up:=((b.getD 0 0)+1)) 1 ((((b.getD 0 0)+1)).toNat) (by omega) (by omega) (by omega) (by omega) (by omega)) fun t hrun41 E=>L0<|gt (.slice t (((((b.getD 0 0)+1)).toNat)-1) (cp-1)) (eY (kl:=.i64) (kh:=.i64) (lo:=1) (hi:=((b.getD 0 0)+1)) (A:=A) (n:=b.length) (c:=cp) rfl Tryz.underlying27 (by kernel_rfl) (by kernel_rfl) (by kernel_rfl) (hrun41 _ _ _))<|?_
 by_cases hE:bD (aZ bX (((b.take ((((b.getD 0 0)+1)).toNat)).drop 1)).length 0 ⟨((b.take ((((b.getD 0 0)+1)).toNat)).drop 1),false,0⟩ []).1.e=0
 refine ay (args:=#[vI 1,vB 20,.slice t (((((b.getD 0 0)+1)).toNat)-1) (cp-1)])<|e2 (n0 (p6 (E _ _ _ _ _ s) (by rw[List.length_drop,List.length_take];omega)) hE) fun ad ae u z=>?_
 obtain⟨Y,Z,rfl,af,ai⟩:=aS.shape u.rd
 refine ah 5<|sq<|aD 2<|c0<|bo<|sq<|sq<|go<|Pl 3<|bq ((b.getD 0 0)+1)<|ah 1<|?_
 have F:=aJ j z
 refine cb ((decide (((b.getD 0 0)+1)<(b.length:Int)))) (fun r=>?_) (fun r=>?_)
 have a0:=of_decide_eq_true r
 refine ak 1<|?_
 refine aG (ub z g) mZ fun aj a1 a2=>ah 1<|aV<|bH a1 (vI 3)<|?_
 have hE0:(aZ bX (((b.take ((((b.getD 0 0)+1)).toNat)).drop 1)).length 0 ⟨((b.take ((((b.getD 0 0)+1)).toNat)).drop 1),false,0⟩ []).1.e=0:=io hE
 exact cC (y:=(aT.zero,3)) (by unfold dl ek dk iN;(try simp only[a,d,f,o,q,h,r,bj,hE0,jg,reduceIte])<;>rfl) (bG (ud F a2 i))
 have a0:=of_decide_eq_false r
 refine bo<|ak 3<|?_
 have G:=ub z g
 refine aG G (mG 20 0 0 0 0 0 0 0 0 0 0 0 nS nS nS (.slice Y ((aZ bX (((b.take ((((b.getD 0 0)+1)).toNat)).drop 1)).length 0 ⟨((b.take ((((b.getD 0 0)+1)).toNat)).drop 1),false,0⟩ []).2.length) Z) 0 0 0 0 0 nS) fun al a3 B=>ah 1<|rt<|bH a3 (vI 0)<|?_
 have hE0:(aZ bX (((b.take ((((b.getD 0 0)+1)).toNat)).drop 1)).length 0 ⟨((b.take ((((b.getD 0 0)+1)).toNat)).drop 1),false,0⟩ []).1.e=0:=io hE
 exact cC (y:=((aT.mk 20 0 0 0 0 0 0 0 0 0 0 0 [] [] [] (aZ bX (((b.take ((((b.getD 0 0)+1)).toNat)).drop 1)).length 0 ⟨((b.take ((((b.getD 0 0)+1)).toNat)).drop 1),false,0⟩ []).2 0 0 0 0 0 []),0)) (by unfold dl ek dk iN;(try simp only[a,d,f,o,q,h,r,bj,hE0,jg,reduceIte])<;>rfl) ⟨_,rfl,⟨_,_,_,_,_,rfl,aS.nil ..,aS.nil ..,(fun _ _ _=>aS.nil ..),((ax u B (fun x hx=>(aa (fun e=>(aL (au g) lr u) (e▸hx)) aF)) (bK.upd16 B (av (b6 G (by decide)) aN)))).rd,aS.nil ..,(cY (by omega))⟩,(ud F B i)⟩
 refine ay (args:=#[vI 1,vB 20,.slice t (((((b.getD 0 0)+1)).toNat)-1) (cp-1)])<|(lB (p6 (E _ _ _ _ _ s) (by rw[List.length_drop,List.length_take];omega))).mono ?_
 rintro _ an ⟨ao,ap,aq,rfl,H⟩
 refine⟨_,rfl,?_⟩
 have hE1:(bD (aZ bX (((b.take ((((b.getD 0 0)+1)).toNat)).drop 1)).length 0 ⟨((b.take ((((b.getD 0 0)+1)).toNat)).drop 1),false,0⟩ []).1.e != 0)=true:=by simpa using hE
 refine ah 5<|sq<|aD 2<|ct hE1<|ak 2<|?_
 refine aG (ub H g) mZ fun ar a4 a5=>ah 1<|aV<|bH a4 (vI (bD (aZ bX (((b.take ((((b.getD 0 0)+1)).toNat)).drop 1)).length 0 ⟨((b.take ((((b.getD 0 0)+1)).toNat)).drop 1),false,0⟩ []).1.e))<|?_
 have hE3:((aZ bX (((b.take ((((b.getD 0 0)+1)).toNat)).drop 1)).length 0 ⟨((b.take ((((b.getD 0 0)+1)).toNat)).drop 1),false,0⟩ []).1.e != 0)=true:=lz hE
 exact cC (y:=(aT.zero,bD (aZ bX (((b.take ((((b.getD 0 0)+1)).toNat)).drop 1)).length 0 ⟨((b.take ((((b.getD 0 0)+1)).toNat)).drop 1),false,0⟩ []).1.e)) (by unfold dl ek dk iN;(try simp only[a,d,f,o,q,h,hE1,bj,hE3,jg,reduceIte])<;>rfl) (bG (ud j (uz H a5) i))
theorem xD(hd:dir=0∨dir=1)(hsl:aX m w (.slice A b.length cp) b)(hb:b.length≤1048576) :
    Calls Tryz.prog 112 #[vI dir,vB 21,.slice A b.length cp] w (cV (.slice A b.length cp) b (dl du jv 21 b) w):=by
 have hln:(b.length:Int)≤1048576:=by omega
 have hcp:b.length≤cp:=by obtain⟨_,_,hv,h1,_⟩:=aS.shape hsl;injection hv with _ _ h3;omega
 have hrb:=aX.range hsl
 have g:((dir != 0)&&(dir != 1))=false:=by rcases hd with rfl | rfl<;>rfl
 refine en 101 Tryz.func112 rfl<|sg<|aK mZ fun a7 a8 j h k=>ah 1<|sq<|ak 3<|cu 3 [14] 17 (((dir != 0)&&(dir != 1))) (fun K D=>?_) ?_
 refine bl 14 ((dir != 0)) (fun l=>?_) (fun l=>?_)
 have J:=az l
 exact Pl 3<|ce D (dir != 1) (by rw[l];rfl)
 have J:=aA l
 exact Pl 3<|ce D false (by rw[l];rfl)
 refine nt<|cf g<|bo<|sq<|aD 6<|c0<|bo<|sq<|aD 3<|cb (((b.length:Int)==0)) (fun a=>?_) (fun a=>?_)
 have L:=ag a
 refine ak 1<|aG h mZ fun a9 M N=>ah 1<|aV<|bH M (vI 2)<|?_
 exact cC (y:=(aT.zero,2)) (by unfold dl ek dk jv;(try simp only[g,a,bj,jg,reduceIte])<;>rfl) (bG (ud k N j))
 have L:=am a
 refine bo<|ak 1<|?_
 have t:=aX.old hsl k
 refine ft (aX.at_ t 0 (by omega)) fun O Q R S ab=>L0<|l9 b.length 0 R (by omega)<|L0<|eH (p:=⟨O,Q+0,none⟩) (v:=vB (b.getD 0 0)) S<|bq (b.getD 0 0)<|Pl 1<|aM 3<|cu 3 [36] 39 (((decide (9≤(b.getD 0 0)))&&(decide ((b.getD 0 0)≤251)))) (fun K E=>?_) ?_
 refine bl 36 ((decide (9≤(b.getD 0 0)))) (fun o=>?_) (fun o=>?_)
 have T:=of_decide_eq_true o
 exact Pl 3<|ce E (decide ((b.getD 0 0)≤251)) (by rw[o];rfl)
 have T:=of_decide_eq_false o
 exact Pl 3<|ce E false (by rw[o];rfl)
 refine ah 1<|sq<|aD 6<|c0<|bo<|sq<|sq<|go<|ah 6<|c0<|bo<|sq<|aD 2<|cb ((!((decide (9≤(b.getD 0 0)))&&(decide ((b.getD 0 0)≤251))))) (fun d=>?_) (fun d=>?_)
 have f:((decide (9≤(b.getD 0 0)))&&(decide ((b.getD 0 0)≤251)))=false:=by simpa only[Bool.not_eq_true',Bool.not_eq_false'] using d
 refine ak 1<|aG h mZ fun ac U V=>ah 1<|aV<|bH U (vI 5)<|?_
 exact cC (y:=(aT.zero,5)) (by unfold dl ek dk jv;(try simp only[g,a,d,f,bj,jg,reduceIte])<;>rfl) (bG (ud k V j))
 have f:((decide (9≤(b.getD 0 0)))&&(decide ((b.getD 0 0)≤251)))=true:=by simpa only[Bool.not_eq_true',Bool.not_eq_false'] using d
 have q:=(bB f).1
 have r:=(bB f).2
 have q30nap:=of_decide_eq_true q
 have q30nbp:=of_decide_eq_true r
 refine bo<|sq<|ak 3<|bq ((b.getD 0 0)+1)<|ah 1<|cb ((decide ((b.length:Int)<((b.getD 0 0)+1)))) (fun i=>?_) (fun i=>?_)
 have W:=of_decide_eq_true i
 refine ak 1<|aG h mZ fun ad X Y=>ah 1<|aV<|bH X (vI 2)<|?_
 exact cC (y:=(aT.zero,2)) (by unfold dl ek dk jv;(try simp only[g,a,d,f,q,r,i,bj,jg,reduceIte])<;>rfl) (bG (ud k Y j))
 have W:=of_decide_eq_false i
 refine bo<|ak 4<|bq ((b.getD 0 0)+1)<|mT (gh (P:=Tryz.prog) 27 5 1 Tryz.underlying27 rfl rfl A b.length cp (lo:=1) (up:=((b.getD 0 0)+1)) 1 ((((b.getD 0 0)+1)).toNat) (by omega) (by omega) (by omega) (by omega) (by omega)) fun u hrun41 F=>L0<|gt (.slice u (((((b.getD 0 0)+1)).toNat)-1) (cp-1)) (eY (kl:=.i64) (kh:=.i64) (lo:=1) (hi:=((b.getD 0 0)+1)) (A:=A) (n:=b.length) (c:=cp) rfl Tryz.underlying27 (by kernel_rfl) (by kernel_rfl) (by kernel_rfl) (hrun41 _ _ _))<|?_
 by_cases hE:bD (aZ du (((b.take ((((b.getD 0 0)+1)).toNat)).drop 1)).length 0 ⟨((b.take ((((b.getD 0 0)+1)).toNat)).drop 1),false,0⟩ []).1.e=0
 refine ay (args:=#[vI dir,vB 21,.slice u (((((b.getD 0 0)+1)).toNat)-1) (cp-1)])<|e2 (n0 (oN (F _ _ _ _ _ t) (by rw[List.length_drop,List.length_take];omega)) hE) fun ae af z B=>?_
 obtain⟨Z,a0,rfl,ai,aj⟩:=aS.shape z.rd
 refine ah 5<|sq<|aD 2<|c0<|bo<|sq<|sq<|go<|Pl 3<|bq ((b.getD 0 0)+1)<|ah 1<|?_
 have G:=aJ k B
 refine cb ((decide (((b.getD 0 0)+1)<(b.length:Int)))) (fun s=>?_) (fun s=>?_)
 have a1:=of_decide_eq_true s
 refine ak 1<|?_
 refine aG (ub B h) mZ fun al a2 a3=>ah 1<|aV<|bH a2 (vI 3)<|?_
 have hE0:(aZ du (((b.take ((((b.getD 0 0)+1)).toNat)).drop 1)).length 0 ⟨((b.take ((((b.getD 0 0)+1)).toNat)).drop 1),false,0⟩ []).1.e=0:=io hE
 exact cC (y:=(aT.zero,3)) (by unfold dl ek dk jv;(try simp only[g,a,d,f,q,r,i,s,bj,hE0,jg,reduceIte])<;>rfl) (bG (ud G a3 j))
 have a1:=of_decide_eq_false s
 refine bo<|ak 3<|?_
 have H:=ub B h
 refine aG H (mG 21 0 0 0 0 0 0 0 0 0 0 0 nS nS nS (.slice Z ((aZ du (((b.take ((((b.getD 0 0)+1)).toNat)).drop 1)).length 0 ⟨((b.take ((((b.getD 0 0)+1)).toNat)).drop 1),false,0⟩ []).2.length) a0) 0 0 0 0 0 nS) fun an a4 C=>ah 1<|rt<|bH a4 (vI 0)<|?_
 have hE0:(aZ du (((b.take ((((b.getD 0 0)+1)).toNat)).drop 1)).length 0 ⟨((b.take ((((b.getD 0 0)+1)).toNat)).drop 1),false,0⟩ []).1.e=0:=io hE
 exact cC (y:=((aT.mk 21 0 0 0 0 0 0 0 0 0 0 0 [] [] [] (aZ du (((b.take ((((b.getD 0 0)+1)).toNat)).drop 1)).length 0 ⟨((b.take ((((b.getD 0 0)+1)).toNat)).drop 1),false,0⟩ []).2 0 0 0 0 0 []),0)) (by unfold dl ek dk jv;(try simp only[g,a,d,f,q,r,i,s,bj,hE0,jg,reduceIte])<;>rfl) ⟨_,rfl,⟨_,_,_,_,_,rfl,aS.nil ..,aS.nil ..,(fun _ _ _=>aS.nil ..),((ax z C (fun x hx=>(aa (fun e=>(aL (au h) lr z) (e▸hx)) aF)) (bK.upd16 C (av (b6 H (by decide)) aN)))).rd,aS.nil ..,(cY (by omega))⟩,(ud G C j)⟩
 refine ay (args:=#[vI dir,vB 21,.slice u (((((b.getD 0 0)+1)).toNat)-1) (cp-1)])<|(lB (oN (F _ _ _ _ _ t) (by rw[List.length_drop,List.length_take];omega))).mono ?_
 rintro _ ao ⟨ap,aq,ar,rfl,I⟩
 refine⟨_,rfl,?_⟩
 have hE1:(bD (aZ du (((b.take ((((b.getD 0 0)+1)).toNat)).drop 1)).length 0 ⟨((b.take ((((b.getD 0 0)+1)).toNat)).drop 1),false,0⟩ []).1.e != 0)=true:=by simpa using hE
 refine ah 5<|sq<|aD 2<|ct hE1<|ak 2<|?_
 refine aG (ub I h) mZ fun aw a5 a6=>ah 1<|aV<|bH a5 (vI (bD (aZ du (((b.take ((((b.getD 0 0)+1)).toNat)).drop 1)).length 0 ⟨((b.take ((((b.getD 0 0)+1)).toNat)).drop 1),false,0⟩ []).1.e))<|?_
 have hE3:((aZ du (((b.take ((((b.getD 0 0)+1)).toNat)).drop 1)).length 0 ⟨((b.take ((((b.getD 0 0)+1)).toNat)).drop 1),false,0⟩ []).1.e != 0)=true:=lz hE
 exact cC (y:=(aT.zero,bD (aZ du (((b.take ((((b.getD 0 0)+1)).toNat)).drop 1)).length 0 ⟨((b.take ((((b.getD 0 0)+1)).toNat)).drop 1),false,0⟩ []).1.e)) (by unfold dl ek dk jv;(try simp only[g,a,d,f,q,r,i,hE1,bj,hE3,jg,reduceIte])<;>rfl) (bG (ud k (uz I a6) j))
theorem xx(hd:dir=0∨dir=1)(hc:¬ c=20∧¬ c=21) :
    Calls Tryz.prog 112 #[vI dir,vB c,.slice A b.length cp] w (cV (.slice A b.length cp) b (aT.zero,4) w):=by
 have g:((dir != 0)&&(dir != 1))=false:=by rcases hd with rfl | rfl<;>rfl
 have e2:((c != 20)&&(c != 21))=true:=by simp[hc.1,hc.2]
 refine en 101 Tryz.func112 rfl<|sg<|aK mZ fun o p h i j=>ah 1<|sq<|ak 3<|cu 3 [14] 17 (((dir != 0)&&(dir != 1))) (fun K e=>?_) ?_
 refine bl 14 ((dir != 0)) (fun a=>?_) (fun a=>?_)
 have k:=az a
 exact Pl 3<|ce e (dir != 1) (by rw[a];rfl)
 have k:=aA a
 exact Pl 3<|ce e false (by rw[a];rfl)
 refine nt<|cf g<|bo<|sq<|ak 3<|cu 3 [21] 24 (((c != 20)&&(c != 21))) (fun K f=>?_) ?_
 refine bl 21 ((c != 20)) (fun d=>?_) (fun d=>?_)
 have l:=az d
 exact Pl 3<|ce f (c != 21) (by rw[d];rfl)
 have l:=aA d
 exact Pl 3<|ce f false (by rw[d];rfl)
 refine nt<|ct e2<|ak 1<|aG i mZ fun q m n=>ah 1<|aV<|bH m (vI 4)<|?_
 exact bG (ud j n h)
theorem yG(hd:¬ (dir=0∨dir=1)) :
    Calls Tryz.prog 112 #[vI dir,vB c,.slice A b.length cp] w (cV (.slice A b.length cp) b (aT.zero,1) w):=by
 have e:((dir != 0)&&(dir != 1))=true:=by simp;omega
 refine en 101 Tryz.func112 rfl<|sg<|aK mZ fun l m f g h=>ah 1<|sq<|ak 3<|cu 3 [14] 17 (((dir != 0)&&(dir != 1))) (fun K d=>?_) ?_
 refine bl 14 ((dir != 0)) (fun a=>?_) (fun a=>?_)
 have i:=az a
 exact Pl 3<|ce d (dir != 1) (by rw[a];rfl)
 have i:=aA a
 exact Pl 3<|ce d false (by rw[a];rfl)
 refine nt<|ct e<|ak 1<|aG g mZ fun n j k=>ah 1<|aV<|bH j (vI 1)<|?_
 exact bG (ud h k f)
theorem uh(hd:dir=0∨dir=1)(hc:¬ c=20∧¬ c=21) : aj bh dir c b=(aT.zero,4):=by
  unfold aj bh
  rw[if_pos hd,if_neg (by simpa using hc.1),if_neg (by simpa using hc.2)]
theorem xb{form:Int→Int→ai→Option (ai × aT)}   (hd:¬ (dir=0∨dir=1)) : aj form dir c b=(aT.zero,1):=by
  unfold aj
  rw[if_neg hd]
theorem kP(hc:B8 c)(h:aX m w v b)(hb:b.length≤1048576) :
    Calls Tryz.prog 112 #[.int .i64 dir,.int .u8 c,v] w (cV v b (aj bh dir c b) w):=by
  have hr:=aX.range h
  obtain⟨A,cp,rfl,_,_⟩:=h.shape
  by_cases hd:dir=0∨dir=1
  · by_cases a:c=20
    · subst a
      rcases hd with rfl|rfl
      · rw[th hr];exact yU h hb
      · rw[tI hr];exact yX h hb
    · by_cases d:c=21
      · subst d
        rw[xL hd hr];exact xD hd h hb
      · rw[uh hd ⟨a,d⟩];exact xx hd ⟨a,d⟩
  · rw[xb hd];exact yG hd
open Go.RowKit
theorem zd{k:Nat}  {L:List Obj}{R:ai × List Obj}(h:eR (k-i) C L=R)(hk:k-i=0) : R=(C,L):=by
  rw[hk] at h
  exact h.symm
theorem oI(hcode:B8 c)(hsl:aX m w (.slice A b.length cp) b)(hb:b.length≤1048576) :
    Calls Tryz.prog 113 #[vI 0,vB c,.slice A b.length cp] w (cV (.slice A b.length cp) b (aj dA 0 c b) w):=by
 obtain⟨hcode1,hcode2⟩:=hcode
 have hln:(b.length:Int)≤1048576:=by omega
 refine en 176 Tryz.func113 rfl<|sg<|aK mZ fun bD bF q j a=>ah 1<|sq<|aD 6<|c0<|bo<|sq<|aD 2<|cb ((c != 43)) (fun k=>?_) (fun k=>?_)
 have aN:=az k
 refine ak 1<|aG j mZ fun bI aO aP=>ah 1<|aV<|bH aO (vI 4)<|?_
 exact cC (by unfold aj dA eS kL j8 ja gP fW g9 dI;(try simp only[k,bj,dQ,dU,dW,dT,dR,reduceIte])<;>rfl) (bG (ud a aP q))
 have aN:=aA k
 refine bo<|ak 2<|L0<|da #[.slice A b.length cp,vI 0,.bool false,vI 0] fun r bJ d W h=>Pl 1<|aM 1<|aK mZ fun bK bL g aQ aR=>aG aQ (mC 43) fun aU aW aY=>?_
 refine aM 1<|?_
 have X:=ud aR aY g
 have s:=aJ h X
 have Y:=aJ a s
 have aZ:RC w _ A cp b aU r (ai.mk b false 0):=⟨hsl,Y,(Nat.le_trans a.size d),⟨0,(ub X W),Nat.zero_le _,rfl⟩,by omega⟩
 refine ay<|m3 (eN aZ) fun bM b0 Z bN=>Pl 1<|?_
 have f:=nb (au W) lr g
 refine L0<|cm (be Z (Ne.symm f) aW) 16 (mG 43 0 0 0 0 0 0 0 0 0 0 0 nS nS nS nS ((ai.mk b false 0).byteV) 0 0 0 0 nS) fun bP I a0=>aM 2<|aE I 16<|Pl 2<|cu 4 [38] 42 (((((ai.mk b false 0).byteV)==13)||(((ai.mk b false 0).byteV)==14))) (fun K a1=>?_) ?_
 refine bl 38 ((((ai.mk b false 0).byteV)==13)) (fun t=>?_) (fun t=>?_)
 have b1:=ag t
 exact Pl 4<|ce a1 true (by rw[t];rfl)
 have b1:=am t
 exact Pl 1<|L1<|dX I 16<|Pl 2<|ce a1 (((ai.mk b false 0).byteV)==14) (by rw[t];rfl)
 have x:=us Z a0
 have a2:=ut Y x (ac (ni a.size d) (ac (ni (le a.size h.size) g) aC))
 refine ay<|m2 (bg (((((ai.mk b false 0).byteV)==13)||(((ai.mk b false 0).byteV)==14))) 8 (RC.upd b0 a0 (aa f aF) a2)) fun bQ b2 o=>?_
 refine gM b2 fun x55 a3 y=>?_
 refine nt<|sq<|bk<|ak 1<|?_
 have J:=be o (Ne.symm f) I
 refine aE J 16<|ah 2<|?_
 have a4:=ud a2 o (le a.size d)
 refine cb ((((ai.mk b false 0).byteV)==13)) (fun z=>?_) (fun z=>?_)
 have b3:=ag z
 refine ak 1<|ay<|m1 (jS y) fun bR L=>?_
 have bS:=RC.clen y
 refine Pl 1<|aM 3<|?_
 refine ay<|m2 (bg ((decide ((x55.l.length:Int)≤251))) 5 (RC.upd y L aF (aH.step (RC.u y) L))) fun bT a5 b4=>nt<|go<|Pl 2<|ay<|sW (gB (n:=(x55.l.length:Int)) (by omega) a5) fun a6 a7 bU b5 b6 b7=>?_
 have bV:=Nat.le_trans (ai.bytesR_le (x55.need (decide ((x55.l.length:Int)≤251)) 5) (x55.l.length:Int)) (RC.clen a5)
 refine gM b6 fun nD b8 b9=>?_
 refine Pl 1<|?_
 have a8:=uz L (u1 b4 b7 im)
 refine L0<|cm (be a8 (Ne.symm f) J) 14 (mG 43 0 0 0 0 0 0 0 0 0 0 0 nS nS (.slice a6 (((x55.need (decide ((x55.l.length:Int)≤251)) 5).bytesR (x55.l.length:Int)).length) a7) nS ((ai.mk b false 0).byteV) 0 0 0 0 nS) fun bW ba a9=>nl<|bn<|tn<|ak 1<|?_
 have M:=us a8 a9
 have ab:=ut a4 M (ac (ni a.size d) (ac (ni (le a.size h.size) g) aC))
 refine ay<|m2 (fb (RC.upd b9 a9 (aa f aF) ab)) fun bX N E=>nt<|sq<|ak 3<|L0<|eH (p:=⟨r,3,none⟩) (v:=vI nD.endC.e) (RC.fld N)<|ah 1<|?_
 have ad:=ud ab E (le a.size d)
 have hs:aj dA 0 c b=bt (aT.mk 43 0 0 0 0 0 0 0 0 0 0 0 [] [] ((x55.need (decide ((x55.l.length:Int)≤251)) 5).bytesR (x55.l.length:Int)) [] ((ai.mk b false 0).byteV) 0 0 0 0 []) nD:=by
   subst b8 a3
   unfold aj dA eS kL j8 ja gP fW g9 dI
   (try simp only[k,z,bj,dQ,dU,dW,dT,dR,reduceIte])
   all_goals rfl
 refine cb ((nD.endC.e != 0)) (fun O=>?_) (fun O=>?_)
 have P:=az O
 refine sq<|Rg 7 (fun w'=>w'.cell? ⟨r,3,none⟩=some (vI nD.endC.e)) fun bY F=>?_
 have ae:=RC.upd N F aF (aH.step (RC.u N) F)
 refine bp (RC.fld ae) fun B=>Rt 0 B<|Rt 1 B<|Rt 2 B<|Rt 3 B<|Rl 4 B (fun _ hs=>hs)<|?_
 refine R0 5 rfl<|gk (ub (ut s (ut x (ui o (u1 M (aJ E F) im)) (ac im (ac im aC))) (ac (nr d) (ac (ni h.size g) aC))) j) mZ fun bZ bb af=>?_
 have al:=ud ad (uz F af) q
 refine bp (RC.fld (RC.upd ae af (aa (Ne.symm (nb (au j) lr d)) aF) al)) fun bc=>Rt 6 bc<|re<|tn<|aV<|bH bb (vI nD.endC.e)<|?_
 rw[hs]
 exact bv P al
 have P:=aA O
 refine bo<|sg<|?_
 refine L0<|bO (be E (Ne.symm f) ba)<|?_
 refine aG (ub (ut s (ut x (ui o (u1 M E im)) (ac im (ac im aC))) (ac (nr d) (ac (ni h.size g) aC))) j) (mG 43 0 0 0 0 0 0 0 0 0 0 0 nS nS (.slice a6 (((x55.need (decide ((x55.l.length:Int)≤251)) 5).bytesR (x55.l.length:Int)).length) a7) nS ((ai.mk b false 0).byteV) 0 0 0 0 nS) fun c2 bd bf=>ah 1<|rt<|bH bd (vI 0)<|?_
 rw[hs]
 exact bE P ⟨_,_,_,_,_,rfl,aS.nil ..,aS.nil ..,b5,aS.nil ..,aS.nil ..,(cY (by omega))⟩ (ud ad bf q)
 have b3:=am z
 refine aD 3<|c1<|ak 1<|ay<|m3 (eN y) fun c3 bh an c4=>Pl 1<|?_
 refine L0<|cm (be an (Ne.symm f) J) 17 (mG 43 0 0 0 0 0 0 0 0 0 0 0 nS nS nS nS ((ai.mk b false 0).byteV) x55.byteV 0 0 0 nS) fun c5 Q ao=>aM 2<|aE Q 17<|Pl 2<|cu 4 [154] 158 (((decide (0<x55.byteV))&&(decide (x55.byteV<5)))) (fun K ap=>?_) ?_
 refine bl 154 ((decide (0<x55.byteV))) (fun C=>?_) (fun C=>?_)
 have bi:=of_decide_eq_true C
 exact Pl 1<|L1<|dX Q 17<|Pl 2<|ce ap (decide (x55.byteV<5)) (by rw[C];rfl)
 have bi:=of_decide_eq_false C
 exact Pl 4<|ce ap false (by rw[C];rfl)
 have R:=us an ao
 have aq:=ut a4 R (ac (ni a.size d) (ac (ni (le a.size h.size) g) aC))
 refine ay<|m2 (bg (((decide (0<x55.byteV))&&(decide (x55.byteV<5)))) 6 (RC.upd bh ao (aa f aF) aq)) fun c6 bm bq=>?_
 refine gM bm fun i br bs=>?_
 refine nt<|go<|Pl 1<|ay<|m3 (eN bs) fun c7 bu bw c8=>Pl 1<|?_
 have ar:=u1 bq bw im
 refine L0<|cm (be ar (Ne.symm f) Q) 20 (mG 43 0 0 0 0 0 0 0 0 0 0 0 nS nS nS nS ((ai.mk b false 0).byteV) x55.byteV 0 0 i.byteV nS) fun c9 bx av=>nl<|bn<|tn<|ak 1<|?_
 have S:=us ar av
 have aw:=ut aq S (ac (ni a.size d) (ac (ni (le a.size h.size) g) aC))
 refine ay<|m2 (fb (RC.upd bu av (aa f aF) aw)) fun ca T G=>nt<|sq<|ak 3<|L0<|eH (p:=⟨r,3,none⟩) (v:=vI (((i.bytesC 1).endC).e)) (RC.fld T)<|ah 1<|?_
 have ax:=ud aw G (le a.size d)
 have hs:aj dA 0 c b=bt (aT.mk 43 0 0 0 0 0 0 0 0 0 0 0 [] [] [] [] ((ai.mk b false 0).byteV) x55.byteV 0 0 i.byteV []) (i.bytesC 1):=by
   subst br a3
   unfold aj dA eS kL j8 ja gP fW g9 dI
   (try simp only[k,z,bj,dQ,dU,dW,dT,dR,reduceIte])
   all_goals rfl
 refine cb (((((i.bytesC 1).endC).e)!=0)) (fun U=>?_) (fun U=>?_)
 have V:=az U
 refine sq<|Rg 7 (fun w'=>w'.cell? ⟨r,3,none⟩=some (vI (((i.bytesC 1).endC).e))) fun cc H=>?_
 have aB:=RC.upd T H aF (aH.step (RC.u T) H)
 refine bp (RC.fld aB) fun D=>Rt 0 D<|Rt 1 D<|Rt 2 D<|Rt 3 D<|Rl 4 D (fun _ hs=>hs)<|?_
 refine R0 5 rfl<|gk (ub (ut s (ut x (ui o (ut R (u1 S (aJ G H) im) (ac im (ac im aC)))) (ac im (ac im aC))) (ac (nr d) (ac (ni h.size g) aC))) j) mZ fun cd bz aI=>?_
 have aL:=ud ax (uz H aI) q
 refine bp (RC.fld (RC.upd aB aI (aa (Ne.symm (nb (au j) lr d)) aF) aL)) fun bA=>Rt 6 bA<|re<|tn<|aV<|bH bz (vI (((i.bytesC 1).endC).e))<|?_
 rw[hs]
 exact bv V aL
 have V:=aA U
 refine bo<|sg<|?_
 refine L0<|bO (be G (Ne.symm f) bx)<|?_
 refine aG (ub (ut s (ut x (ui o (ut R (u1 S G im) (ac im (ac im aC)))) (ac im (ac im aC))) (ac (nr d) (ac (ni h.size g) aC))) j) (mG 43 0 0 0 0 0 0 0 0 0 0 0 nS nS nS nS ((ai.mk b false 0).byteV) x55.byteV 0 0 i.byteV nS) fun cf bB bC=>ah 1<|rt<|bH bB (vI 0)<|?_
 rw[hs]
 exact bE V ⟨_,_,_,_,_,rfl,aS.nil ..,aS.nil ..,(fun _ _ _=>aS.nil ..),aS.nil ..,aS.nil ..,(cY (by omega))⟩ (ud ax bC q)
theorem oE(hcode:B8 c)(hsl:aX m w (.slice A b.length cp) b)(hb:b.length≤1048576) :
    Calls Tryz.prog 113 #[vI 1,vB c,.slice A b.length cp] w (cV (.slice A b.length cp) b (aj dA 1 c b) w):=by
 obtain⟨hcode1,hcode2⟩:=hcode
 have hln:(b.length:Int)≤1048576:=by omega
 refine en 176 Tryz.func113 rfl<|sg<|aK mZ fun Y dP H s a=>ah 1<|sq<|aD 6<|c0<|bo<|sq<|aD 2<|cb ((c != 43)) (fun D=>?_) (fun D=>?_)
 have cA:=az D
 refine ak 1<|aG s mZ fun dS cB cD=>ah 1<|aV<|bH cB (vI 4)<|?_
 exact cC (by unfold aj dA eS kL j8 ja gP fW g9 dI;(try simp only[D,bj,dQ,dU,dW,dT,dR,reduceIte])<;>rfl) (bG (ud a cD H))
 have cA:=aA D
 refine bo<|ak 2<|L0<|da #[.slice A b.length cp,vI 0,.bool false,vI 0] fun r dV f b5 o=>Pl 1<|aM 1<|aK mZ fun E dY q cE b6=>aG cE (mC 43) fun cF cG b9=>?_
 refine aM 1<|?_
 have ba:=ud b6 b9 q
 have Z:=aJ o ba
 have bb:=aJ a Z
 have cH:RC w _ A cp b cF r (ai.mk b false 0):=⟨hsl,bb,(Nat.le_trans a.size f),⟨0,(ub ba b5),Nat.zero_le _,rfl⟩,by omega⟩
 refine ay<|m3 (eN cH) fun dZ cI a7 e0=>Pl 1<|?_
 have g:=nb (au b5) lr q
 refine L0<|cm (be a7 (Ne.symm g) cG) 16 (mG 43 0 0 0 0 0 0 0 0 0 0 0 nS nS nS nS ((ai.mk b false 0).byteV) 0 0 0 0 nS) fun e1 a8 a9=>aM 2<|aE a8 16<|Pl 2<|cu 4 [38] 42 (((((ai.mk b false 0).byteV)==13)||(((ai.mk b false 0).byteV)==14))) (fun K bc=>?_) ?_
 refine bl 38 ((((ai.mk b false 0).byteV)==13)) (fun I=>?_) (fun I=>?_)
 have cJ:=ag I
 exact Pl 4<|ce bc true (by rw[I];rfl)
 have cJ:=am I
 exact Pl 1<|L1<|dX a8 16<|Pl 2<|ce bc (((ai.mk b false 0).byteV)==14) (by rw[I];rfl)
 have a0:=us a7 a9
 have bd:=ut bb a0 (ac (ni a.size f) (ac (ni (le a.size o.size) q) aC))
 refine ay<|m2 (bg (((((ai.mk b false 0).byteV)==13)||(((ai.mk b false 0).byteV)==14))) 8 (RC.upd cI a9 (aa g aF) bd)) fun e2 cK F=>?_
 refine gM cK fun x55 bf J=>?_
 refine nt<|sq<|bk<|ak 1<|?_
 have ab:=be F (Ne.symm g) a8
 refine aE ab 16<|ah 2<|?_
 have bh:=ud bd F (le a.size f)
 refine cb ((((ai.mk b false 0).byteV)==13)) (fun M=>?_) (fun M=>?_)
 have cL:=ag M
 refine ak 1<|ay<|m1 (jS J) fun e3 ad=>?_
 have e4:=RC.clen J
 refine Pl 1<|aM 3<|?_
 refine ay<|m2 (bg ((decide ((x55.l.length:Int)≤251))) 5 (RC.upd J ad aF (aH.step (RC.u J) ad))) fun e5 bi cM=>nt<|go<|Pl 2<|ay<|sW (gB (n:=(x55.l.length:Int)) (by omega) bi) fun bm br e6 cO cP cQ=>?_
 have e7:=Nat.le_trans (ai.bytesR_le (x55.need (decide ((x55.l.length:Int)≤251)) 5) (x55.l.length:Int)) (RC.clen bi)
 refine gM cP fun nD cR cS=>?_
 refine Pl 1<|?_
 have bs:=uz ad (u1 cM cQ im)
 refine L0<|cm (be bs (Ne.symm g) ab) 14 (mG 43 0 0 0 0 0 0 0 0 0 0 0 nS nS (.slice bm (((x55.need (decide ((x55.l.length:Int)≤251)) 5).bytesR (x55.l.length:Int)).length) br) nS ((ai.mk b false 0).byteV) 0 0 0 0 nS) fun e8 cT bu=>nl<|bn<|tn<|ak 1<|?_
 have ae:=us bs bu
 have bw:=ut bh ae (ac (ni a.size f) (ac (ni (le a.size o.size) q) aC))
 refine ay<|m2 (fb (RC.upd cS bu (aa g aF) bw)) fun e9 af a1=>nt<|sq<|ak 3<|L0<|eH (p:=⟨r,3,none⟩) (v:=vI nD.endC.e) (RC.fld af)<|ah 1<|?_
 have bz:=ud bw a1 (le a.size f)
 have hs:aj dA 1 c b=bt (aT.mk 43 0 0 0 0 0 0 0 0 0 0 0 [] [] ((x55.need (decide ((x55.l.length:Int)≤251)) 5).bytesR (x55.l.length:Int)) [] ((ai.mk b false 0).byteV) 0 0 0 0 []) nD:=by
   subst cR bf
   unfold aj dA eS kL j8 ja gP fW g9 dI
   (try simp only[D,M,bj,dQ,dU,dW,dT,dR,reduceIte])
   all_goals rfl
 refine cb ((nD.endC.e != 0)) (fun al=>?_) (fun al=>?_)
 have an:=az al
 refine sq<|Rg 7 (fun w'=>w'.cell? ⟨r,3,none⟩=some (vI nD.endC.e)) fun ea a2=>?_
 have bA:=RC.upd af a2 aF (aH.step (RC.u af) a2)
 refine bp (RC.fld bA) fun N=>Rt 0 N<|Rt 1 N<|Rt 2 N<|Rt 3 N<|Rl 4 N (fun _ hs=>hs)<|?_
 refine R0 5 rfl<|gk (ub (ut Z (ut a0 (ui F (u1 ae (aJ a1 a2) im)) (ac im (ac im aC))) (ac (nr f) (ac (ni o.size q) aC))) s) mZ fun eb cU bB=>?_
 have bD:=ud bz (uz a2 bB) H
 refine bp (RC.fld (RC.upd bA bB (aa (Ne.symm (nb (au s) lr f)) aF) bD)) fun cW=>Rt 6 cW<|re<|tn<|aV<|bH cU (vI nD.endC.e)<|?_
 rw[hs]
 exact bv an bD
 have an:=aA al
 refine bo<|sg<|?_
 refine L0<|bO (be a1 (Ne.symm g) cT)<|?_
 refine aG (ub (ut Z (ut a0 (ui F (u1 ae a1 im)) (ac im (ac im aC))) (ac (nr f) (ac (ni o.size q) aC))) s) (mG 43 0 0 0 0 0 0 0 0 0 0 0 nS nS (.slice bm (((x55.need (decide ((x55.l.length:Int)≤251)) 5).bytesR (x55.l.length:Int)).length) br) nS ((ai.mk b false 0).byteV) 0 0 0 0 nS) fun ec cX cZ=>ah 1<|rt<|bH cX (vI 0)<|?_
 rw[hs]
 exact bE an ⟨_,_,_,_,_,rfl,aS.nil ..,aS.nil ..,cO,aS.nil ..,aS.nil ..,(cY (by omega))⟩ (ud bz cZ H)
 have cL:=am M
 refine aD 3<|c0<|ak 1<|ay<|m3 (eN J) fun ed d0 ao ee=>Pl 1<|?_
 refine L0<|cm (be ao (Ne.symm g) ab) 17 (mG 43 0 0 0 0 0 0 0 0 0 0 0 nS nS nS nS ((ai.mk b false 0).byteV) x55.byteV 0 0 0 nS) fun ef ap ar=>aM 2<|aE ap 17<|Pl 2<|cu 4 [51] 55 (((decide (0<x55.byteV))&&(decide (x55.byteV<5)))) (fun K bF=>?_) ?_
 refine bl 51 ((decide (0<x55.byteV))) (fun O=>?_) (fun O=>?_)
 have d1:=of_decide_eq_true O
 exact Pl 1<|L1<|dX ap 17<|Pl 2<|ce bF (decide (x55.byteV<5)) (by rw[O];rfl)
 have d1:=of_decide_eq_false O
 exact Pl 4<|ce bF false (by rw[O];rfl)
 have bI:=us ao ar
 have bJ:=ut bh bI (ac (ni a.size f) (ac (ni (le a.size o.size) q) aC))
 refine ay<|m2 (bg (((decide (0<x55.byteV))&&(decide (x55.byteV<5)))) 6 (RC.upd d0 ar (aa g aF) bJ)) fun eg d2 bK=>?_
 refine gM d2 fun j d3 d4=>?_
 refine aM 1<|ay<|m3 (eN d4) fun eh d5 bL ei=>Pl 1<|?_
 have bM:=u1 bK bL im
 refine L0<|cm (be bM (Ne.symm g) ap) 18 (mG 43 0 0 0 0 0 0 0 0 0 0 0 nS nS nS nS ((ai.mk b false 0).byteV) x55.byteV j.byteV 0 0 nS) fun ej bN av=>aM 1<|aE bN 18<|L0<|Oe (vB (Int.tmod j.byteV 128)) (vB (j.byteV%128)) (congrArg (Value.int .u8) (Int.tmod_eq_emod_of_nonneg (by omega)))<|Pl 1<|aM 4<|cu 3 [66] 69 (((decide (1≤(j.byteV%128)))&&(decide ((j.byteV%128)≤3)))) (fun K bP=>?_) ?_
 refine bl 66 ((decide (1≤(j.byteV%128)))) (fun P=>?_) (fun P=>?_)
 have d6:=of_decide_eq_true P
 exact Pl 3<|ce bP (decide ((j.byteV%128)≤3)) (by rw[P];rfl)
 have d6:=of_decide_eq_false P
 exact Pl 3<|ce bP false (by rw[P];rfl)
 have bQ:=us bM av
 have bR:=ut bJ bQ (ac (ni a.size f) (ac (ni (le a.size o.size) q) aC))
 refine ay<|m2 (bg (((decide (1≤(j.byteV%128)))&&(decide ((j.byteV%128)≤3)))) 6 (RC.upd d5 av (aa g aF) bR)) fun ek d7 bS=>?_
 refine gM d7 fun k d8 db=>?_
 refine aM 1<|ay<|m3 (eN db) fun el dc bT em=>Pl 1<|?_
 have bU:=u1 bS bT im
 refine L0<|cm (be bU (Ne.symm g) bN) 19 (mG 43 0 0 0 0 0 0 0 0 0 0 0 nS nS nS nS ((ai.mk b false 0).byteV) x55.byteV j.byteV k.byteV 0 nS) fun eo aw aI=>aM 2<|aE aw 19<|Pl 2<|cu 4 [78] 82 (((k.byteV==0)||(k.byteV==255))) (fun K bW=>?_) ?_
 refine bl 78 ((k.byteV==0)) (fun Q=>?_) (fun Q=>?_)
 have dd:=ag Q
 exact Pl 4<|ce bW true (by rw[Q];rfl)
 have dd:=am Q
 exact Pl 1<|L1<|dX aw 19<|Pl 2<|ce bW (k.byteV==255) (by rw[Q];rfl)
 have bX:=us bU aI
 have bY:=ut bR bX (ac (ni a.size f) (ac (ni (le a.size o.size) q) aC))
 refine ay<|m2 (bg (((k.byteV==0)||(k.byteV==255))) 6 (RC.upd dc aI (aa g aF) bY)) fun ep de bZ=>?_
 refine gM de fun t df dh=>?_
 refine aM 1<|ay<|m3 (eN dh) fun eq di c1 er=>Pl 1<|?_
 have c2:=u1 bZ c1 im
 refine L0<|cm (be c2 (Ne.symm g) aw) 20 (mG 43 0 0 0 0 0 0 0 0 0 0 0 nS nS nS nS ((ai.mk b false 0).byteV) x55.byteV j.byteV k.byteV t.byteV nS) fun es a3 aL=>aM 2<|aE a3 20<|Pl 2<|cu 4 [91] 95 (((t.byteV==0)||(k.byteV==255))) (fun K c3=>?_) ?_
 refine bl 91 ((t.byteV==0)) (fun S=>?_) (fun S=>?_)
 have dj:=ag S
 exact Pl 4<|ce c3 true (by rw[S];rfl)
 have dj:=am S
 exact Pl 1<|L1<|dX a3 19<|Pl 2<|ce c3 (k.byteV==255) (by rw[S];rfl)
 have c4:=us c2 aL
 have c5:=ut bY c4 (ac (ni a.size f) (ac (ni (le a.size o.size) q) aC))
 refine ay<|m2 (bg (((t.byteV==0)||(k.byteV==255))) 6 (RC.upd di aL (aa g aF) c5)) fun et dk aN=>?_
 refine gM dk fun d dl dm=>?_
 refine aM 1<|ay<|m3 (eN dm) fun eu dn aO ev=>bq d.byteV<|Pl 1<|aM 4<|cu 4 [103] 107 (((d.byteV==1)||(x55.byteV != 4))) (fun K c6=>?_) ?_
 refine bl 103 ((d.byteV==1)) (fun T=>?_) (fun T=>?_)
 have dp:=ag T
 exact Pl 4<|ce c6 true (by rw[T];rfl)
 have dp:=am T
 refine Pl 1<|?_
 exact L1<|dX (be (u1 aN aO im) (Ne.symm g) a3) 17<|Pl 2<|ce c6 (x55.byteV != 4) (by rw[T];rfl)
 refine ay<|m2 (bg (((d.byteV==1)||(x55.byteV != 4))) 5 dn) fun dq dr c7=>?_
 refine gM dr fun U ds dt=>?_
 refine cN 1<|bk<|?_
 have hKr:0≤d.byteV∧d.byteV<256:=by omega
 have aP:=u1 aN (u1 aO c7 im) im
 refine je (fun x=>[(6,vP Y 0),(7,vI 0),(8,vP r 0),(9,vP E 0),(12,vI d.byteV),(13,vI (x.1:Int))]) (fun(x:Nat × ai × List Obj × Option Addr × Nat) w'=>aH [] w w'∧dq.heap.size≤w'.heap.size∧w'.heap[Y]? = some (.cells mZ 45 (0,0))∧RC w m A cp b w' r x.2.1∧w'.heap[E]? = some (.cells (mG 43 0 0 0 0 0 0 0 0 0 0 0 nS nS nS nS ((ai.mk b false 0).byteV) x55.byteV j.byteV k.byteV t.byteV (.slice x.2.2.2.1 x.2.2.1.length x.2.2.2.2)) 45 (0,0))∧b7 w.heap.size 100 2 (rJ (.slice A b.length cp) b) w' (.slice x.2.2.2.1 x.2.2.1.length x.2.2.2.2) x.2.2.1∧(x.1≤d.byteV.toNat)∧(x.2.2.1.length=x.1)∧(eR (d.byteV.toNat-x.1) x.2.1 x.2.2.1=eR d.byteV.toNat U [])) (fun x=>d.byteV.toNat-x.1) (0,U,[],none,0) ⟨(ud c5 aP (le a.size f)),lr,(ub (ut Z (ut a0 (ui F (ut bI (ut bQ (ut bX (u1 c4 aP im) (ac im (ac im aC))) (ac im (ac im aC))) (ac im (ac im aC)))) (ac im (ac im aC))) (ac (nr f) (ac (ni o.size q) aC))) s),dt,(be aP (Ne.symm g) a3),(b7.nil w.heap.size _ _ (rJ (.slice A b.length cp) b) _),(by(try dsimp only);omega),rfl,rfl⟩ ?_
 rintro⟨i,C,L,B,cq⟩ a4 ⟨c8,c9,du,dv,dw,dx,dy,dz,dB⟩
 refine ji [(6,vP Y 0),(7,vI 0),(8,vP r 0),(9,vP E 0),(12,vI d.byteV),(13,vI (i:Int))] ?_
 have V:a4.heap[Y]? = some (.cells mZ 45 (0,0)):=du
 have z:RC w m A cp b a4 r C:=dv
 have hlC:=RC.clen z
 have hrC:fa C:=RC.rng z
 have hbv:=dg hrC
 have hbv2:=dg (jH hrC (n:=1))
 have ca:a4.heap[E]? = some (.cells (mG 43 0 0 0 0 0 0 0 0 0 0 0 nS nS nS nS ((ai.mk b false 0).byteV) x55.byteV j.byteV k.byteV t.byteV (.slice B L.length cq)) 45 (0,0)):=dw
 have y:b7 w.heap.size 100 2 (rJ (.slice A b.length cp) b) a4 (.slice B L.length cq) L:=dx
 have ew:i≤d.byteV.toNat:=dy
 have ex:L.length=i:=dz
 have cc:eR (d.byteV.toNat-i) C L=eR d.byteV.toNat U []:=dB
 refine sq<|aD 3<|cb ((decide ((i:Int)<d.byteV))) (fun a5=>?_) (fun a5=>?_)
 have dC:=of_decide_eq_true a5
 refine bo<|sq<|bk<|ak 1<|ay<|m3 (eN z) fun ey dD aQ ez=>Pl 1<|aM 1<|ay<|m3 (eN dD) fun eA cd aR eB=>?_
 refine bq ((C.bytesC 1).byteV)<|Pl 1<|aM 2<|ay<|sW (gB (n:=(C.bytesC 1).byteV) (by omega) cd) fun dE dF eC dG cf aW=>?_
 have eD:=Nat.le_trans (ai.bytesR_le ((C.bytesC 1).bytesC 1) ((C.bytesC 1).byteV)) (RC.clen cd)
 refine ah 1<|go<|Pl 1<|?_
 have aY:=u1 aQ (u1 aR aW im) im
 have aZ:=be aY (Ne.symm g) ca
 refine aE aZ 21<|Pl 3<|L0<|d9 (m:=1) (e:=100) #[vB C.byteV,.slice dE ((((C.bytesC 1).bytesC 1).bytesR ((C.bytesC 1).byteV)).length) dF] fun eE eF eG dH G=>?_
 have cg:=RC.upd cf G aF (aH.step (RC.u cf) G)
 have dJ:=mb (R:=rJ (.slice A b.length cp) b) (x:=(Obj.mk C.byteV (((C.bytesC 1).bytesC 1).bytesR ((C.bytesC 1).byteV)))) dH rfl ⟨_,_,_,rfl,dG,b8 (x:=C.byteV) (by omega)⟩
 have ch:=aJ aY G
 have ci:=ax y ch (fun x hx=>(aa (fun e=>(RC.nrow z y (by decide)) (e▸hx)) aF)) (fun _ _ h=>h)
 refine L0<|j9 (xs:=L) (ys:=([(Obj.mk C.byteV (((C.bytesC 1).bytesC 1).bytesR ((C.bytesC 1).byteV)))])) (.agg #[vB 0,nS]) 2 32 ci dJ (by simp) rJ.ones (fun _ _ _ _ h=>h) (by(try simp only[bV,aB]);omega) (le (le (le (le (le (le (le (le (le (le (le (le (le (le (le (le (le (le (le (le (le (le (le (le (le a.size o.size) b6.size) b9.size) a7.size) a9.size) F.size) ao.size) ar.size) bK.size) bL.size) av.size) bS.size) bT.size) aI.size) bZ.size) c1.size) aL.size) aN.size) aO.size) c7.size) c9) aQ.size) aR.size) aW.size) G.size) fun cj ck eI cl b0=>Pl 1<|?_
 have cn:=aH.blk (ut (aH.mono (S':=(ob B++[])) G aC) b0 (aq il aC)) (bC (dM aZ (ax y aY (fun x hx=>(aa (fun e=>(RC.nrow z y (by decide)) (e▸hx)) aF)) (fun _ _ h=>h)) (by decide)) aF) aZ
 refine L0<|cm cn 21 (mG 43 0 0 0 0 0 0 0 0 0 0 0 nS nS nS nS ((ai.mk b false 0).byteV) x55.byteV j.byteV k.byteV t.byteV (.slice cj ((L++[(Obj.mk C.byteV (((C.bytesC 1).bytesC 1).bytesR ((C.bytesC 1).byteV)))]).length) ck)) fun eJ dK b1=>nl<|bn<|tn<|go<|Pl 1<|bq ((i:Int)+1)<|Pl 1<|nl<|?_
 have co:=u1 (aH.mono (S':=(ob B++(E :: []))) b0 (aq il aC)) b1 im
 have cr:=ut (aH.mono (S':=(r :: (ob B++(E :: [])))) ch (ac im aC)) co (aq il (ac im aC))
 have cs:=ut c8 cr (ac (ni a.size f) (aq (aU y lr) (ac (ni (le a.size o.size) q) aC)))
 exact gL ((i+1),(((C.bytesC 1).bytesC 1).bytesC ((C.bytesC 1).byteV)),(L++[(Obj.mk C.byteV (((C.bytesC 1).bytesC 1).bytesR ((C.bytesC 1).byteV)))]),cj,ck) ⟨cs,(le (le (le (le (le (le c9 aQ.size) aR.size) aW.size) G.size) b0.size) b1.size),(aH.blk cr (aa (nb (au s) lr f) (bC (dM V y (by decide)) (aa (nb (au s) o.size q) aF))) V),(RC.upd cg co (bC (RC.nrow cg ci (by decide)) (aa g aF)) cs),dK,(ax cl b1 (fun x hx=>(aa (fun e=>(dM cn cl (by decide)) (e▸hx)) aF)) (fun _ _ h=>h)),(by(try dsimp only);omega),(by(try dsimp only);simp only[bV];omega),(by(try dsimp only);rw[← cc,show d.byteV.toNat-i=(d.byteV.toNat-(i+1))+1 from by omega];rfl)⟩ (by omega)
 have dC:=of_decide_eq_false a5
 refine xt<|tx<|tx<|bx<|bn<|tn<|ak 1<|?_
 have hR:=zd cc (by omega)
 refine ay<|m2 (fb z) fun eK b2 W=>nt<|sq<|ak 3<|L0<|eH (p:=⟨r,3,none⟩) (v:=vI C.endC.e) (RC.fld b2)<|ah 1<|?_
 have ct:=ud c8 W (le a.size f)
 have hs:aj dA 1 c b=bt (aT.mk 43 0 0 0 0 0 0 0 0 0 0 0 [] [] [] [] ((ai.mk b false 0).byteV) x55.byteV j.byteV k.byteV t.byteV (eR d.byteV.toNat U []).2) (eR d.byteV.toNat U []).1:=by
   subst ds dl df d8 d3 bf
   unfold aj dA eS kL j8 ja gP fW g9 dI
   (try simp only[D,M,a5,bj,dQ,dU,dW,dT,dR,reduceIte])
   all_goals rfl
 refine cb ((C.endC.e != 0)) (fun b3=>?_) (fun b3=>?_)
 have b4:=az b3
 refine sq<|Rg 7 (fun w'=>w'.cell? ⟨r,3,none⟩=some (vI C.endC.e)) fun eL a6=>?_
 have cv:=RC.upd b2 a6 aF (aH.step (RC.u b2) a6)
 refine bp (RC.fld cv) fun X=>Rt 0 X<|Rt 1 X<|Rt 2 X<|Rt 3 X<|Rl 4 X (fun _ hs=>hs)<|?_
 have cw:=nb (au s) lr f
 refine R0 5 rfl<|gk (be (aJ W a6) cw V) mZ fun eM dL cx=>?_
 have cy:=ud ct (uz a6 cx) H
 refine bp (RC.fld (RC.upd cv cx (aa (Ne.symm cw) aF) cy)) fun dN=>Rt 6 dN<|re<|tn<|aV<|bH dL (vI C.endC.e)<|?_
 rw[hR] at hs
 rw[hs]
 exact bv b4 cy
 have b4:=aA b3
 refine bo<|sg<|?_
 refine L0<|bO (be W (Ne.symm g) ca)<|?_
 refine aG (be W (nb (au s) lr f) V) (mG 43 0 0 0 0 0 0 0 0 0 0 0 nS nS nS nS ((ai.mk b false 0).byteV) x55.byteV j.byteV k.byteV t.byteV (.slice B L.length cq)) fun eO dO cz=>ah 1<|rt<|bH dO (vI 0)<|?_
 rw[hR] at hs
 rw[hs]
 exact bE b4 ⟨_,_,_,_,_,rfl,aS.nil ..,aS.nil ..,(fun _ _ _=>aS.nil ..),aS.nil ..,((ax y (us W cz) (fun x hx=>(aa (fun e=>(RC.nrow z y (by decide)) (e▸hx)) (aa (fun e=>(dM V y (by decide)) (e▸hx)) aF))) (fun _ _ h=>h))).rd,(cY (by omega))⟩ (ud ct cz H)
theorem oa(hcode:B8 c)(hsl:aX m w (.slice A b.length cp) b)(hb:b.length≤1048576)(hd:¬ (dir=0∨dir=1)) :
    Calls Tryz.prog 113 #[vI dir,vB c,.slice A b.length cp] w (cV (.slice A b.length cp) b (aj dA dir c b) w):=by
 obtain⟨hcode1,hcode2⟩:=hcode
 have hln:(b.length:Int)≤1048576:=by omega
 have e0:(dir != 0)=true:=by simp;omega
 have e1:(dir != 1)=true:=by simp;omega
 refine en 176 Tryz.func113 rfl<|sg<|aK mZ fun g h a d e=>ah 1<|sq<|ak 3<|sy 19 e0<|Pl 3<|nl<|tn<|ct e1<|ak 1<|aG d mZ fun i eP f=>ah 1<|aV<|bH eP (vI 1)<|?_
 exact cC (by unfold aj dA eS kL j8 ja gP fW g9 dI;(try simp only[e0,e1,bj,dQ,dU,dW,dT,dR,reduceIte,hd])<;>rfl) (bG (ud e f a))
theorem mU(hc:B8 c)(h:aX m w v b)(hb:b.length≤1048576) :
    Calls Tryz.prog 113 #[.int .i64 dir,.int .u8 c,v] w (cV v b (aj bP dir c b) w):=by
  rw[← rh (aX.range h)]
  obtain⟨A,cp,rfl,_,_⟩:=h.shape
  by_cases h0:dir=0
  · subst h0;exact oI hc h hb
  by_cases h1:dir=1
  · subst h1;exact oE hc h hb
  exact oa hc h hb (by omega)
open Go.RowKit
theorem xI:Calls Tryz.prog 164 #[vB x] w (cc (.bool (kB x)) w):=by
 refine en 37 Tryz.func164 rfl<|ak 1<|aM 3<|cu 3 [5] 8 (((decide (1≤x))&&(decide (x≤8)))) (fun K i=>?_) ?_
 refine bl 5 ((decide (1≤x))) (fun a=>?_) (fun a=>?_)
 have q:=of_decide_eq_true a
 exact Pl 3<|ce i (decide (x≤8)) (by rw[a];rfl)
 have q:=of_decide_eq_false a
 exact Pl 3<|ce i false (by rw[a];rfl)
 refine Pl 1<|cu 3 [9] 12 ((((decide (1≤x))&&(decide (x≤8)))||(x==11))) (fun K j=>?_) ?_
 refine bl 9 (((decide (1≤x))&&(decide (x≤8)))) (fun d=>?_) (fun d=>?_)
 exact Pl 3<|ce j true (by rw[d];rfl)
 exact Pl 3<|ce j (x==11) (by rw[d];rfl)
 refine Pl 1<|cu 3 [13] 16 (((((decide (1≤x))&&(decide (x≤8)))||(x==11))||(x==12))) (fun K k=>?_) ?_
 refine bl 13 ((((decide (1≤x))&&(decide (x≤8)))||(x==11))) (fun e=>?_) (fun e=>?_)
 exact Pl 3<|ce k true (by rw[e];rfl)
 exact Pl 3<|ce k (x==12) (by rw[e];rfl)
 refine Pl 1<|cu 7 [17] 24 ((((((decide (1≤x))&&(decide (x≤8)))||(x==11))||(x==12))||((decide (15≤x))&&(decide (x≤17))))) (fun K l=>?_) ?_
 refine bl 17 (((((decide (1≤x))&&(decide (x≤8)))||(x==11))||(x==12))) (fun f=>?_) (fun f=>?_)
 exact Pl 7<|ce l true (by rw[f];rfl)
 refine Pl 3<|cu 3 [20] 23 (((decide (15≤x))&&(decide (x≤17)))) (fun K m=>?_) ?_
 refine bl 20 ((decide (15≤x))) (fun b=>?_) (fun b=>?_)
 have r:=of_decide_eq_true b
 exact Pl 3<|ce m (decide (x≤17)) (by rw[b];rfl)
 have r:=of_decide_eq_false b
 exact Pl 3<|ce m false (by rw[b];rfl)
 exact Pl 1<|ce l ((decide (15≤x))&&(decide (x≤17))) (by rw[f];rfl)
 refine Pl 1<|cu 7 [25] 32 (((((((decide (1≤x))&&(decide (x≤8)))||(x==11))||(x==12))||((decide (15≤x))&&(decide (x≤17))))||((decide (20≤x))&&(decide (x≤24))))) (fun K n=>?_) ?_
 refine bl 25 ((((((decide (1≤x))&&(decide (x≤8)))||(x==11))||(x==12))||((decide (15≤x))&&(decide (x≤17))))) (fun g=>?_) (fun g=>?_)
 exact Pl 7<|ce n true (by rw[g];rfl)
 refine Pl 3<|cu 3 [28] 31 (((decide (20≤x))&&(decide (x≤24)))) (fun K o=>?_) ?_
 refine bl 28 ((decide (20≤x))) (fun c=>?_) (fun c=>?_)
 have s:=of_decide_eq_true c
 exact Pl 3<|ce o (decide (x≤24)) (by rw[c];rfl)
 have s:=of_decide_eq_false c
 exact Pl 3<|ce o false (by rw[c];rfl)
 exact Pl 1<|ce n ((decide (20≤x))&&(decide (x≤24))) (by rw[g];rfl)
 refine Pl 1<|cu 3 [33] 36 ((((((((decide (1≤x))&&(decide (x≤8)))||(x==11))||(x==12))||((decide (15≤x))&&(decide (x≤17))))||((decide (20≤x))&&(decide (x≤24))))||(x==43))) (fun K p=>?_) ?_
 refine bl 33 (((((((decide (1≤x))&&(decide (x≤8)))||(x==11))||(x==12))||((decide (15≤x))&&(decide (x≤17))))||((decide (20≤x))&&(decide (x≤24))))) (fun h=>?_) (fun h=>?_)
 exact Pl 3<|ce p true (by rw[h];rfl)
 exact Pl 3<|ce p (x==43) (by rw[h];rfl)
 exact ah 1<|rt<|rr (.bool (((((((decide (1≤x))&&(decide (x≤8)))||(x==11))||(x==12))||((decide (15≤x))&&(decide (x≤17))))||((decide (20≤x))&&(decide (x≤24))))||(x==43)))<|cC (by unfold kB;(try simp only[bj])<;>rfl) ⟨rfl,(aH.refl [] _)⟩
open Go.RowKit
def jR (b:List Int) : aT × Int :=
  if decide ((b.length:Int)<1) then (aT.zero,2)
  else if decide (b.getD 0 0-128<0) then (aT.zero,4)
  else if !(kB ((b.getD 0 0-128)%256)) then (aT.zero,4)
  else if decide ((b.length:Int)<2) then (aT.zero,2)
  else if !(d8 (b.getD 1 0)) then (aT.zero,6)
  else if decide (2<(b.length:Int)) then (aT.zero,3)
  else (hY ((b.getD 0 0-128)%256) (b.getD 1 0),0)
theorem D4:kB x=ef x:=by
  unfold kB ef
  rw[Bool.eq_iff_iff]
  simp only[decide_eq_true_eq,List.mem_cons,List.not_mem_nil,or_false,Bool.or_eq_true,Bool.and_eq_true,beq_iff_eq]
  omega
theorem xT(b:List Int) : jR b=fg b:=by
  unfold jR fg
  rw[D4,show decide ((b.length:Int)<1)=((b.length:Int)==0) from by rw[Bool.eq_iff_iff];simp only[decide_eq_true_eq,beq_iff_eq];omega,show decide (b.getD 0 0-128<0)=decide (b.getD 0 0<128) from by rw[Bool.eq_iff_iff];simp only[decide_eq_true_eq];omega]
  by_cases h:b.length=0
  · rw[show((b.length:Int)==0)=true from by rw[beq_iff_eq];omega];rfl
  · rw[show decide ((b.length:Int)<2)=((b.length:Int)==1) from by rw[Bool.eq_iff_iff];simp only[decide_eq_true_eq,beq_iff_eq];omega]
theorem sr(hsl:aX m w (.slice A b.length cp) b)(hb:b.length≤1048576) :
    Calls Tryz.prog 108 #[.slice A b.length cp] w (cV (.slice A b.length cp) b (jR b) w):=by
 have hln:(b.length:Int)≤1048576:=by omega
 refine en 46 Tryz.func108 rfl<|sg<|aK mZ fun a3 a4 e f n=>ah 1<|sq<|aD 3<|cb ((decide ((b.length:Int)<1))) (fun a=>?_) (fun a=>?_)
 have u:=of_decide_eq_true a
 refine ak 1<|aG f mZ fun a5 z B=>ah 1<|aV<|bH z (vI 2)<|?_
 exact cC (y:=(aT.zero,2)) (by unfold jR;(try simp only[a,bj,Bool.not_eq_true,reduceIte])<;>rfl) (bG (ud n B e))
 have u:=of_decide_eq_false a
 refine bo<|ak 1<|?_
 have s:=aX.old hsl n
 refine ft (aX.at_ s 0 (by omega)) fun C D E F a6=>L0<|l9 b.length 0 E (by omega)<|L0<|eH (p:=⟨C,D+0,none⟩) (v:=vB (b.getD 0 0)) F<|bq (b.getD 0 0)<|bq ((b.getD 0 0)-128)<|ah 1<|sq<|aD 2<|cb ((decide (((b.getD 0 0)-128)<0))) (fun c=>?_) (fun c=>?_)
 have G:=of_decide_eq_true c
 refine ak 1<|aG f mZ fun a7 H I=>ah 1<|aV<|bH H (vI 4)<|?_
 exact cC (y:=(aT.zero,4)) (by unfold jR;(try simp only[a,c,bj,Bool.not_eq_true,reduceIte])<;>rfl) (bG (ud n I e))
 have G:=of_decide_eq_false c
 refine bo<|ak 2<|ay<|m1 (xI (x:=(((b.getD 0 0)-128)%256))) fun a8 g=>ah 1<|sq<|ak 2<|nl<|tn<|?_
 have q:=aJ n g
 refine cb ((!(kB (((b.getD 0 0)-128)%256)))) (fun d=>?_) (fun d=>?_)
 have i:(kB (((b.getD 0 0)-128)%256))=false:=by simpa using d
 refine ak 1<|?_
 refine aG (ub g f) mZ fun a9 J K=>ah 1<|aV<|bH J (vI 4)<|?_
 exact cC (y:=(aT.zero,4)) (by unfold jR;(try simp only[a,c,d,i,bj,Bool.not_eq_true,reduceIte])<;>rfl) (bG (ud q K e))
 have i:(kB (((b.getD 0 0)-128)%256))=true:=by simpa using d
 refine bo<|sq<|aD 3<|cb ((decide ((b.length:Int)<2))) (fun h=>?_) (fun h=>?_)
 have L:=of_decide_eq_true h
 refine ak 1<|?_
 refine aG (ub g f) mZ fun aa M N=>ah 1<|aV<|bH M (vI 2)<|?_
 exact cC (y:=(aT.zero,2)) (by unfold jR;(try simp only[a,c,d,i,h,bj,Bool.not_eq_true,reduceIte])<;>rfl) (bG (ud q N e))
 have L:=of_decide_eq_false h
 refine bo<|ak 1<|?_
 have t:=aX.old s g
 refine ft (aX.at_ t 1 (by omega)) fun O P Q R ab=>L0<|l9 b.length 1 Q (by omega)<|L0<|eH (p:=⟨O,P+1,none⟩) (v:=vB (b.getD 1 0)) R<|ay<|m1 (za (x:=(b.getD 1 0)) (by omega)) fun ac k=>ah 1<|sq<|aD 2<|?_
 have r:=aJ q k
 refine cb ((!(d8 (b.getD 1 0)))) (fun j=>?_) (fun j=>?_)
 have o:(d8 (b.getD 1 0))=false:=by simpa using j
 refine ak 1<|?_
 refine aG (ub (aJ g k) f) mZ fun ad S T=>ah 1<|aV<|bH S (vI 6)<|?_
 exact cC (y:=(aT.zero,6)) (by unfold jR;(try simp only[a,c,d,i,h,j,o,bj,Bool.not_eq_true,reduceIte])<;>rfl) (bG (ud r T e))
 have o:(d8 (b.getD 1 0))=true:=by simpa using j
 refine bo<|sq<|aD 3<|cb ((decide (2<(b.length:Int)))) (fun l=>?_) (fun l=>?_)
 have U:=of_decide_eq_true l
 refine ak 1<|?_
 refine aG (ub (aJ g k) f) mZ fun ae V W=>ah 1<|aV<|bH V (vI 3)<|?_
 exact cC (y:=(aT.zero,3)) (by unfold jR;(try simp only[a,c,d,i,h,j,o,l,bj,Bool.not_eq_true,reduceIte])<;>rfl) (bG (ud r W e))
 have U:=of_decide_eq_false l
 refine bo<|ak 3<|?_
 refine ft (aX.at_ (aX.old t k) 1 (by omega)) fun X Y Z a0 af=>L0<|l9 b.length 1 Z (by omega)<|L0<|eH (p:=⟨X,Y+1,none⟩) (v:=vB (b.getD 1 0)) a0<|Pl 1<|?_
 refine aG (ub (aJ g k) f) (mG (((b.getD 0 0)-128)%256) (b.getD 1 0) 0 0 0 0 0 0 0 0 0 0 nS nS nS nS 0 0 0 0 0 nS) fun ag a1 a2=>ah 1<|rt<|bH a1 (vI 0)<|?_
 exact cC (y:=((aT.mk (((b.getD 0 0)-128)%256) (b.getD 1 0) 0 0 0 0 0 0 0 0 0 0 [] [] [] [] 0 0 0 0 0 []),0)) (by unfold jR;(try simp only[a,c,d,i,h,j,o,l,bj,Bool.not_eq_true,reduceIte])<;>rfl) ⟨_,rfl,⟨_,_,_,_,_,rfl,aS.nil ..,aS.nil ..,(fun _ _ _=>aS.nil ..),aS.nil ..,aS.nil ..,(cY (by omega))⟩,(ud r a2 e)⟩
theorem nG(h:aX m w v b)(hb:b.length≤1048576) : Calls Tryz.prog 108 #[v] w (cV v b (fg b) w):=by
  obtain⟨A,cp,rfl,_,_⟩:=h.shape
  rw[← xT]
  exact sr h hb
open Go.RowKit
theorem j7{x y:aT × Int}(h:x=y)  {e:Ending}    (k:cV v0 b y w e w') : cV v0 b x w e w':=by rw[h];exact k
theorem kJ(hc:B8 c)(h:aX m w v b)(hb:b.length≤1048576) :
    Calls Tryz.prog 109 #[.int .i64 dir,.int .u8 c,v] w (cV v b (aj aO dir c b) w):=by
  obtain⟨A,cp,rfl,_,_⟩:=h.shape
  by_cases h0:dir=0
  · subst h0;exact n7 hc h hb
  by_cases h1:dir=1
  · subst h1;exact nE hc h hb
  exact mL hc h hb (by omega)
theorem lK(hc:B8 c)(h:aX m w v b)(hb:b.length≤1048576) :
    Calls Tryz.prog 110 #[.int .i64 dir,.int .u8 c,v] w (cV v b (aj aW dir c b) w):=by
  obtain⟨A,cp,rfl,_,_⟩:=h.shape
  by_cases h0:dir=0
  · subst h0;exact ow hc h hb
  by_cases h1:dir=1
  · subst h1;exact o7 hc h hb
  exact oe hc h hb (by omega)
theorem lQ(hc:B8 c)(h:aX m w v b)(hb:b.length≤1048576) :
    Calls Tryz.prog 111 #[.int .i64 dir,.int .u8 c,v] w (cV v b (aj bf dir c b) w):=by
  obtain⟨A,cp,rfl,_,_⟩:=h.shape
  rw[← pS]
  by_cases h0:dir=0
  · subst h0;exact o6 hc h hb
  by_cases h1:dir=1
  · subst h1;exact oq hc h hb
  exact oG hc h hb (by omega)
theorem rI(hsl:aX m w (.slice A b.length cp) b)(hb:b.length≤1048576) :
    Calls Tryz.prog 78 #[vI dir,.slice A b.length cp] w (cV (.slice A b.length cp) b (cw dir b) w):=by
 have hln:(b.length:Int)≤1048576:=by omega
 refine en 87 Tryz.func78 rfl<|sg<|aK mZ fun bN bQ u d i=>ah 1<|sq<|ak 3<|cu 3 [11] 14 (((dir != 0)&&(dir != 1))) (fun K U=>?_) ?_
 refine bl 11 ((dir != 0)) (fun D=>?_) (fun D=>?_)
 have aR:=az D
 exact Pl 3<|ce U (dir != 1) (by rw[D];rfl)
 have aR:=aA D
 exact Pl 3<|ce U false (by rw[D];rfl)
 refine nt<|cb (((dir != 0)&&(dir != 1))) (fun f=>?_) (fun f=>?_)
 have aS:=(bB f).1
 have aU:=(bB f).2
 refine ak 1<|aG d mZ fun bR aY aZ=>ah 1<|aV<|bH aY (vI 1)<|?_
 have hs:iu dir b=(aT.zero,1):=by
   unfold iu
   (try simp only[f,aS,aU,bj,gf,reduceIte])
   all_goals rfl
 rw[← gi]
 refine j7 hs ?_
 exact bG (ud i aZ u)
 refine bo<|sq<|aD 3<|cb (((b.length:Int)==0)) (fun g=>?_) (fun g=>?_)
 have b0:=ag g
 refine ak 1<|aG d mZ fun bS b1 b2=>ah 1<|aV<|bH b1 (vI 2)<|?_
 have hs:iu dir b=(aT.zero,2):=by
   unfold iu
   (try simp only[f,g,bj,gf,reduceIte])
   all_goals rfl
 rw[← gi]
 refine j7 hs ?_
 exact bG (ud i b2 u)
 have b0:=am g
 refine bo<|sq<|aD 3<|cb ((decide (253<(b.length:Int)))) (fun j=>?_) (fun j=>?_)
 have b3:=of_decide_eq_true j
 refine ak 1<|aG d mZ fun bT b4 b5=>ah 1<|aV<|bH b4 (vI 3)<|?_
 have hs:iu dir b=(aT.zero,3):=by
   unfold iu
   (try simp only[f,g,j,bj,gf,reduceIte])
   all_goals rfl
 rw[← gi]
 refine j7 hs ?_
 exact bG (ud i b5 u)
 have b3:=of_decide_eq_false j
 refine bo<|ak 1<|?_
 have E:=aX.old hsl i
 refine ft (aX.at_ E 0 (by omega)) fun b7 b9 ba bb bU=>L0<|l9 b.length 0 ba (by omega)<|L0<|eH (p:=⟨b7,b9+0,none⟩) (v:=vB (b.getD 0 0)) bb<|ah 1<|sq<|ak 3<|cu 3 [29] 32 (((decide (128≤(b.getD 0 0)))&&(dir==1))) (fun K V=>?_) ?_
 refine bl 29 ((decide (128≤(b.getD 0 0)))) (fun F=>?_) (fun F=>?_)
 have bc:=of_decide_eq_true F
 exact Pl 3<|ce V (dir==1) (by rw[F];rfl)
 have bc:=of_decide_eq_false F
 exact Pl 3<|ce V false (by rw[F];rfl)
 refine nt<|cb (((decide (128≤(b.getD 0 0)))&&(dir==1))) (fun x=>?_) (fun x=>?_)
 have bd:=(bB x).1
 have be:=(bB x).2
 refine ak 1<|ay<|e2 (nG E (by omega)) fun bg bV G N=>?_
 refine Pl 2<|?_
 have W:=ub N d
 refine aG (hz:=(by rw[G.size];exact aQ)) (hv:=G.size) (h1:=(cG.one G (aX.old E N))) W (bg) fun bW bi X=>ah 1<|aV<|fh 22 G.size bi (vI (((fg b)).2))<|?_
 have hs:iu dir b=(fg b):=by
   unfold iu
   (try simp only[f,g,j,x,bd,be,bj,gf,reduceIte])
   all_goals rfl
 rw[← gi]
 refine j7 hs ?_
 exact⟨_,rfl,(cG.upd G X (av (b6 W (by decide)) aN)),(ud i (uz N X) u)⟩
 refine bo<|ak 3<|mT (eg (P:=Tryz.prog) 27 5 1 Tryz.underlying27 rfl rfl A b.length cp 1 (by omega)) fun bk hrun54 Y=>L0<|gt (.slice bk (b.length-1) (cp-1)) (eA (kl:=.i64) (k:=((1:Nat) : Int)) (A:=A) (n:=b.length) (c:=cp) rfl Tryz.underlying27 (by kernel_rfl) (by kernel_rfl) (hrun54 _ _))<|ay<|e2 (kJ (dir:=dir) (c:=(b.getD 0 0)) (b8 (by omega)) (Y _ _ _ _ _ E) (by(try simp only[List.length_drop]);omega)) fun Z bX bm e=>?_
 have I:=aX.old E e
 have l:=cG.sub bm (fun m' w' q=>(Y _ _ _ _ _ q))
 refine Pl 3<|aK mZ fun bY bZ a bn bp=>aG (hz:=(by rw[l.size];exact aQ)) (hv:=l.size) (h1:=(cG.one l hsl)) bn (Z) fun c0 a0 bq=>ah 1<|sq<|aD 2<|?_
 have J:=ud bp bq a
 have o:=aJ e J
 have a1:=aJ i o
 refine cb (((((aj aO dir (b.getD 0 0) (b.drop 1))).2)==4)) (fun h=>?_) (fun h=>?_)
 have br:=ag h
 refine go<|Pl 3<|mT (eg (P:=Tryz.prog) 27 5 1 Tryz.underlying27 rfl rfl A b.length cp 1 (by omega)) fun bs hrun75 a2=>L0<|gt (.slice bs (b.length-1) (cp-1)) (eA (kl:=.i64) (k:=((1:Nat) : Int)) (A:=A) (n:=b.length) (c:=cp) rfl Tryz.underlying27 (by kernel_rfl) (by kernel_rfl) (hrun75 _ _))<|?_
 refine ay<|e2 (lK (dir:=dir) (c:=(b.getD 0 0)) (b8 (by omega)) (a2 _ _ _ _ _ (aX.old I J)) (by(try simp only[List.length_drop]);omega)) fun a3 c1 bt O=>?_
 have r:=cG.sub bt (fun m' w' q=>(a2 _ _ _ _ _ q))
 refine Pl 3<|?_
 have a4:=ub O a0
 refine aG (hz:=(by rw[r.size];exact aQ)) (hv:=(Eq.trans r.size (Eq.symm l.size))) (h1:=(cG.one r hsl)) a4 (a3) fun c2 a5 a6=>ah 1<|sq<|aD 2<|?_
 have C:=uz O a6
 have a7:=ud a1 C (le (le i.size e.size) a)
 refine cb (((((aj aW dir (b.getD 0 0) (b.drop 1))).2)==4)) (fun y=>?_) (fun y=>?_)
 have bu:=ag y
 refine go<|Pl 3<|mT (eg (P:=Tryz.prog) 27 5 1 Tryz.underlying27 rfl rfl A b.length cp 1 (by omega)) fun bv hrun92 a8=>L0<|gt (.slice bv (b.length-1) (cp-1)) (eA (kl:=.i64) (k:=((1:Nat) : Int)) (A:=A) (n:=b.length) (c:=cp) rfl Tryz.underlying27 (by kernel_rfl) (by kernel_rfl) (hrun92 _ _))<|?_
 have a9:=ud J C a
 refine ay<|e2 (lQ (dir:=dir) (c:=(b.getD 0 0)) (b8 (by omega)) (a8 _ _ _ _ _ (aX.old I a9)) (by(try simp only[List.length_drop]);omega)) fun aa c3 bw Q=>?_
 have s:=cG.sub bw (fun m' w' q=>(a8 _ _ _ _ _ q))
 refine Pl 3<|?_
 have ab:=ub Q a5
 refine aG (hz:=(by rw[s.size];exact aQ)) (hv:=(Eq.trans s.size (Eq.symm r.size))) (h1:=(cG.one s hsl)) ab (aa) fun c4 ad ae=>ah 1<|sq<|aD 2<|?_
 have L:=uz Q ae
 have af:=ud a7 L (le (le i.size e.size) a)
 refine cb (((((aj bf dir (b.getD 0 0) (b.drop 1))).2)==4)) (fun B=>?_) (fun B=>?_)
 have bx:=ag B
 refine go<|Pl 3<|mT (eg (P:=Tryz.prog) 27 5 1 Tryz.underlying27 rfl rfl A b.length cp 1 (by omega)) fun bz hrun110 ai=>L0<|gt (.slice bz (b.length-1) (cp-1)) (eA (kl:=.i64) (k:=((1:Nat) : Int)) (A:=A) (n:=b.length) (c:=cp) rfl Tryz.underlying27 (by kernel_rfl) (by kernel_rfl) (hrun110 _ _))<|?_
 have R:=u1 C L im
 have al:=ud a9 L a
 refine ay<|e2 (kP (dir:=dir) (c:=(b.getD 0 0)) (b8 (by omega)) (ai _ _ _ _ _ (aX.old I al)) (by(try simp only[List.length_drop]);omega)) fun an c5 bA S=>?_
 have t:=cG.sub bA (fun m' w' q=>(ai _ _ _ _ _ q))
 refine Pl 3<|?_
 have ao:=ub S ad
 refine aG (hz:=(by rw[t.size];exact aQ)) (hv:=(Eq.trans t.size (Eq.symm s.size))) (h1:=(cG.one t hsl)) ao (an) fun c6 ap aq=>ah 1<|sq<|aD 2<|?_
 have M:=uz S aq
 have ar:=ud af M (le (le i.size e.size) a)
 refine cb (((((aj bh dir (b.getD 0 0) (b.drop 1))).2)==4)) (fun H=>?_) (fun H=>?_)
 have bC:=ag H
 refine go<|Pl 3<|mT (eg (P:=Tryz.prog) 27 5 1 Tryz.underlying27 rfl rfl A b.length cp 1 (by omega)) fun bD hrun130 au=>L0<|gt (.slice bD (b.length-1) (cp-1)) (eA (kl:=.i64) (k:=((1:Nat) : Int)) (A:=A) (n:=b.length) (c:=cp) rfl Tryz.underlying27 (by kernel_rfl) (by kernel_rfl) (hrun130 _ _))<|?_
 have aw:=u1 R M im
 refine ay<|e2 (mU (dir:=dir) (c:=(b.getD 0 0)) (b8 (by omega)) (au _ _ _ _ _ (aX.old I (ud al M a))) (by(try simp only[List.length_drop]);omega)) fun ax c7 bE T=>?_
 have z:=cG.sub bE (fun m' w' q=>(au _ _ _ _ _ q))
 refine Pl 3<|?_
 have aB:=ub T ap
 refine aG (hz:=(by rw[z.size];exact aQ)) (hv:=(Eq.trans z.size (Eq.symm t.size))) (h1:=(cG.one z hsl)) aB (ax) fun c8 bF aE=>Pl 1<|ng<|L0<|bO (hz:=(by rw[z.size];exact aQ)) bF<|Pl 1<|?_
 have aF:=uz T aE
 refine aG (hz:=(by rw[z.size];exact aQ)) (hv:=z.size) (h1:=(cG.one z hsl)) (ub (ud o (u1 aw aF im) (le e.size a)) d) (ax) fun c9 bI aH=>ah 1<|rt<|fh 22 z.size bI (vI (((aj bP dir (b.getD 0 0) (b.drop 1))).2))<|?_
 have hs:iu dir b=(aj bP dir (b.getD 0 0) (b.drop 1)):=by
   unfold iu
   (try simp only[f,g,j,x,h,y,B,H,bj,gf,reduceIte])
   all_goals rfl
 rw[← gi]
 refine j7 hs ?_
 exact⟨_,rfl,(cG.upd z (us aE aH) (av (b6 aB (by decide)) (av (b6 (ub (ud o (aJ aw T) (le e.size a)) d) (by decide)) aN))),(ut ar (us aF aH) (ac (ni (le i.size e.size) a) (ac (nr u) aC)))⟩
 have bC:=am H
 refine bo<|sg<|L0<|bO (hz:=(by rw[t.size];exact aQ)) ap<|Pl 1<|?_
 refine aG (hz:=(by rw[t.size];exact aQ)) (hv:=t.size) (h1:=(cG.one t hsl)) (ub (ud o (u1 R M im) (le e.size a)) d) (an) fun ca bJ aI=>ah 1<|rt<|fh 22 t.size bJ (vI (((aj bh dir (b.getD 0 0) (b.drop 1))).2))<|?_
 have hs:iu dir b=(aj bh dir (b.getD 0 0) (b.drop 1)):=by
   unfold iu
   (try simp only[f,g,j,x,h,y,B,H,bj,gf,reduceIte])
   all_goals rfl
 rw[← gi]
 refine j7 hs ?_
 exact⟨_,rfl,(cG.upd t (us aq aI) (av (b6 ao (by decide)) (av (b6 (ub (ud o (aJ R S) (le e.size a)) d) (by decide)) aN))),(ud ar aI u)⟩
 have bx:=am B
 refine bo<|sq<|aD 2<|cf B<|bo<|sg<|L0<|bO (hz:=(by rw[s.size];exact aQ)) ad<|Pl 1<|?_
 refine aG (hz:=(by rw[s.size];exact aQ)) (hv:=s.size) (h1:=(cG.one s hsl)) (ub (ud o (u1 C L im) (le e.size a)) d) (aa) fun cc bK aL=>ah 1<|rt<|fh 22 s.size bK (vI (((aj bf dir (b.getD 0 0) (b.drop 1))).2))<|?_
 have hs:iu dir b=(aj bf dir (b.getD 0 0) (b.drop 1)):=by
   unfold iu
   (try simp only[f,g,j,x,h,y,B,bj,gf,reduceIte])
   all_goals rfl
 rw[← gi]
 refine j7 hs ?_
 exact⟨_,rfl,(cG.upd s (us ae aL) (av (b6 ab (by decide)) (av (b6 (ub (ud o (aJ C Q) (le e.size a)) d) (by decide)) aN))),(ud af aL u)⟩
 have bu:=am y
 refine bo<|sq<|aD 2<|cf y<|bo<|sq<|aD 2<|cf y<|bo<|sg<|L0<|bO (hz:=(by rw[r.size];exact aQ)) a5<|Pl 1<|?_
 refine aG (hz:=(by rw[r.size];exact aQ)) (hv:=r.size) (h1:=(cG.one r hsl)) (ub (ud o C (le e.size a)) d) (a3) fun cd bL aM=>ah 1<|rt<|fh 22 r.size bL (vI (((aj aW dir (b.getD 0 0) (b.drop 1))).2))<|?_
 have hs:iu dir b=(aj aW dir (b.getD 0 0) (b.drop 1)):=by
   unfold iu
   (try simp only[f,g,j,x,h,y,bj,gf,reduceIte])
   all_goals rfl
 rw[← gi]
 refine j7 hs ?_
 exact⟨_,rfl,(cG.upd r (us a6 aM) (av (b6 a4 (by decide)) (av (b6 (ub (aJ o O) d) (by decide)) aN))),(ud a7 aM u)⟩
 have br:=am h
 refine bo<|sq<|aD 2<|cf h<|bo<|sq<|aD 2<|cf h<|bo<|sq<|aD 2<|cf h<|sk<|tn<|sg<|L0<|bO (hz:=(by rw[l.size];exact aQ)) a0<|Pl 1<|?_
 refine aG (hz:=(by rw[l.size];exact aQ)) (hv:=l.size) (h1:=(cG.one l hsl)) (ub o d) (Z) fun cg bM aP=>ah 1<|rt<|fh 22 l.size bM (vI (((aj aO dir (b.getD 0 0) (b.drop 1))).2))<|?_
 have hs:iu dir b=(aj aO dir (b.getD 0 0) (b.drop 1)):=by
   unfold iu
   (try simp only[f,g,j,x,h,bj,gf,reduceIte])
   all_goals rfl
 rw[← gi]
 refine j7 hs ?_
 exact⟨_,rfl,(cG.upd l (uz J aP) (av (b6 (ub e d) (by decide)) aN)),(ud a1 aP u)⟩
theorem fe(h:aX m w v b)(hb:b.length≤1048576) : Calls Tryz.prog 78 #[.int .i64 dir,v] w (cV v b (cw dir b) w):=by
  obtain⟨A,cp,rfl,_,_⟩:=h.shape
  exact rI h hb
open Go.RowKit
def nI (v0:Value)(b:List Int)(res:cF × Int)(w:World)(e:Ending)(w':World) : Prop:=∃ x,e = .returned (.tuple #[.agg (dH res.1.unit res.1.tid res.1.msg x),.int .i64 res.2])∧(cG v0 b w' (f8 res.1.msg x).toList res.1.msg∧(0≤res.1.unit∧res.1.unit<256)∧(0≤res.1.tid∧res.1.tid<65536))∧aH [] w w'
theorem fi{x y:cF × Int}(h:x=y)  {e:Ending}    (k:nI v0 b y w e w') : nI v0 b x w e w':=by rw[h];exact k
def F2:SL:=⟨none,0,none,0,none,0,none,0,none,0⟩
theorem ew{W:World}(hu:aH [] w W) : nI v0 b (cF.zero,x) w (.returned (.tuple #[.agg kX,.int .i64 x])) W:=⟨F2,(by kernel_rfl),⟨cG.zero v0 b W,(show(0:Int)≤0∧(0:Int)<256 from by decide),(show(0:Int)≤0∧(0:Int)<65536 from by decide)⟩,hu⟩
theorem j6{M:aT}{E:Int}(hX:cw dir b=(M,E))(h:aX m w v b)(hb:b.length≤1048576) : Calls Tryz.prog 78 #[.int .i64 dir,v] w (fun e w'=>∃ x,e = .returned (.tuple #[.agg (f8 M x),.int .i64 E])∧cG v b w' (f8 M x).toList M∧aH [] w w'):=by
  refine(fe h hb).mono ?_
  rintro e w' ⟨cs,rfl,h1,h2⟩
  rw[hX] at h1 ⊢
  obtain⟨x,rfl⟩:=mF (h1.rd (aX.old h h2))
  exact⟨x,rfl,h1,h2⟩
end Go.Proofs.YtdkhbcefkfgbdaaGreat
namespace Go.Proofs.YtdkhbcefkfgbdaaGreat
theorem uW(a b k:Nat) : (a ^^^ b)/2 ^ k=(a/2 ^ k) ^^^ (b/2 ^ k):=by
  rw[← Nat.shiftRight_eq_div_pow,Nat.shiftRight_xor_distrib,Nat.shiftRight_eq_div_pow,Nat.shiftRight_eq_div_pow]
theorem yk(x z:Nat) : kI (x ^^^ 2*z)=kI x ^^^ z:=by
  unfold kI
  have h1:(x ^^^ 2*z)/2=(x/2) ^^^ z:=by
    have:=uW x (2*z) 1
    rw[show(2:Nat) ^ 1=2 from rfl] at this
    rw[this,show 2*z/2=z from by omega]
  have h2:(x ^^^ 2*z)%2=x%2:=by
    have:=Nat.xor_mod_two_pow (a:=x) (b:=2*z) (n:=1)
    rw[show(2:Nat) ^ 1=2 from rfl] at this
    rw[this,show 2*z%2=0 from by omega,Nat.xor_zero]
  rw[h1,h2,Nat.xor_assoc,Nat.xor_comm z,← Nat.xor_assoc]
theorem rl(x:Nat) : ∀ (k h:Nat),gc k (x ^^^ 2 ^ k*h)=gc k x ^^^ h
  | 0,h=>by show x ^^^ 2 ^ 0*h=x ^^^ h;rw[Nat.pow_zero,Nat.one_mul]
  | k+1,h=>by
    show kI (gc k (x ^^^ 2 ^ (k+1)*h))=kI (gc k x) ^^^ h
    rw[Nat.pow_succ,Nat.mul_assoc,rl x k (2*h),yk]
theorem zK(s:Nat) : (s%256) ^^^ (2 ^ 8*(s/256))=s:=by
  have h1:=Nat.xor_mod_two_pow (a:=s%256) (b:=2 ^ 8*(s/256)) (n:=8)
  have h2:=uW (s%256) (2 ^ 8*(s/256)) 8
  rw[show(2:Nat) ^ 8=256 from rfl] at *
  rw[show 256*(s/256)%256=0 from by omega,Nat.xor_zero] at h1
  rw[show s%256/256=0 from by omega,Nat.zero_xor] at h2
  omega
theorem tg(s c:Nat) : gc 8 (s ^^^ c)=v6 s c:=by
  have h:=rl ((s%256) ^^^ c) 8 (s/256)
  rw[Nat.xor_assoc,Nat.xor_comm c,← Nat.xor_assoc,zK] at h
  rw[h,Nat.xor_comm]
  rfl
theorem ri(hn:n<65536) : (if n%2=1 then (n/2) ^^^ 40961 else n/2)=kI n:=by
  unfold kI
  split
  · rename_i h;rw[h]
  · rename_i h;rw[show n%2=0 from by omega,Nat.zero_mul,Nat.xor_zero]
open Go.RowKit
theorem yl(h:c=(n:Int))(hn:n<65536)(q:(c%2==1)=true) : xi (c/2) 40961=((kI n:Nat) : Int):=by
  have q2:c%2=1:=by simpa using q
  rw[← ri hn,if_pos (by omega)]
  unfold xi
  rw[show(c/2).toNat=n/2 from by omega]
  rfl
theorem zg(h:c=(n:Int))(hn:n<65536)(q:(c%2==1)=false) : c/2=((kI n:Nat) : Int):=by
  have q2:¬ c%2=1:=by simpa using q
  rw[← ri hn,if_neg (by omega)]
  omega
theorem wa(hs:0≤eF s b i∧eF s b i<65536)(hb:0≤b.getD i 0∧b.getD i 0<256)  (h:c=((gc 8 ((eF s b i).toNat ^^^ (b.getD i 0).toNat) : Nat) : Int)) : c=eF s b (i+1):=by
  rw[h,tg,← qZ hs hb]
  rfl
theorem A8{a:Int}(ha:0≤a∧a<65536)(hc:0≤c∧c<256) : a.toNat ^^^ c.toNat<65536:=nN (by omega) (by omega)
theorem vJ{l:List Int}  (h:i<l.length) : l.getD i 0∈l:=by
  rw[List.getD_eq_getElem?_getD,List.getElem?_eq_getElem h]
  exact List.getElem_mem h
theorem Cw(hsl:aX m w (.slice A b.length cp) b)(hs:0≤s∧s<65536) :
    Calls Tryz.prog 189 #[vW s,.slice A b.length cp] w (cc (vW (cn s b)) w):=by
 have hln:=aS.len hsl
 have hb:=aX.range hsl
 refine en 34 Tryz.func189 rfl<|aD 1<|sq<|aD 1<|bk<|je (fun x=>[(0,vW x.2),(1,.slice A b.length cp),(4,vW 0),(5,vI (x.1:Int))]) (fun(x:Nat × Int) w'=>aH [] w w'∧(x.1≤b.length)∧(x.2=eF s b x.1)∧(0≤x.2∧x.2<65536)) (fun x=>b.length-x.1) (0,s) ⟨aH.refl _ _,(by(try dsimp only);omega),rfl,hs⟩ ?_
 rintro⟨i,c⟩ r ⟨f,t,u,y⟩
 refine ji [(0,vW c),(1,.slice A b.length cp),(4,vW 0),(5,vI (i:Int))] ?_
 have H:i≤b.length:=t
 have q:c=eF s b i:=u
 have I:0≤c∧c<65536:=y
 have hcr:0≤eF s b i∧eF s b i<65536:=kF hs hb _
 refine sq<|aD 4<|cb ((decide ((i:Int)<(b.length:Int)))) (fun g=>?_) (fun g=>?_)
 have z:=of_decide_eq_true g
 refine bo<|sq<|bk<|ak 3<|?_
 refine ft (aX.at_ (aX.old hsl f) i (by omega)) fun h j B C J=>L0<|l9 b.length i B (by omega)<|L0<|eH (p:=⟨h,j+i,none⟩) (v:=vB (b.getD i 0)) C<|L0<|CS (b.getD i 0)<|?_
 have K:=DK (a:=c) (b:=(b.getD i 0)) (by omega) (by omega)
 refine L0<|Oe (vW (bits .xor .u16 c (b.getD i 0))) (vW (xi c (b.getD i 0))) (congrArg (Value.int .u16) (pL (by omega) (by omega)))<|Pl 1<|cN 1<|bk<|?_
 have hbr:0≤b.getD i 0∧b.getD i 0<256:=hb _ (vJ (by omega))
 have hxl:=A8 hcr hbr
 refine je (fun x=>[(0,vW x.2),(1,.slice A b.length cp),(4,vW 0),(5,vI (i:Int)),(6,vI (x.1:Int)),(8,vI (i:Int)),(9,.slice A b.length cp),(10,vI (b.length:Int)),(11,.bool (decide ((i:Int)<(b.length:Int)))),(14,vW c),(15,.slice A b.length cp),(16,vI (i:Int)),(17,.pointer (some (⟨h,j+i,none⟩))),(18,vB (b.getD i 0)),(19,vW (b.getD i 0)),(20,vW (xi c (b.getD i 0)))]) (fun(x:Nat × Int) w'=>aH [] r w'∧(x.1≤8)∧(x.2=((gc x.1 ((eF s b i).toNat ^^^ (b.getD i 0).toNat) : Nat) : Int))) (fun x=>8-x.1) (0,(xi c (b.getD i 0))) ⟨aH.refl _ _,(by(try dsimp only);omega),(by(try dsimp only);rw[q];rfl)⟩ ?_
 rintro⟨k,d⟩ L ⟨l,D,E⟩
 refine ji [(0,vW d),(1,.slice A b.length cp),(4,vW 0),(5,vI (i:Int)),(6,vI (k:Int)),(8,vI (i:Int)),(9,.slice A b.length cp),(10,vI (b.length:Int)),(11,.bool (decide ((i:Int)<(b.length:Int)))),(14,vW c),(15,.slice A b.length cp),(16,vI (i:Int)),(17,.pointer (some (⟨h,j+i,none⟩))),(18,vB (b.getD i 0)),(19,vW (b.getD i 0)),(20,vW (xi c (b.getD i 0)))] ?_
 have M:k≤8:=D
 have n:d=((gc k ((eF s b i).toNat ^^^ (b.getD i 0).toNat) : Nat) : Int):=E
 have hkl:=jB hxl k
 refine sq<|aD 2<|?_
 refine cb ((decide ((k:Int)<8))) (fun o=>?_) (fun o=>?_)
 have F:=of_decide_eq_true o
 refine bo<|sq<|bk<|ak 1<|L0<|Oe (vW (Int.tmod d 2)) (vW (d%2)) (congrArg (Value.int .u16) (Int.tmod_eq_emod_of_nonneg (by omega)))<|Pl 2<|aM 1<|L0<|Oe (vW (IntKind.u16.wrap (Int.tdiv d 2))) (vW (d/2)) (congrArg (Value.int .u16) (mr (by omega) (by omega)))<|Pl 1<|cN 1<|cb (((d%2)==1)) (fun e=>?_) (fun e=>?_)
 have G:=ag e
 refine go<|Pl 1<|?_
 have N:=DK (a:=(d/2)) (b:=40961) (by omega) (by omega)
 exact L0<|Oe (vW (bits .xor .u16 (d/2) 40961)) (vW (xi (d/2) 40961)) (congrArg (Value.int .u16) (pL (by omega) (by omega)))<|Pl 1<|nl<|bn<|tn<|go<|Pl 1<|bq ((k:Int)+1)<|Pl 1<|nl<|gL ((k+1),(xi (d/2) 40961)) ⟨l,(by(try dsimp only);omega),(yl n (jB hxl k) e)⟩ (by omega)
 have G:=am e
 exact sk<|bn<|tn<|go<|Pl 1<|bq ((k:Int)+1)<|Pl 1<|nl<|gL ((k+1),(d/2)) ⟨l,(by(try dsimp only);omega),(zg n (jB hxl k) e)⟩ (by omega)
 have F:=of_decide_eq_false o
 refine xt<|tx<|tx<|bx<|bn<|tn<|go<|Pl 1<|bq ((i:Int)+1)<|Pl 1<|nl<|?_
 have hc8:d=eF s b (i+1):=wa hcr hbr (by rw[n,show k=8 from by omega])
 exact gL ((i+1),d) ⟨(aJ f l),(by(try dsimp only);omega),hc8,(by(try dsimp only);rw[hc8];exact kF hs hb _)⟩ (by omega)
 have z:=of_decide_eq_false g
 refine xt<|tx<|tx<|bx<|tn<|aD 2<|rt<|rr (vW c)<|?_
 have hk:c=cn s b:=by rw[q];exact rU (by omega)
 rw[← hk]
 exact⟨rfl,f⟩
theorem Ch(h:aX m w v b) : Calls Tryz.prog 189 #[.int .u16 65535,v] w (cc (.int .u16 (cn 65535 b)) w):=by
  obtain⟨A,cp,rfl,_,_⟩:=h.shape
  exact Cw h (by decide)
theorem uT(h:2≤b.length)(hb:∀ x,x∈b→0≤x∧x<256) : dO b=((b.getD (((b.length:Nat) : Int)-2).toNat 0==(cn 65535 (b.take (((b.length:Nat) : Int)-2).toNat)%256)%256)&&(b.getD (((b.length:Nat) : Int)-1).toNat 0==(cn 65535 (b.take (((b.length:Nat) : Int)-2).toNat)/256)%256)):=by
  unfold dO co
  rw[decide_eq_true h,Bool.true_and,show(((b.length:Nat) : Int)-2).toNat=b.length-2 from by omega,show(((b.length:Nat) : Int)-1).toNat=b.length-2+1 from by omega]
  have e:b.drop (b.length-2)=[b.getD (b.length-2) 0,b.getD (b.length-2+1) 0]:=by
    apply List.ext_getElem
    · simp;omega
    · intro i h1 h2
      simp only[List.length_cons,List.length_nil] at h2
      rw[List.getElem_drop]
      rcases i with _|_|i
      · simp[List.getD_eq_getElem?_getD,List.getElem?_eq_getElem (show b.length-2<b.length by omega)]
      · simp[List.getD_eq_getElem?_getD,List.getElem?_eq_getElem (show b.length-2+1<b.length by omega)]
      · omega
  rw[e,Bool.eq_iff_iff]
  simp only[decide_eq_true_eq,List.cons.injEq,and_true,Bool.and_eq_true,beq_iff_eq]
  constructor
  · rintro⟨h1,h2⟩
    exact⟨by rw[← h1];omega,by rw[← h2]⟩
  · rintro⟨h1,h2⟩
    exact⟨by rw[h1];omega,by rw[h2]⟩
theorem Ev(hsl:aX m w (.slice A b.length cp) b)(hl:b.length≤1048576)(hcp:b.length≤cp) :
    Calls Tryz.prog 127 #[.slice A b.length cp] w (cc (.bool (dO b)) w):=by
 have hln:=aS.len hsl
 have hb:=aX.range hsl
 refine en 34 Tryz.func127 rfl<|ak 1<|cN 3<|sq<|aD 2<|cb ((decide ((b.length:Int)<2))) (fun a=>?_) (fun a=>?_)
 have i:=of_decide_eq_true a
 refine aD 1<|aV<|rr (.bool false)<|?_
 have hs:dO b=false:=by unfold dO;rw[decide_eq_false (by omega)];rfl
 rw[hs]
 exact⟨rfl,(aH.refl [] _)⟩
 have i:=of_decide_eq_false a
 refine bo<|ak 2<|bq ((b.length:Int)-2)<|mT (C8 (P:=Tryz.prog) 27 5 1 Tryz.underlying27 rfl rfl A b.length cp (k:=((b.length:Int)-2)) ((((b.length:Int)-2)).toNat) (by omega) (by omega) (by omega)) fun f hrun12 g=>L0<|gt (.slice f ((((b.length:Int)-2)).toNat) cp) (rp (kl:=.i64) (k:=((b.length:Int)-2)) (A:=A) (n:=b.length) (c:=cp) rfl Tryz.underlying27 (by kernel_rfl) (by kernel_rfl) (hrun12 _ _))<|ay (args:=#[vW 65535,.slice f ((((b.length:Int)-2)).toNat) cp])<|m1 (Ch (g _ _ _ _ _ hsl)) fun z e=>?_
 have B:=ie (b.take ((((b.length:Int)-2)).toNat)) (s:=65535) (by decide) (aX.range (g _ _ _ _ _ hsl))
 refine Pl 1<|aM 2<|bq ((b.length:Int)-2)<|?_
 have h:=aX.old hsl e
 refine ft (aX.at_ h ((((b.length:Int)-2)).toNat) (by omega)) fun j l o q C=>L0<|vN b.length ((((b.length:Int)-2)).toNat) ((b.length:Int)-2) (by omega) o (by omega)<|L0<|eH (p:=⟨j,l+((((b.length:Int)-2)).toNat),none⟩) (v:=vB (b.getD ((((b.length:Int)-2)).toNat) 0)) q<|Pl 1<|L0<|Oe (vW (Int.tmod (cn 65535 (b.take ((((b.length:Int)-2)).toNat))) 256)) (vW ((cn 65535 (b.take ((((b.length:Int)-2)).toNat)))%256)) (congrArg (Value.int .u16) (Int.tmod_eq_emod_of_nonneg (by omega)))<|Pl 3<|bl 23 (((b.getD ((((b.length:Int)-2)).toNat) 0)==(((cn 65535 (b.take ((((b.length:Int)-2)).toNat)))%256)%256))) (fun d=>?_) (fun d=>?_)
 have r:=ag d
 refine Pl 2<|L1<|Oi ((b.length:Int)-1)<|ft (aX.at_ h ((((b.length:Int)-1)).toNat) (by omega)) fun t u x y D=>L1<|vN b.length ((((b.length:Int)-1)).toNat) ((b.length:Int)-1) (by omega) x (by omega)<|L1<|eH (p:=⟨t,u+((((b.length:Int)-1)).toNat),none⟩) (v:=vB (b.getD ((((b.length:Int)-1)).toNat) 0)) y<|Pl 1<|L1<|Oe (vW (IntKind.u16.wrap (Int.tdiv (cn 65535 (b.take ((((b.length:Int)-2)).toNat))) 256))) (vW ((cn 65535 (b.take ((((b.length:Int)-2)).toNat)))/256)) (congrArg (Value.int .u16) (mr (by omega) (by omega)))<|ah 4<|rt<|rr (.bool ((b.getD ((((b.length:Int)-1)).toNat) 0)==(((cn 65535 (b.take ((((b.length:Int)-2)).toNat)))/256)%256)))<|?_
 have hs:dO b=((b.getD ((((b.length:Int)-1)).toNat) 0)==(((cn 65535 (b.take ((((b.length:Int)-2)).toNat)))/256)%256)):=by rw[uT (by omega) hb];(try simp only[a,d,bj]);all_goals rfl
 rw[hs]
 exact⟨rfl,e⟩
 have r:=am d
 refine ah 11<|rt<|rr (.bool false)<|?_
 have hs:dO b=false:=by rw[uT (by omega) hb];(try simp only[a,d,bj]);all_goals rfl
 rw[hs]
 exact⟨rfl,e⟩
theorem Fe(h:aX m w v b)(hb:b.length≤1048576) : Calls Tryz.prog 127 #[v] w (cc (.bool (dO b)) w):=by
  obtain⟨A,cp,rfl,hc,_⟩:=h.shape
  exact Ev h hb hc
open Go.RowKit
theorem rZ(hsl:aX m w (.slice A b.length cp) b)(hb:b.length≤1048576)(hcp:b.length≤cp) :
    Calls Tryz.prog 88 #[vI dir,.slice A b.length cp] w (nI (.slice A b.length cp) b (ec dir b) w):=by
 have hln:(b.length:Int)≤1048576:=by omega
 have hrb:=aX.range hsl
 refine en 49 Tryz.func88 rfl<|sg<|aK #[vB 0,vW 0,vB 0,vB 0,vW 0,vW 0,vW 0,vW 0,vW 0,vW 0,vW 0,vW 0,vW 0,vW 0,nS,nS,nS,nS,vB 0,vB 0,vB 0,vB 0,vB 0,nS] fun an ap j e o=>Pl 1<|cN 3<|sq<|sq<|go<|Pl 3<|cu 3 [14] 17 (((dir != 0)&&(dir != 1))) (fun K B=>?_) ?_
 refine bl 14 ((dir != 0)) (fun p=>?_) (fun p=>?_)
 have T:=az p
 exact Pl 3<|ce B (dir != 1) (by rw[p];rfl)
 have T:=aA p
 exact Pl 3<|ce B false (by rw[p];rfl)
 refine nt<|cb (((dir != 0)&&(dir != 1))) (fun d=>?_) (fun d=>?_)
 have C:=(bB d).1
 have D:=(bB d).2
 have aq:=az C
 have ax:=az D
 refine ak 1<|aG e #[vB 0,vW 0,vB 0,vB 0,vW 0,vW 0,vW 0,vW 0,vW 0,vW 0,vW 0,vW 0,vW 0,vW 0,nS,nS,nS,nS,vB 0,vB 0,vB 0,vB 0,vB 0,nS] fun aB U V=>ah 1<|aV<|bH U (vI 1)<|?_
 have hs:ec dir b=(cF.zero,1):=by
   unfold ec
   (try simp only[d,C,D,bj,ch,reduceIte])
   all_goals rfl
 refine fi hs ?_
 exact ew (ud o V j)
 refine bo<|sq<|aD 2<|cb ((decide ((b.length:Int)<4))) (fun f=>?_) (fun f=>?_)
 have W:=of_decide_eq_true f
 refine ak 1<|aG e #[vB 0,vW 0,vB 0,vB 0,vW 0,vW 0,vW 0,vW 0,vW 0,vW 0,vW 0,vW 0,vW 0,vW 0,nS,nS,nS,nS,vB 0,vB 0,vB 0,vB 0,vB 0,nS] fun aC X Y=>ah 1<|aV<|bH X (vI 2)<|?_
 have hs:ec dir b=(cF.zero,2):=by
   unfold ec
   (try simp only[d,f,bj,ch,reduceIte])
   all_goals rfl
 refine fi hs ?_
 exact ew (ud o Y j)
 have W:=of_decide_eq_false f
 refine bo<|sq<|aD 2<|cb ((decide (256<(b.length:Int)))) (fun h=>?_) (fun h=>?_)
 have Z:=of_decide_eq_true h
 refine ak 1<|aG e #[vB 0,vW 0,vB 0,vB 0,vW 0,vW 0,vW 0,vW 0,vW 0,vW 0,vW 0,vW 0,vW 0,vW 0,nS,nS,nS,nS,vB 0,vB 0,vB 0,vB 0,vB 0,nS] fun aE a0 a1=>ah 1<|aV<|bH a0 (vI 3)<|?_
 have hs:ec dir b=(cF.zero,3):=by
   unfold ec
   (try simp only[d,f,h,bj,ch,reduceIte])
   all_goals rfl
 refine fi hs ?_
 exact ew (ud o a1 j)
 have Z:=of_decide_eq_false h
 refine bo<|ak 1<|?_
 have E:=aX.old hsl o
 refine ay (args:=#[.slice A b.length cp])<|m1 (Fe E (by omega)) fun aF i=>ah 1<|sq<|aD 2<|?_
 have F:=aJ o i
 refine cb ((!(dO b))) (fun k=>?_) (fun k=>?_)
 have t:(dO b)=false:=by simpa using k
 refine ak 1<|?_
 refine aG (ub i e) #[vB 0,vW 0,vB 0,vB 0,vW 0,vW 0,vW 0,vW 0,vW 0,vW 0,vW 0,vW 0,vW 0,vW 0,nS,nS,nS,nS,vB 0,vB 0,vB 0,vB 0,vB 0,nS] fun aH a2 a3=>ah 1<|aV<|bH a2 (vI 10)<|?_
 have hs:ec dir b=(cF.zero,10):=by
   unfold ec
   (try simp only[d,f,h,k,t,bj,ch,reduceIte])
   all_goals rfl
 refine fi hs ?_
 exact ew (ud F a3 j)
 have t:(dO b)=true:=by simpa using k
 refine bo<|ak 3<|bq ((b.length:Int)-2)<|mT (gh (P:=Tryz.prog) 27 5 1 Tryz.underlying27 rfl rfl A b.length cp (lo:=1) (up:=((b.length:Int)-2)) 1 ((((b.length:Int)-2)).toNat) (by omega) (by omega) (by omega) (by omega) (by omega)) fun a4 hrun43 G=>L0<|gt (.slice a4 (((((b.length:Int)-2)).toNat)-1) (cp-1)) (eY (kl:=.i64) (kh:=.i64) (lo:=1) (hi:=((b.length:Int)-2)) (A:=A) (n:=b.length) (c:=cp) rfl Tryz.underlying27 (by kernel_rfl) (by kernel_rfl) (by kernel_rfl) (hrun43 _ _ _))<|?_
 have H:=aX.old E i
 refine pr (cw dir ((b.take ((((b.length:Int)-2)).toNat)).drop 1)) fun a r y=>?_
 refine ay<|e2 (j6 y (G _ _ _ _ _ H) (by rw[List.length_drop,List.length_take];omega)) fun x49 aI a5 z=>?_
 have a6:=cG.sub a5 (fun m' w' q=>(G _ _ _ _ _ q))
 refine Pl 3<|aK mZ fun I aL J a7 a8=>aG a7 (f8 a x49) fun aM a9 aa=>ah 1<|sq<|aD 2<|?_
 have L:=ud a8 aa J
 have u:=aJ z L
 have M:=aJ F u
 refine cb ((r != 0)) (fun s=>?_) (fun s=>?_)
 have ac:=az s
 refine ak 2<|?_
 refine aG (ub (aJ i u) e) #[vB 0,vW 0,vB 0,vB 0,vW 0,vW 0,vW 0,vW 0,vW 0,vW 0,vW 0,vW 0,vW 0,vW 0,nS,nS,nS,nS,vB 0,vB 0,vB 0,vB 0,vB 0,nS] fun aO ae af=>ah 1<|aV<|bH ae (vI r)<|?_
 have hX2:cw dir (fM b)=(a,r):=(congrArg (cw dir) (iQ b)).trans y
 have hs:ec dir b=(cF.zero,r):=by
   unfold ec
   (try simp only[d,f,h,k,t,s,bj,ch,hX2,reduceIte])
   all_goals rfl
 refine fi hs ?_
 exact ew (ud M af j)
 have ac:=aA s
 refine bo<|sq<|?_
 refine ft (aX.at_ (aX.old H u) 0 (by omega)) fun ag ai N aj aP=>Rg 8 (fun w'=>w'.cell? ⟨ag,ai+0,none⟩=some (vB (b.getD 0 0))∧w'.heap[I]? = some (.cells (f8 a x49) 45 (0,0))) fun aQ v=>?_
 have O:=ub v a9
 refine bp ⟨(uc v aj),O⟩ fun l=>Rt 0 l<|lL 1 l b.length 0 0 rfl N (by omega)<|Rl 2 l (fun _ hs=>hs.1)<|Rt 3 l<|Rr 4 l (.agg (f8 a x49)) (fun w' hs=>gW (g:=I) (off:=0) [vB a.code,vB a.fail,vW a.addr,vW a.count,vW a.value,vW a.and_,vW a.or_,vW a.addr2,vW a.sub,vW a.status,vW a.events,vW a.messages,.slice x49.aw a.words.length x49.kw,.slice x49.ab a.bits.length x49.kb,.slice x49.ad a.data.length x49.kd,.slice x49.ar a.recs.length x49.kr,vB a.mei,vB a.kind,vB a.level,vB a.more,vB a.next,.slice x49.ao a.objects.length x49.ko] rfl (by kernel_rfl) hs.2 (by kernel_rfl) (by kernel_rfl) rfl)<|Rt 5 l<|?_
 refine R0 6 rfl<|gk (ub (aJ i (aJ u v)) e) (dH (b.getD 0 0) 0 a x49) fun aR al Q=>?_
 have R:=uz v Q
 have S:=ud M R j
 refine bp ⟨(cB (aX.old hsl S) N 0 (by omega)),(be Q (Ne.symm (nb (au e) (le i.size z.size) J)) O)⟩ fun am=>Rt 7 am<|re<|tn<|rt<|bH al (vI 0)<|?_
 have hX2:cw dir (fM b)=(a,r):=(congrArg (cw dir) (iQ b)).trans y
 have hs:ec dir b=(⟨(b.getD 0 0),0,a⟩,0):=by
   unfold ec
   (try simp only[d,f,h,k,t,s,bj,ch,hX2,reduceIte])
   all_goals rfl
 refine fi hs ?_
 exact⟨x49,rfl,⟨(cG.upd a6 (uz L R) (av (b6 (ub (aJ i z) e) (by decide)) aN)),b8 (x:=(b.getD 0 0)) (by omega),cT (x:=0) (by omega)⟩,S⟩
theorem t8(h:aX m w v b)(hb:b.length≤1048576) : Calls Tryz.prog 88 #[.int .i64 dir,v] w (nI v b (ec dir b) w):=by
  obtain⟨A,cp,rfl,hc,_⟩:=h.shape
  exact rZ h hb hc
theorem kT{F:cF}{E:Int}(hX:ec dir b=(F,E))(h:aX m w v b)(hb:b.length≤1048576) : Calls Tryz.prog 88 #[.int .i64 dir,v] w (fun e w'=>∃ x,e = .returned (.tuple #[.agg (dH F.unit F.tid F.msg x),.int .i64 E])∧(cG v b w' (f8 F.msg x).toList F.msg∧(0≤F.unit∧F.unit<256)∧(0≤F.tid∧F.tid<65536))∧aH [] w w'):=by
  refine(t8 h hb).mono ?_
  rintro e w' ⟨x,rfl,h1,h2⟩
  rw[hX] at h1 ⊢
  exact⟨x,rfl,h1,h2⟩
open Go.RowKit
theorem jy(a c:Int)(t:List Int) : (ai.mk (a :: c :: t) false 0).wordV=a*256+c∧(ai.mk (a :: c :: t) false 0).wordsC 1=⟨t,false,0⟩:=by
  have hb:¬ (ai.mk (a :: c :: t) false 0).wbad 1=true:=by
    unfold ai.wbad
    simp only[Bool.or_eq_true,decide_eq_true_eq,List.length_cons,not_or]
    omega
  have hf:¬ (ai.mk (a :: c :: t) false 0).fails (2*1)=true:=by
    unfold ai.fails
    simp only[Bool.or_eq_true,decide_eq_true_eq,List.length_cons,not_or]
    exact⟨⟨by decide,by decide⟩,by omega⟩
  constructor
  · unfold ai.wordV ai.wordsR ai.bytesR
    rw[if_neg hb,if_neg hf]
    show(cD [a,c]).getD 0 0=_
    unfold cD
    rw[if_pos (by simp)]
    rfl
  · unfold ai.wordsC ai.bytesC
    rw[if_neg hb,if_neg hf]
    rfl
theorem v8(a:Int)(t:List Int) : (ai.mk (a :: t) false 0).byteV=a∧(ai.mk (a :: t) false 0).bytesC 1=⟨t,false,0⟩:=yF (b:=a :: t) (by simp)
theorem xz(t:List Int) : (ai.mk t false 0).bytesR ((t.length:Nat) : Int)=t:=by
  have hf:¬ (ai.mk t false 0).fails ((t.length:Nat) : Int)=true:=by
    unfold ai.fails
    simp only[Bool.or_eq_true,decide_eq_true_eq,not_or]
    exact⟨⟨by decide,by omega⟩,by omega⟩
  unfold ai.bytesR
  rw[if_neg hf]
  simp
def fy (dir:Int)(b:List Int) : cF × Int :=
  if dir != 0&&dir != 1 then (cF.zero,1)
  else if decide ((b.length:Int)<8) then (cF.zero,2)
  else if decide (260<(b.length:Int)) then (cF.zero,3)
  else if (b.getD 2 0 != 0)||(b.getD 3 0 != 0) then (cF.zero,13)
  else if ((256*b.getD 4 0)+b.getD 5 0)!=(b.length:Int)-6 then (cF.zero,5)
  else ch (b.getD 6 0) ((((256*b.getD 0 0)%65536)+b.getD 1 0)%65536) (cw dir (b.drop 7))
theorem fO(hr:∀ x,x∈b→0≤x∧x<256) : fy dir b=dq dir b:=by
  unfold fy dq
  split
  · rfl
  split
  · rfl
  rename_i hl
  split
  · rfl
  obtain⟨a0,a1,a2,a3,a4,a5,a6,t,rfl⟩ : ∃ a0 a1 a2 a3 a4 a5 a6 t,b=a0 :: a1 :: a2 :: a3 :: a4 :: a5 :: a6 :: t:=by
    rcases b with _|⟨a0,_|⟨a1,_|⟨a2,_|⟨a3,_|⟨a4,_|⟨a5,_|⟨a6,t⟩⟩⟩⟩⟩⟩⟩
    case cons.cons.cons.cons.cons.cons.cons=>exact⟨_,_,_,_,_,_,_,_,rfl⟩
    all_goals simp at hl
  have h0:=hr a0 (by simp)
  have h1:=hr a1 (by simp)
  have h2:=hr a2 (by simp)
  have h3:=hr a3 (by simp)
  have h4:=hr a4 (by simp)
  have h5:=hr a5 (by simp)
  have e1:w9 (a0 :: a1 :: a2 :: a3 :: a4 :: a5 :: a6 :: t)=⟨a2 :: a3 :: a4 :: a5 :: a6 :: t,false,0⟩:=(jy _ _ _).2
  have e2:uL (a0 :: a1 :: a2 :: a3 :: a4 :: a5 :: a6 :: t)=⟨a4 :: a5 :: a6 :: t,false,0⟩:=by unfold uL;rw[e1];exact(jy _ _ _).2
  have e3:vf (a0 :: a1 :: a2 :: a3 :: a4 :: a5 :: a6 :: t)=⟨a6 :: t,false,0⟩:=by unfold vf;rw[e2];exact(jy _ _ _).2
  have e4:vl (a0 :: a1 :: a2 :: a3 :: a4 :: a5 :: a6 :: t)=⟨t,false,0⟩:=by unfold vl;rw[e3];exact(v8 _ _).2
  have v0:(wN (a0 :: a1 :: a2 :: a3 :: a4 :: a5 :: a6 :: t)).wordV=a0*256+a1:=(jy _ _ _).1
  unfold lv
  rw[e1,e2,e3,e4,v0,(jy _ _ _).1,(jy _ _ _).1,(v8 _ _).1,xz]
  show(if (a2 != 0)||(a3 != 0) then _ else if ((256*a4)+a5)!=_ then _ else ch a6 ((((256*a0)%65536)+a1)%65536) (cw dir t))=_
  rw[show((a2 != 0)||(a3 != 0))=(a2*256+a3 != 0) from by rw[Bool.eq_iff_iff];simp only[Bool.or_eq_true,bne_iff_ne,ne_eq];omega,show(256*a4)+a5=a4*256+a5 from by omega,show(((256*a0)%65536)+a1)%65536=a0*256+a1 from by omega]
def gN (dir:Int)(b:List Int) : cF × Int :=
  if dir != 0&&dir != 1 then (cF.zero,1)
  else if decide ((b.length:Int)<9) then (cF.zero,2)
  else if decide (513<(b.length:Int)) then (cF.zero,3)
  else if ((b.getD 0 0 != 58)||(b.getD ((b.length:Int)-2).toNat 0 != 13))||(b.getD ((b.length:Int)-1).toNat 0 != 10) then (cF.zero,12)
  else match cg ((b.take ((b.length:Int)-2).toNat).drop 1) with
    | none=>(cF.zero,11)
    | some x=>if !(ep x) then (cF.zero,10) else ch (x.getD 0 0) 0 (cw dir ((x.take ((x.length:Int)-1).toNat).drop 1))
theorem BY(h:3≤b.length) : gn (b.drop 1)=((b.getD ((b.length:Int)-2).toNat 0==13)&&(b.getD ((b.length:Int)-1).toNat 0==10)):=by
  unfold gn
  rw[show((((b.drop 1).length:Nat) : Int)-2).toNat=b.length-3 from by simp only[List.length_drop];omega,List.drop_drop,show 1+(b.length-3)=b.length-2 from by omega,show((b.length:Int)-2).toNat=b.length-2 from by omega,show((b.length:Int)-1).toNat=b.length-2+1 from by omega,decide_eq_true (show 2≤(((b.drop 1).length:Nat) : Int) from by simp only[List.length_drop];omega),Bool.true_and]
  have e:b.drop (b.length-2)=[b.getD (b.length-2) 0,b.getD (b.length-2+1) 0]:=by
    apply List.ext_getElem
    · simp;omega
    · intro i h1 h2
      simp only[List.length_cons,List.length_nil] at h2
      rw[List.getElem_drop]
      rcases i with _|_|i
      · simp[List.getD_eq_getElem?_getD,List.getElem?_eq_getElem (show b.length-2<b.length by omega)]
      · simp[List.getD_eq_getElem?_getD,List.getElem?_eq_getElem (show b.length-2+1<b.length by omega)]
      · omega
  rw[e,Bool.eq_iff_iff]
  simp only[decide_eq_true_eq,List.cons.injEq,and_true,Bool.and_eq_true,beq_iff_eq]
theorem fN:gN dir b=eD dir b:=by
  unfold gN eD
  split
  · rfl
  split
  · rfl
  rename_i hl
  have hl:9≤b.length:=by
    have:=of_decide_eq_false (by simpa using hl:decide ((b.length:Int)<9)=false)
    omega
  split
  · rfl
  have h2:=BY (b:=b) (by omega)
  by_cases hc:(((b.getD 0 0 != 58)||(b.getD ((b.length:Int)-2).toNat 0 != 13))||(b.getD ((b.length:Int)-1).toNat 0 != 10))=true
  · rw[if_pos hc]
    have hd:i1 b=none:=by
      unfold i1
      rw[if_neg]
      rintro⟨k1,k2⟩
      rw[h2] at k2
      simp only[Bool.or_eq_true,bne_iff_ne,ne_eq,Bool.and_eq_true,beq_iff_eq] at hc k2
      rcases hc with(hc|hc) | hc
      · exact hc k1
      · exact hc k2.1
      · exact hc k2.2
    rw[hd]
  · rw[if_neg hc]
    simp only[Bool.or_eq_true,bne_iff_ne,ne_eq,not_or,Decidable.not_not] at hc
    have hd:i1 b=some ((b.take ((b.length:Int)-2).toNat).drop 1):=by
      unfold i1
      rw[if_pos ⟨hc.1.1,by rw[h2,hc.1.2,hc.2];rfl⟩,List.drop_take,show((b.length:Int)-2).toNat-1=b.length-3 from by omega]
    rw[hd]
    dsimp only
    cases cg ((b.take ((b.length:Int)-2).toNat).drop 1) with
    | none=>rfl
    | some x=>dsimp only;rw[kf]
open Go.RowKit
theorem hH.old{base:Nat}   {xs:List Int}(h:hH base w v xs)(hu:aH [] w w') : hH base w' v xs:=by
  obtain⟨g,cap,cur,n,h1,h2,h3,h4⟩:=h
  exact⟨g,cap,cur,n,h1,h2,hu.blk (by simp) h3,h4⟩
section
variable {P:Program}{n:Nat}{D:List Deferred}{F:Fr}{w:World}{K:Fr→World→Prop}{Q:Exit→Act→World→Prop}{d:Option Tmp}{t:TypeId}{s:String}{af:Array Edge}{gu:Option (Nat × Bool)}
end
open Go.RowKit
theorem xM{w:World}{c:Int}(hc:0≤c∧c<256) : Calls Tryz.prog 118 #[vB c] w (cc (vI (cj c)) w):=by
 refine en 23 Tryz.func118 rfl<|aD 1<|sq<|bk<|ak 3<|cu 3 [6] 9 (((decide (48≤c))&&(decide (c≤57)))) (fun K f=>?_) ?_
 refine bl 6 ((decide (48≤c))) (fun a=>?_) (fun a=>?_)
 have h:=of_decide_eq_true a
 exact Pl 3<|ce f (decide (c≤57)) (by rw[a];rfl)
 have h:=of_decide_eq_false a
 exact Pl 3<|ce f false (by rw[a];rfl)
 refine ah 1<|cb (((decide (48≤c))&&(decide (c≤57)))) (fun d=>?_) (fun d=>?_)
 have i:=(bB d).1
 have j:=(bB d).2
 have n:=of_decide_eq_true i
 have o:=of_decide_eq_true j
 refine ak 1<|bq c<|bq (c-48)<|ah 1<|rt<|br<|tr<|rr (vI (c-48))<|?_
 have hs:cj c=(c-48):=by unfold cj;(try simp only[Bool.and_eq_true,decide_eq_true_eq,Bool.and_eq_false_iff,decide_eq_false_iff_not] at *);(repeat' split)<;>omega
 rw[hs]
 exact⟨rfl,(aH.refl [] _)⟩
 refine ak 3<|cu 3 [16] 19 (((decide (65≤c))&&(decide (c≤70)))) (fun K g=>?_) ?_
 refine bl 16 ((decide (65≤c))) (fun b=>?_) (fun b=>?_)
 have k:=of_decide_eq_true b
 exact Pl 3<|ce g (decide (c≤70)) (by rw[b];rfl)
 have k:=of_decide_eq_false b
 exact Pl 3<|ce g false (by rw[b];rfl)
 refine ah 1<|cb (((decide (65≤c))&&(decide (c≤70)))) (fun e=>?_) (fun e=>?_)
 have l:=(bB e).1
 have m:=(bB e).2
 have p:=of_decide_eq_true l
 have q:=of_decide_eq_true m
 refine ak 1<|bq c<|bq (c-55)<|ah 1<|rt<|br<|tr<|rr (vI (c-55))<|?_
 have hs:cj c=(c-55):=by unfold cj;(try simp only[Bool.and_eq_true,decide_eq_true_eq,Bool.and_eq_false_iff,decide_eq_false_iff_not] at *);(repeat' split)<;>omega
 rw[hs]
 exact⟨rfl,(aH.refl [] _)⟩
 refine sk<|bn<|tn<|aD 1<|rt<|rr (vI (-1))<|?_
 have hs:cj c = -1:=by unfold cj;(try simp only[Bool.and_eq_true,decide_eq_true_eq,Bool.and_eq_false_iff,decide_eq_false_iff_not] at *);(repeat' split)<;>omega
 rw[hs]
 exact⟨rfl,(aH.refl [] _)⟩
theorem uB(c:Int) : -1≤cj c:=by
  unfold cj
  (repeat' split)<;>omega
theorem zX{xs:List Int}{w:World}(hr:dz xs)(hl:xs.length≤1048576) :
    Calls Tryz.prog 84 #[.string (strOfNums xs)] w (hZ xs w):=by
 refine en 43 Tryz.func84 rfl<|aD 2<|sq<|ak 1<|L0<|Oe (vI (((strOfNums xs).size:Nat) : Int)) (vI (xs.length:Int)) (by rw[strOfNums_size])<|L0<|Oe (vI (Int.tmod (xs.length:Int) 2)) (vI ((xs.length:Int)%2)) (congrArg (Value.int .i64) (Int.tmod_eq_emod_of_nonneg (by omega)))<|Pl 1<|nl<|tn<|cb ((((xs.length:Int)%2)==1)) (fun d=>?_) (fun d=>?_)
 have v:=ag d
 refine aD 2<|aV<|rr (.tuple #[nS,vI 11])<|?_
 have hs:cg xs=none:=ls (by omega)
 exact mw hs ⟨rfl,(aH.refl [] _)⟩
 have v:=am d
 refine bo<|aD 1<|sq<|aD 1<|bk<|je (fun x=>[(0,.string (strOfNums xs)),(4,.slice x.2.2.1 x.2.1.length x.2.2.2),(5,vI ((2*x.1:Nat) : Int))]) (fun(x:Nat × List Int × Option Addr × Nat) w'=>aH [] w w'∧eB w.heap.size w' (.slice x.2.2.1 x.2.1.length x.2.2.2) x.2.1∧(2*x.1≤xs.length)∧(cg xs=(cg (xs.drop (2*x.1))).map fun l=>x.2.1++l)∧(x.2.1.length=x.1)) (fun x=>xs.length-2*x.1) (0,[],none,0) ⟨aH.refl _ _,(b7.nil w.heap.size _ _ wy _),(by(try dsimp only);omega),(by(try dsimp only);simp),(by(try dsimp only);rfl)⟩ ?_
 rintro⟨k,L,B,cq⟩ y ⟨f,z,A,C,D⟩
 refine ji [(0,.string (strOfNums xs)),(4,.slice B L.length cq),(5,vI ((2*k:Nat) : Int))] ?_
 have g:eB w.heap.size y (.slice B L.length cq) L:=z
 have R:2*k≤xs.length:=A
 have S:cg xs=(cg (xs.drop (2*k))).map fun l=>L++l:=C
 have T:L.length=k:=D
 have hL:cg xs=(cg (xs.drop (2*k))).map fun l=>L++l:=by assumption
 refine sq<|ak 1<|bq (((2*k:Nat) : Int)+1)<|Pl 1<|L0<|Oe (vI (((strOfNums xs).size:Nat) : Int)) (vI (xs.length:Int)) (by rw[strOfNums_size])<|ah 1<|cb ((decide ((((2*k:Nat) : Int)+1)<(xs.length:Int)))) (fun j=>?_) (fun j=>?_)
 have E:=of_decide_eq_true j
 refine bo<|sq<|bk<|ak 2<|L0<|gt (vB (xs.getD (2*k) 0)) (kC (xs:=xs) (k:=.i64) (i:=((2*k:Nat) : Int)) (2*k) rfl Tryz.underlying9 (by kernel_rfl) (by kernel_rfl) hr rfl (by omega))<|?_
 have U:=kz (xs.getD (2*k) 0)
 have V:=uB (xs.getD (2*k) 0)
 refine ay<|m1 (xM (c:=(xs.getD (2*k) 0)) (w:=_) (fl (by omega) hr _)) fun W o=>Pl 1<|aM 2<|bq (((2*k:Nat) : Int)+1)<|L0<|gt (vB (xs.getD ((((2*k:Nat) : Int)+1)).toNat 0)) (kC (xs:=xs) (k:=.i64) (i:=(((2*k:Nat) : Int)+1)) ((((2*k:Nat) : Int)+1)).toNat rfl Tryz.underlying9 (by kernel_rfl) (by kernel_rfl) hr (by omega) (by omega))<|?_
 have X:=kz (xs.getD ((((2*k:Nat) : Int)+1)).toNat 0)
 have Y:=uB (xs.getD ((((2*k:Nat) : Int)+1)).toNat 0)
 refine ay<|m1 (xM (c:=(xs.getD ((((2*k:Nat) : Int)+1)).toNat 0)) (w:=_) (fl (by omega) hr _)) fun Z p=>ah 1<|sq<|ak 3<|cu 3 [30] 33 ((((cj (xs.getD (2*k) 0))==(-1))||((cj (xs.getD ((((2*k:Nat) : Int)+1)).toNat 0))==(-1)))) (fun K r=>?_) ?_
 refine bl 30 (((cj (xs.getD (2*k) 0))==(-1))) (fun a=>?_) (fun a=>?_)
 have F:=ag a
 exact Pl 3<|ce r true (by rw[a];rfl)
 have F:=am a
 exact Pl 3<|ce r ((cj (xs.getD ((((2*k:Nat) : Int)+1)).toNat 0))==(-1)) (by rw[a];rfl)
 refine nt<|?_
 have s:=aJ o p
 have t:=aJ f s
 refine cb ((((cj (xs.getD (2*k) 0))==(-1))||((cj (xs.getD ((((2*k:Nat) : Int)+1)).toNat 0))==(-1)))) (fun b=>?_) (fun b=>?_)
 refine aD 2<|aV<|br<|tr<|tr<|br<|tr<|rr (.tuple #[nS,vI 11])<|?_
 have hs:cg xs=none:=sG (k:=k) hL (by omega) (by have q:=b;simp only[Bool.or_eq_true,beq_iff_eq] at q;rw[show 2*k+1=(((2*k:Nat) : Int)+1).toNat from by omega];omega)
 exact mw hs ⟨rfl,t⟩
 have G:=(bT b).1
 have H:=(bT b).2
 have a0:=am G
 have a1:=am H
 refine bo<|go<|Pl 2<|bq (16*(cj (xs.getD (2*k) 0)))<|Pl 1<|bq ((16*(cj (xs.getD (2*k) 0)))+(cj (xs.getD ((((2*k:Nat) : Int)+1)).toNat 0)))<|Pl 1<|L0<|d9 (m:=1) (e:=5) #[vB (((16*(cj (xs.getD (2*k) 0)))+(cj (xs.getD ((((2*k:Nat) : Int)+1)).toNat 0)))%256)] fun a2 a3 I J n=>?_
 have M:=cL I (xs:=[(((16*(cj (xs.getD (2*k) 0)))+(cj (xs.getD ((((2*k:Nat) : Int)+1)).toNat 0)))%256)]) (by as_aux_lemma=>kernel_rfl) (ap (by omega) aR) (by(try simp only[List.length_cons,List.length_nil]);omega) J
 refine L0<|bS b9 (xs:=L) (ys:=([(((16*(cj (xs.getD (2*k) 0)))+(cj (xs.getD ((((2*k:Nat) : Int)+1)).toNat 0)))%256)])) (vB 0) 1 (ax g (aJ s n) (fun x hx=>aF) (fun _ _ h=>h)) (M).rd (by(try simp only[bV,aB]);omega) (le (le (le f.size o.size) p.size) n.size) fun N O a4 P Q=>Pl 1<|nl<|bn<|tn<|go<|Pl 1<|bq (((2*k:Nat) : Int)+2)<|Pl 1<|nl<|?_
 have u:=nn (k:=k) hL (by omega) (by omega) (by rw[show 2*k+1=(((2*k:Nat) : Int)+1).toNat from by omega];omega)
 rw[show 2*k+1=(((2*k:Nat) : Int)+1).toNat from by omega] at u
 exact gL ((k+1),(L++[(((16*(cj (xs.getD (2*k) 0)))+(cj (xs.getD ((((2*k:Nat) : Int)+1)).toNat 0)))%256)]),N,O) ⟨(ut t (ut (aH.mono (S':=(ob B++[])) n aC) Q (aq il aC)) (aq (aU g lr) aC)),P,(by(try dsimp only);omega),u,(by(try dsimp only);simp only[bV];omega)⟩ (by omega)
 have E:=of_decide_eq_false j
 refine xt<|tx<|tx<|bx<|tn<|aD 3<|rt<|rr (.tuple #[.slice B L.length cq,vI 0])<|?_
 have hs:cg xs=some L:=pl hL (by omega)
 exact uE hs ⟨_,rfl,g,f⟩
theorem uX{m:Md}{A:Option Addr}{cp:Nat}{b:List Int}{w:World}(hsl:aX m w (.slice A b.length cp) b) :
    Calls Tryz.prog 119 #[.slice A b.length cp] w (cc (vB (cE b)) w):=by
 have hln:=aS.len hsl
 have hb:=aX.range hsl
 refine en 23 Tryz.func119 rfl<|ak 1<|cN 1<|sq<|aD 1<|bk<|je (fun x=>[(0,.slice A b.length cp),(2,vB 0),(3,vI (gl b x)),(4,vI (x:Int))]) (fun(x:Nat) w'=>aH [] w w'∧(x≤b.length)) (fun x=>b.length-x) 0 ⟨aH.refl _ _,(by(try dsimp only);omega)⟩ ?_
 rintro k j ⟨a,d⟩
 refine ji [(0,.slice A b.length cp),(2,vB 0),(3,vI (gl b k)),(4,vI (k:Int))] ?_
 have l:k≤b.length:=d
 have hlr:=sx b k
 refine sq<|aD 4<|cb ((decide ((k:Int)<(b.length:Int)))) (fun c=>?_) (fun c=>?_)
 have e:=of_decide_eq_true c
 refine bo<|sq<|bk<|go<|Pl 3<|?_
 exact ft (aX.at_ (aX.old hsl a) k (by omega)) fun f g h i n=>L0<|l9 b.length k h (by omega)<|L0<|eH (p:=⟨f,g+k,none⟩) (v:=vB (b.getD k 0)) i<|bq (b.getD k 0)<|bq ((gl b k)+(b.getD k 0))<|L0<|Oe (vI (Int.tmod ((gl b k)+(b.getD k 0)) 256)) (vI (((gl b k)+(b.getD k 0))%256)) (congrArg (Value.int .i64) (Int.tmod_eq_emod_of_nonneg (by omega)))<|Pl 1<|nl<|bn<|tn<|go<|Pl 1<|bq ((k:Int)+1)<|Pl 1<|nl<|gL (k+1) ⟨a,(by(try dsimp only);omega)⟩ (by omega)
 have e:=of_decide_eq_false c
 refine xt<|tx<|tx<|bx<|tn<|ak 1<|bq (256-(gl b k))<|L0<|Oe (vI (Int.tmod (256-(gl b k)) 256)) (vI ((256-(gl b k))%256)) (congrArg (Value.int .i64) (Int.tmod_eq_emod_of_nonneg (by omega)))<|ah 2<|rt<|rr (vB (((256-(gl b k))%256)%256))<|?_
 have hk:k=b.length:=by omega
 subst hk
 have hs:cE b=(((256-(gl b b.length))%256)%256):=by unfold cE sE;omega
 rw[hs]
 exact⟨rfl,a⟩
theorem BP{m:Md}{A:Option Addr}{cp:Nat}{b:List Int}{w:World}(hsl:aX m w (.slice A b.length cp) b) :
    Calls Tryz.prog 85 #[.slice A b.length cp] w (cc (.bool (ep b)) w):=by
 have hln:=aS.len hsl
 refine en 9 Tryz.func85 rfl<|aD 1<|sq<|aD 3<|cb (((b.length:Int)==0)) (fun a=>?_) (fun a=>?_)
 have c:=ag a
 refine aD 1<|aV<|rr (.bool false)<|?_
 have hs:ep b=false:=by unfold ep;rw[decide_eq_false (by omega)];rfl
 rw[hs]
 exact⟨rfl,(aH.refl [] _)⟩
 have c:=am a
 refine bo<|ak 1<|ay (args:=#[.slice A b.length cp])<|m1 (uX hsl) fun e d=>ah 2<|rt<|rr (.bool ((cE b)==0))<|?_
 have hs:ep b=((cE b)==0):=by unfold ep;rw[decide_eq_true (by omega)];rfl
 rw[hs]
 exact⟨rfl,d⟩
open Go.RowKit
theorem qW{m:Md}{A:Option Addr}{cp:Nat}{b:List Int}{w:World}{dir:Int}(hsl:aX m w (.slice A b.length cp) b)(hb:b.length≤1048576)(hcp:b.length≤cp) :
    Calls Tryz.prog 57 #[vI dir,.slice A b.length cp] w (mO (eD dir b) w):=by
 have hln:(b.length:Int)≤1048576:=by omega
 have hr:dz b:=aX.range hsl
 refine en 86 Tryz.func57 rfl<|sg<|aK #[vB 0,vW 0,vB 0,vB 0,vW 0,vW 0,vW 0,vW 0,vW 0,vW 0,vW 0,vW 0,vW 0,vW 0,nS,nS,nS,nS,vB 0,vB 0,vB 0,vB 0,vB 0,nS] fun bw S l f q=>Pl 1<|cN 3<|sq<|sq<|go<|Pl 3<|cu 3 [16] 19 (((dir != 0)&&(dir != 1))) (fun K T=>?_) ?_
 refine bl 16 ((dir != 0)) (fun z=>?_) (fun z=>?_)
 have ac:=az z
 exact Pl 3<|ce T (dir != 1) (by rw[z];rfl)
 have ac:=aA z
 exact Pl 3<|ce T false (by rw[z];rfl)
 refine nt<|cb (((dir != 0)&&(dir != 1))) (fun i=>?_) (fun i=>?_)
 have U:=(bB i).1
 have V:=(bB i).2
 have bx:=az U
 have bz:=az V
 refine ak 1<|aG f #[vB 0,vW 0,vB 0,vB 0,vW 0,vW 0,vW 0,vW 0,vW 0,vW 0,vW 0,vW 0,vW 0,vW 0,nS,nS,nS,nS,vB 0,vB 0,vB 0,vB 0,vB 0,nS] fun bA ae af=>ah 1<|aV<|bH ae (vI 1)<|?_
 have hs:gN dir b=(cF.zero,1):=by
   unfold gN
   (try simp only[i,U,V,bj,ch,reduceIte])
   all_goals rfl
 rw[← fN]
 refine dL hs ?_
 exact cJ (ud q af l)
 refine bo<|sq<|aD 2<|cb ((decide ((b.length:Int)<9))) (fun j=>?_) (fun j=>?_)
 have ag:=of_decide_eq_true j
 refine ak 1<|aG f #[vB 0,vW 0,vB 0,vB 0,vW 0,vW 0,vW 0,vW 0,vW 0,vW 0,vW 0,vW 0,vW 0,vW 0,nS,nS,nS,nS,vB 0,vB 0,vB 0,vB 0,vB 0,nS] fun bC ai aj=>ah 1<|aV<|bH ai (vI 2)<|?_
 have hs:gN dir b=(cF.zero,2):=by
   unfold gN
   (try simp only[i,j,bj,ch,reduceIte])
   all_goals rfl
 rw[← fN]
 refine dL hs ?_
 exact cJ (ud q aj l)
 have ag:=of_decide_eq_false j
 refine bo<|sq<|aD 2<|cb ((decide (513<(b.length:Int)))) (fun k=>?_) (fun k=>?_)
 have al:=of_decide_eq_true k
 refine ak 1<|aG f #[vB 0,vW 0,vB 0,vB 0,vW 0,vW 0,vW 0,vW 0,vW 0,vW 0,vW 0,vW 0,vW 0,vW 0,nS,nS,nS,nS,vB 0,vB 0,vB 0,vB 0,vB 0,nS] fun bD am an=>ah 1<|aV<|bH am (vI 3)<|?_
 have hs:gN dir b=(cF.zero,3):=by
   unfold gN
   (try simp only[i,j,k,bj,ch,reduceIte])
   all_goals rfl
 rw[← fN]
 refine dL hs ?_
 exact cJ (ud q an l)
 have al:=of_decide_eq_false k
 refine bo<|sq<|ak 1<|?_
 have t:=aX.old hsl q
 refine ft (aX.at_ t 0 (by omega)) fun ap aq aB aC bE=>L0<|l9 b.length 0 aB (by omega)<|L0<|eH (p:=⟨ap,aq+0,none⟩) (v:=vB (b.getD 0 0)) aC<|Pl 2<|bl 31 (((b.getD 0 0)!=58)) (fun o=>?_) (fun o=>?_)
 have aE:=az o
 refine ah 15<|c1<|ak 1<|aG f #[vB 0,vW 0,vB 0,vB 0,vW 0,vW 0,vW 0,vW 0,vW 0,vW 0,vW 0,vW 0,vW 0,vW 0,nS,nS,nS,nS,vB 0,vB 0,vB 0,vB 0,vB 0,nS] fun bF aH aM=>ah 1<|aV<|bH aH (vI 12)<|?_
 have hs:gN dir b=(cF.zero,12):=by
   unfold gN
   (try simp only[i,j,k,o,bj,ch,reduceIte])
   all_goals rfl
 rw[← fN]
 refine dL hs ?_
 exact cJ (ud q aM l)
 have aE:=aA o
 refine Pl 2<|L1<|Oi ((b.length:Int)-2)<|ft (aX.at_ t ((((b.length:Int)-2)).toNat) (by omega)) fun aO aP aQ aR bG=>L1<|vN b.length ((((b.length:Int)-2)).toNat) ((b.length:Int)-2) (by omega) aQ (by omega)<|L1<|eH (p:=⟨aO,aP+((((b.length:Int)-2)).toNat),none⟩) (v:=vB (b.getD ((((b.length:Int)-2)).toNat) 0)) aR<|Pl 3<|bl 39 (((b.getD ((((b.length:Int)-2)).toNat) 0)!=13)) (fun r=>?_) (fun r=>?_)
 have aS:=az r
 refine ah 7<|c1<|ak 1<|aG f #[vB 0,vW 0,vB 0,vB 0,vW 0,vW 0,vW 0,vW 0,vW 0,vW 0,vW 0,vW 0,vW 0,vW 0,nS,nS,nS,nS,vB 0,vB 0,vB 0,vB 0,vB 0,nS] fun bI aT aU=>ah 1<|aV<|bH aT (vI 12)<|?_
 have hs:gN dir b=(cF.zero,12):=by
   unfold gN
   (try simp only[i,j,k,o,r,bj,ch,reduceIte])
   all_goals rfl
 rw[← fN]
 refine dL hs ?_
 exact cJ (ud q aU l)
 have aS:=aA r
 refine Pl 2<|L1<|Oi ((b.length:Int)-1)<|ft (aX.at_ t ((((b.length:Int)-1)).toNat) (by omega)) fun aW aY aZ b0 bJ=>L1<|vN b.length ((((b.length:Int)-1)).toNat) ((b.length:Int)-1) (by omega) aZ (by omega)<|L1<|eH (p:=⟨aW,aY+((((b.length:Int)-1)).toNat),none⟩) (v:=vB (b.getD ((((b.length:Int)-1)).toNat) 0)) b0<|ah 2<|cb (((b.getD ((((b.length:Int)-1)).toNat) 0)!=10)) (fun s=>?_) (fun s=>?_)
 have b1:=az s
 refine ak 1<|aG f #[vB 0,vW 0,vB 0,vB 0,vW 0,vW 0,vW 0,vW 0,vW 0,vW 0,vW 0,vW 0,vW 0,vW 0,nS,nS,nS,nS,vB 0,vB 0,vB 0,vB 0,vB 0,nS] fun bK b2 b3=>ah 1<|aV<|bH b2 (vI 12)<|?_
 have hs:gN dir b=(cF.zero,12):=by
   unfold gN
   (try simp only[i,j,k,o,r,s,bj,ch,reduceIte])
   all_goals rfl
 rw[← fN]
 refine dL hs ?_
 exact cJ (ud q b3 l)
 have b1:=aA s
 refine bo<|ak 2<|bq ((b.length:Int)-2)<|mT (gh (P:=Tryz.prog) 27 5 1 Tryz.underlying27 rfl rfl A b.length cp (lo:=1) (up:=((b.length:Int)-2)) 1 ((((b.length:Int)-2)).toNat) (by omega) (by omega) (by omega) (by omega) (by omega)) fun W hrun64 H=>L0<|gt (.slice W (((((b.length:Int)-2)).toNat)-1) (cp-1)) (eY (kl:=.i64) (kh:=.i64) (lo:=1) (hi:=((b.length:Int)-2)) (A:=A) (n:=b.length) (c:=cp) rfl Tryz.underlying27 (by kernel_rfl) (by kernel_rfl) (by kernel_rfl) (hrun64 _ _ _))<|L0<|gt (.string (strOfNums ((b.take ((((b.length:Int)-2)).toNat)).drop 1))) (cS (A:=W) (n:=(((((b.length:Int)-2)).toNat)-1)) (c:=(cp-1)) rfl (by kernel_rfl) Tryz.underlying27 Tryz.underlying5 Tryz.underlying9 (H _ _ _ _ _ t))<|?_
 rcases hth:cg ((b.take ((((b.length:Int)-2)).toNat)).drop 1) with _|x
 have b4:=(zX (w:=S) (aX.range (H _ _ _ _ _ t)) (by rw[List.length_drop,List.length_take];omega)).mono (qV hth)
 refine ay<|m1 b4 fun bL X=>ah 5<|sq<|aD 2<|c1<|ak 2<|?_
 refine aG (ub X f) #[vB 0,vW 0,vB 0,vB 0,vW 0,vW 0,vW 0,vW 0,vW 0,vW 0,vW 0,vW 0,vW 0,vW 0,nS,nS,nS,nS,vB 0,vB 0,vB 0,vB 0,vB 0,nS] fun bM b5 b7=>ah 1<|aV<|bH b5 (vI 11)<|?_
 have hs:gN dir b=(cF.zero,11):=by
   unfold gN
   (try simp only[i,j,k,o,r,s,bj,ch,hth,reduceIte])
   all_goals rfl
 rw[← fN]
 refine dL hs ?_
 exact cJ (ud q (uz X b7) l)
 have hxl:2*x.length=(((b.take ((((b.length:Int)-2)).toNat)).drop 1)).length:=by have:=lE hth;omega
 have hxl2:(((b.take ((((b.length:Int)-2)).toNat)).drop 1)).length=b.length-3:=by rw[List.length_drop,List.length_take];omega
 have b9:=(zX (w:=S) (aX.range (H _ _ _ _ _ t)) (by rw[List.length_drop,List.length_take];omega)).mono (sD hth)
 refine ay<|e9 b9 fun I D bN J bO bP Y=>ah 5<|sq<|aD 2<|c0<|bo<|sq<|go<|Pl 1<|ay (args:=#[.slice I x.length D])<|m1 (BP (J).rd) fun bQ L=>ah 1<|sq<|aD 2<|?_
 have B:=aJ Y L
 have Z:=aJ q B
 refine cb ((!(ep x))) (fun u=>?_) (fun u=>?_)
 have E:(ep x)=false:=by simpa using u
 refine ak 1<|?_
 refine aG (ub B f) #[vB 0,vW 0,vB 0,vB 0,vW 0,vW 0,vW 0,vW 0,vW 0,vW 0,vW 0,vW 0,vW 0,vW 0,nS,nS,nS,nS,vB 0,vB 0,vB 0,vB 0,vB 0,nS] fun bR ba bb=>ah 1<|aV<|bH ba (vI 10)<|?_
 have hs:gN dir b=(cF.zero,10):=by
   unfold gN
   (try simp only[i,j,k,o,r,s,u,E,bj,ch,hth,reduceIte])
   all_goals rfl
 rw[← fN]
 refine dL hs ?_
 exact cJ (ud Z bb l)
 have E:(ep x)=true:=by simpa using u
 refine bo<|ak 4<|bq ((x.length:Int)-1)<|mT (gh (P:=Tryz.prog) 27 5 1 Tryz.underlying27 rfl rfl I x.length D (lo:=1) (up:=((x.length:Int)-1)) 1 ((((x.length:Int)-1)).toNat) (by omega) (by omega) (by omega) (by omega) (by omega)) fun bc hrun96 a0=>L0<|gt (.slice bc (((((x.length:Int)-1)).toNat)-1) (D-1)) (eY (kl:=.i64) (kh:=.i64) (lo:=1) (hi:=((x.length:Int)-1)) (A:=I) (n:=x.length) (c:=D) rfl Tryz.underlying27 (by kernel_rfl) (by kernel_rfl) (by kernel_rfl) (hrun96 _ _ _))<|?_
 have a1:=ax J L (fun x hx=>aF) (fun _ _ h=>h)
 refine pr (cw dir ((x.take ((((x.length:Int)-1)).toNat)).drop 1)) fun a M N=>?_
 refine ay<|e2 (j6 N (a0 _ _ _ _ _ (a1).rd) (by rw[List.length_drop,List.length_take];omega)) fun d bS bd F=>?_
 have a2:=ax a1 F (fun x hx=>aF) (fun _ _ h=>h)
 refine Pl 3<|aK mZ fun a3 bT a4 bf bg=>aG bf (f8 a d) fun bU bh bi=>ah 1<|sq<|aD 2<|?_
 have O:=ud bg bi a4
 have Q:=aJ F O
 have a5:=aJ Z Q
 refine cb ((M != 0)) (fun C=>?_) (fun C=>?_)
 have bk:=az C
 refine ak 2<|?_
 refine aG (ub (aJ B Q) f) #[vB 0,vW 0,vB 0,vB 0,vW 0,vW 0,vW 0,vW 0,vW 0,vW 0,vW 0,vW 0,vW 0,vW 0,nS,nS,nS,nS,vB 0,vB 0,vB 0,vB 0,vB 0,nS] fun bV bm bn=>ah 1<|aV<|bH bm (vI M)<|?_
 have hs:gN dir b=(cF.zero,M):=by
   unfold gN
   (try simp only[i,j,k,o,r,s,u,E,C,bj,ch,hth,N,reduceIte])
   all_goals rfl
 rw[← fN]
 refine dL hs ?_
 exact cJ (ud a5 bn l)
 have bk:=aA C
 refine bo<|sq<|?_
 have a6:=ax a2 O (fun x hx=>aF) (fun _ _ h=>h)
 refine ft (aX.at_ (a6).rd 0 (by omega)) fun br bs a7 bt bW=>Rg 8 (fun w'=>w'.cell? ⟨br,bs+0,none⟩=some (vB (x.getD 0 0))∧w'.heap[a3]? = some (.cells (f8 a d) 45 (0,0))) fun bX G=>?_
 have a8:=ub G bh
 refine bp ⟨(uc G bt),a8⟩ fun y=>Rt 0 y<|lL 1 y x.length 0 0 rfl a7 (by omega)<|Rl 2 y (fun _ hs=>hs.1)<|Rt 3 y<|Rr 4 y (.agg (f8 a d)) (fun w' hs=>gW (g:=a3) (off:=0) [vB a.code,vB a.fail,vW a.addr,vW a.count,vW a.value,vW a.and_,vW a.or_,vW a.addr2,vW a.sub,vW a.status,vW a.events,vW a.messages,.slice d.aw a.words.length d.kw,.slice d.ab a.bits.length d.kb,.slice d.ad a.data.length d.kd,.slice d.ar a.recs.length d.kr,vB a.mei,vB a.kind,vB a.level,vB a.more,vB a.next,.slice d.ao a.objects.length d.ko] rfl (by kernel_rfl) hs.2 (by kernel_rfl) (by kernel_rfl) rfl)<|Rt 5 y<|?_
 refine R0 6 rfl<|gk (ub (aJ B (aJ Q G)) f) (dH (x.getD 0 0) 0 a d) fun bY bu a9=>?_
 have R:=uz G a9
 refine bp ⟨(cB ((ax a6 R (fun x hx=>(aa (fun e=>(aL (au f) lr J) (e▸hx)) aF)) (fun _ _ h=>h))).rd a7 0 (by omega)),(be a9 (Ne.symm (nb (au f) (le (le Y.size L.size) F.size) a4)) a8)⟩ fun bv=>Rt 7 bv<|re<|tn<|rt<|bH bu (vI 0)<|?_
 have hs:gN dir b=(⟨(x.getD 0 0),0,a⟩,0):=by
   unfold gN
   (try simp only[i,j,k,o,r,s,u,E,C,bj,ch,hth,N,reduceIte])
   all_goals rfl
 rw[← fN]
 refine dL hs ?_
 exact⟨_,rfl,⟨f8 a d,(by as_aux_lemma=>kernel_rfl),(aI.upd (cG.rdt bd (a0 _ _ _ _ _ (a2).rd)) (uz O R) (av (b6 (ub (aJ B F) f) (by decide)) aN)),b8 (x:=(x.getD 0 0)) (by omega),cT (x:=0) (by omega)⟩,(ud a5 R l)⟩
theorem tD{m:Md}{v:Value}{b:List Int}{w:World}{dir:Int}(h:aX m w v b)(hb:b.length≤1048576) : Calls Tryz.prog 57 #[.int .i64 dir,v] w (mO (eD dir b) w):=by
  obtain⟨A,cp,rfl,hc,_⟩:=h.shape
  exact qW h hb hc
theorem kv{m:Md}{v:Value}{b:List Int}{w:World}{dir:Int}{F:cF}{E:Int}(hX:eD dir b=(F,E))(h:aX m w v b)(hb:b.length≤1048576) : Calls Tryz.prog 57 #[.int .i64 dir,v] w (fun e w'=>∃ x,e = .returned (.tuple #[.agg (dH F.unit F.tid F.msg x),.int .i64 E])∧(aI true w' (f8 F.msg x).toList F.msg∧(0≤F.unit∧F.unit<256)∧(0≤F.tid∧F.tid<65536))∧aH [] w w'):=by
  refine(tD h hb).mono ?_
  rintro e w' ⟨cs,rfl,h1,h2⟩
  rw[hX] at h1 ⊢
  obtain⟨c,rfl,h3,h4,h5⟩:=h1
  obtain⟨x,rfl⟩:=mF h3
  exact⟨x,by rw[i2],⟨h3,h4,h5⟩,h2⟩
open Go.RowKit
theorem pZ{m:Md}{A:Option Addr}{cp:Nat}{b:List Int}{w:World}{dir:Int}(hsl:aX m w (.slice A b.length cp) b)(hb:b.length≤1048576)(hcp:b.length≤cp) :
    Calls Tryz.prog 53 #[vI dir,.slice A b.length cp] w (nI (.slice A b.length cp) b (dq dir b) w):=by
 have hln:(b.length:Int)≤1048576:=by omega
 have hrb:=aX.range hsl
 refine en 76 Tryz.func53 rfl<|sg<|aK #[vB 0,vW 0,vB 0,vB 0,vW 0,vW 0,vW 0,vW 0,vW 0,vW 0,vW 0,vW 0,vW 0,vW 0,nS,nS,nS,nS,vB 0,vB 0,vB 0,vB 0,vB 0,nS] fun bk bm o h s=>Pl 1<|cN 3<|sq<|sq<|go<|Pl 3<|cu 3 [13] 16 (((dir != 0)&&(dir != 1))) (fun K J=>?_) ?_
 refine bl 13 ((dir != 0)) (fun z=>?_) (fun z=>?_)
 have a2:=az z
 exact Pl 3<|ce J (dir != 1) (by rw[z];rfl)
 have a2:=aA z
 exact Pl 3<|ce J false (by rw[z];rfl)
 refine nt<|cb (((dir != 0)&&(dir != 1))) (fun f=>?_) (fun f=>?_)
 have L:=(bB f).1
 have M:=(bB f).2
 have bn:=az L
 have bq:=az M
 refine ak 1<|aG h #[vB 0,vW 0,vB 0,vB 0,vW 0,vW 0,vW 0,vW 0,vW 0,vW 0,vW 0,vW 0,vW 0,vW 0,nS,nS,nS,nS,vB 0,vB 0,vB 0,vB 0,vB 0,nS] fun br a3 a4=>ah 1<|aV<|bH a3 (vI 1)<|?_
 have hs:fy dir b=(cF.zero,1):=by
   unfold fy
   (try simp only[f,L,M,bj,ch,reduceIte])
   all_goals rfl
 rw[← fO hrb]
 refine fi hs ?_
 exact ew (ud s a4 o)
 refine bo<|sq<|aD 2<|cb ((decide ((b.length:Int)<8))) (fun i=>?_) (fun i=>?_)
 have a5:=of_decide_eq_true i
 refine ak 1<|aG h #[vB 0,vW 0,vB 0,vB 0,vW 0,vW 0,vW 0,vW 0,vW 0,vW 0,vW 0,vW 0,vW 0,vW 0,nS,nS,nS,nS,vB 0,vB 0,vB 0,vB 0,vB 0,nS] fun bs a6 a7=>ah 1<|aV<|bH a6 (vI 2)<|?_
 have hs:fy dir b=(cF.zero,2):=by
   unfold fy
   (try simp only[f,i,bj,ch,reduceIte])
   all_goals rfl
 rw[← fO hrb]
 refine fi hs ?_
 exact ew (ud s a7 o)
 have a5:=of_decide_eq_false i
 refine bo<|sq<|aD 2<|cb ((decide (260<(b.length:Int)))) (fun j=>?_) (fun j=>?_)
 have a8:=of_decide_eq_true j
 refine ak 1<|aG h #[vB 0,vW 0,vB 0,vB 0,vW 0,vW 0,vW 0,vW 0,vW 0,vW 0,vW 0,vW 0,vW 0,vW 0,nS,nS,nS,nS,vB 0,vB 0,vB 0,vB 0,vB 0,nS] fun bt a9 aa=>ah 1<|aV<|bH a9 (vI 3)<|?_
 have hs:fy dir b=(cF.zero,3):=by
   unfold fy
   (try simp only[f,i,j,bj,ch,reduceIte])
   all_goals rfl
 rw[← fO hrb]
 refine fi hs ?_
 exact ew (ud s aa o)
 have a8:=of_decide_eq_false j
 refine bo<|sq<|ak 1<|?_
 have B:=aX.old hsl s
 refine ft (aX.at_ B 2 (by omega)) fun ac ae af ag bu=>L0<|l9 b.length 2 af (by omega)<|L0<|eH (p:=⟨ac,ae+2,none⟩) (v:=vB (b.getD 2 0)) ag<|Pl 2<|bl 28 (((b.getD 2 0)!=0)) (fun r=>?_) (fun r=>?_)
 have ai:=az r
 refine ah 5<|c1<|ak 1<|aG h #[vB 0,vW 0,vB 0,vB 0,vW 0,vW 0,vW 0,vW 0,vW 0,vW 0,vW 0,vW 0,vW 0,vW 0,nS,nS,nS,nS,vB 0,vB 0,vB 0,vB 0,vB 0,nS] fun bv aj al=>ah 1<|aV<|bH aj (vI 13)<|?_
 have hs:fy dir b=(cF.zero,13):=by
   unfold fy
   (try simp only[f,i,j,r,bj,ch,reduceIte])
   all_goals rfl
 rw[← fO hrb]
 refine fi hs ?_
 exact ew (ud s al o)
 have ai:=aA r
 refine Pl 1<|ft (aX.at_ B 3 (by omega)) fun am an ap aq bw=>L1<|l9 b.length 3 ap (by omega)<|L1<|eH (p:=⟨am,an+3,none⟩) (v:=vB (b.getD 3 0)) aq<|ah 2<|cb (((b.getD 3 0)!=0)) (fun t=>?_) (fun t=>?_)
 have ax:=az t
 refine ak 1<|aG h #[vB 0,vW 0,vB 0,vB 0,vW 0,vW 0,vW 0,vW 0,vW 0,vW 0,vW 0,vW 0,vW 0,vW 0,nS,nS,nS,nS,vB 0,vB 0,vB 0,vB 0,vB 0,nS] fun bx aB aC=>ah 1<|aV<|bH aB (vI 13)<|?_
 have hs:fy dir b=(cF.zero,13):=by
   unfold fy
   (try simp only[f,i,j,r,t,bj,ch,reduceIte])
   all_goals rfl
 rw[← fO hrb]
 refine fi hs ?_
 exact ew (ud s aC o)
 have ax:=aA t
 refine bo<|sq<|sq<|ft (aX.at_ B 4 (by omega)) fun aE aF aH aI bz=>ft (aX.at_ B 5 (by omega)) fun aL aM aO aP bA=>Rg 13 (fun w'=>w'.cell? ⟨aE,aF+4,none⟩=some (vB (b.getD 4 0))∧w'.cell? ⟨aL,aM+5,none⟩=some (vB (b.getD 5 0))) fun bC l=>bp ⟨(uc l aI),(uc l aP)⟩ fun e=>Rt 0 e<|lL 1 e b.length 4 4 rfl aH (by omega)<|Rl 2 e (fun _ hs=>hs.1)<|Rr 3 e (vI (b.getD 4 0)) (fun _ _=>bW (vI (IntKind.i64.wrap (b.getD 4 0))) (by kernel_rfl) (congrArg (Value.int .i64) (i64_in (by omega))))<|Rr 4 e (vI (256*(b.getD 4 0))) (fun _ _=>bW (vI (IntKind.i64.wrap (256*(b.getD 4 0)))) (by kernel_rfl) (congrArg (Value.int .i64) (IntWalk.i64_in _ (by omega))))<|Rt 5 e<|lL 6 e b.length 5 5 rfl aO (by omega)<|Rl 7 e (fun _ hs=>hs.2)<|Rr 8 e (vI (b.getD 5 0)) (fun _ _=>bW (vI (IntKind.i64.wrap (b.getD 5 0))) (by kernel_rfl) (congrArg (Value.int .i64) (i64_in (by omega))))<|Rr 9 e (vI ((256*(b.getD 4 0))+(b.getD 5 0))) (fun _ _=>bW (vI (IntKind.i64.wrap ((256*(b.getD 4 0))+(b.getD 5 0)))) (by kernel_rfl) (congrArg (Value.int .i64) (IntWalk.i64_in _ (by omega))))<|Rt 10 e<|Rr 11 e (vI ((b.length:Int)-6)) (fun _ _=>bW (vI (IntKind.i64.wrap ((b.length:Int)-6))) (by kernel_rfl) (congrArg (Value.int .i64) (IntWalk.i64_in _ (by omega))))<|Rt 12 e<|re<|tn<|?_
 have N:=aJ s l
 refine cb ((((256*(b.getD 4 0))+(b.getD 5 0))!=((b.length:Int)-6))) (fun u=>?_) (fun u=>?_)
 have aQ:=az u
 refine ak 1<|?_
 refine aG (ub l h) #[vB 0,vW 0,vB 0,vB 0,vW 0,vW 0,vW 0,vW 0,vW 0,vW 0,vW 0,vW 0,vW 0,vW 0,nS,nS,nS,nS,vB 0,vB 0,vB 0,vB 0,vB 0,nS] fun bD aR aS=>ah 1<|aV<|bH aR (vI 5)<|?_
 have hs:fy dir b=(cF.zero,5):=by
   unfold fy
   (try simp only[f,i,j,r,t,u,bj,ch,reduceIte])
   all_goals rfl
 rw[← fO hrb]
 refine fi hs ?_
 exact ew (ud N aS o)
 have aQ:=aA u
 refine bo<|ak 2<|mT (eg (P:=Tryz.prog) 27 5 1 Tryz.underlying27 rfl rfl A b.length cp 7 (by omega)) fun aT hrun84 O=>L0<|gt (.slice aT (b.length-7) (cp-7)) (eA (kl:=.i64) (k:=((7:Nat) : Int)) (A:=A) (n:=b.length) (c:=cp) rfl Tryz.underlying27 (by kernel_rfl) (by kernel_rfl) (hrun84 _ _))<|?_
 have Q:=aX.old B l
 refine pr (cw dir (b.drop 7)) fun a E F=>?_
 refine ay<|e2 (j6 F (O _ _ _ _ _ Q) (by rw[List.length_drop];omega)) fun x90 bE aU G=>?_
 have aW:=cG.sub aU (fun m' w' q=>(O _ _ _ _ _ q))
 refine Pl 3<|aK mZ fun R bF S aY aZ=>aG aY (f8 a x90) fun bG b0 b1=>ah 1<|sq<|aD 2<|?_
 have T:=ud aZ b1 S
 have D:=aJ G T
 have U:=aJ N D
 refine cb ((E != 0)) (fun C=>?_) (fun C=>?_)
 have b2:=az C
 refine ak 2<|?_
 refine aG (ub (aJ l D) h) #[vB 0,vW 0,vB 0,vB 0,vW 0,vW 0,vW 0,vW 0,vW 0,vW 0,vW 0,vW 0,vW 0,vW 0,nS,nS,nS,nS,vB 0,vB 0,vB 0,vB 0,vB 0,nS] fun bI b3 b4=>ah 1<|aV<|bH b3 (vI E)<|?_
 have hs:fy dir b=(cF.zero,E):=by
   unfold fy
   (try simp only[f,i,j,r,t,u,C,bj,ch,F,reduceIte])
   all_goals rfl
 rw[← fO hrb]
 refine fi hs ?_
 exact ew (ud U b4 o)
 have b2:=aA C
 refine bo<|sq<|?_
 have H:=aX.old Q D
 refine ft (aX.at_ H 6 (by omega)) fun b5 b7 V b9 bJ=>ft (aX.at_ H 0 (by omega)) fun ba bb W bc bK=>ft (aX.at_ H 1 (by omega)) fun bd bf X bg bL=>Rg 18 (fun w'=>w'.cell? ⟨b5,b7+6,none⟩=some (vB (b.getD 6 0))∧w'.cell? ⟨ba,bb+0,none⟩=some (vB (b.getD 0 0))∧w'.cell? ⟨bd,bf+1,none⟩=some (vB (b.getD 1 0))∧w'.heap[R]? = some (.cells (f8 a x90) 45 (0,0))) fun bM y=>?_
 have Y:=ub y b0
 refine bp ⟨(uc y b9),(uc y bc),(uc y bg),Y⟩ fun d=>Rt 0 d<|lL 1 d b.length 6 6 rfl V (by omega)<|Rl 2 d (fun _ hs=>hs.1)<|Rt 3 d<|lL 4 d b.length 0 0 rfl W (by omega)<|Rl 5 d (fun _ hs=>hs.2.1)<|Rr 6 d (vW (b.getD 0 0)) (fun _ _=>bW (vW (IntKind.u16.wrap (b.getD 0 0))) (by kernel_rfl) (congrArg (Value.int .u16) (jm (by omega))))<|Rt 7 d<|Rt 8 d<|lL 9 d b.length 1 1 rfl X (by omega)<|Rl 10 d (fun _ hs=>hs.2.2.1)<|Rr 11 d (vW (b.getD 1 0)) (fun _ _=>bW (vW (IntKind.u16.wrap (b.getD 1 0))) (by kernel_rfl) (congrArg (Value.int .u16) (jm (by omega))))<|Rt 12 d<|Rt 13 d<|Rr 14 d (.agg (f8 a x90)) (fun w' hs=>gW (g:=R) (off:=0) [vB a.code,vB a.fail,vW a.addr,vW a.count,vW a.value,vW a.and_,vW a.or_,vW a.addr2,vW a.sub,vW a.status,vW a.events,vW a.messages,.slice x90.aw a.words.length x90.kw,.slice x90.ab a.bits.length x90.kb,.slice x90.ad a.data.length x90.kd,.slice x90.ar a.recs.length x90.kr,vB a.mei,vB a.kind,vB a.level,vB a.more,vB a.next,.slice x90.ao a.objects.length x90.ko] rfl (by kernel_rfl) hs.2.2.2 (by kernel_rfl) (by kernel_rfl) rfl)<|Rt 15 d<|?_
 refine R0 16 rfl<|gk (ub (aJ l (aJ D y)) h) (dH (b.getD 6 0) ((((256*(b.getD 0 0))%65536)+(b.getD 1 0))%65536) a x90) fun bN bh Z=>?_
 have a0:=uz y Z
 have a1:=ud U a0 o
 have I:=aX.old hsl a1
 refine bp ⟨(cB I V 6 (by omega)),(cB I W 0 (by omega)),(cB I X 1 (by omega)),(be Z (Ne.symm (nb (au h) (le l.size G.size) S)) Y)⟩ fun bi=>Rt 17 bi<|re<|tn<|rt<|bH bh (vI 0)<|?_
 have hs:fy dir b=(⟨(b.getD 6 0),((((256*(b.getD 0 0))%65536)+(b.getD 1 0))%65536),a⟩,0):=by
   unfold fy
   (try simp only[f,i,j,r,t,u,C,bj,ch,F,reduceIte])
   all_goals rfl
 rw[← fO hrb]
 refine fi hs ?_
 exact⟨x90,rfl,⟨(cG.upd aW (uz T a0) (av (b6 (ub (aJ l G) h) (by decide)) aN)),b8 (x:=(b.getD 6 0)) (by omega),cT (x:=((((256*(b.getD 0 0))%65536)+(b.getD 1 0))%65536)) (by omega)⟩,a1⟩
theorem rM{m:Md}{v:Value}{b:List Int}{w:World}{dir:Int}(h:aX m w v b)(hb:b.length≤1048576) : Calls Tryz.prog 53 #[.int .i64 dir,v] w (nI v b (dq dir b) w):=by
  obtain⟨A,cp,rfl,hc,_⟩:=h.shape
  exact pZ h hb hc
theorem jU{m:Md}{v:Value}{b:List Int}{w:World}{dir:Int}{F:cF}{E:Int}(hX:dq dir b=(F,E))(h:aX m w v b)(hb:b.length≤1048576) : Calls Tryz.prog 53 #[.int .i64 dir,v] w (fun e w'=>∃ x,e = .returned (.tuple #[.agg (dH F.unit F.tid F.msg x),.int .i64 E])∧(cG v b w' (f8 F.msg x).toList F.msg∧(0≤F.unit∧F.unit<256)∧(0≤F.tid∧F.tid<65536))∧aH [] w w'):=by
  refine(rM h hb).mono ?_
  rintro e w' ⟨x,rfl,h1,h2⟩
  rw[hX] at h1 ⊢
  exact⟨x,rfl,h1,h2⟩
open Go.RowKit
theorem aI.flz{m:Md}{w:World}{cs:List Value}{M:aT}(h:aI m w cs M) : aI false w cs M:=by
  obtain⟨vw,vb,vd,vr,vo,h0,h1,h2,h3,h4,h5,h6⟩:=h
  exact⟨vw,vb,vd,vr,vo,h0,aS.any h1 fun _ _ q=>q,aS.any h2 fun _ _ q=>q,aS.any h3 fun _ _ q=>q,aS.any h4 fun r cs ⟨v,a,b,c⟩=>⟨v,a,aS.any b fun _ _ q=>q,c⟩,aS.any h5 fun r cs ⟨v,a,b,c⟩=>⟨v,a,aS.any b fun _ _ q=>q,c⟩,h6⟩
theorem rD{k:Int}{m:Md}{A:Option Addr}{cp:Nat}{b:List Int}{w:World}{dir:Int}{F:cF}{E:Int}(hX:jh k dir b=(F,E))(hsl:aX m w (.slice A b.length cp) b)(hb:b.length≤1048576) :
    Calls Tryz.prog 63 #[vI k,vI dir,.slice A b.length cp] w (fun e w'=>∃ x,e = .returned (.tuple #[.agg (dH F.unit F.tid F.msg x),vI E])∧(aI false w' (f8 F.msg x).toList F.msg∧(0≤F.unit∧F.unit<256)∧(0≤F.tid∧F.tid<65536))∧aH [] w w'):=by
 have hln:(b.length:Int)≤1048576:=by omega
 refine en 31 Tryz.func63 rfl<|sg<|aK #[vB 0,vW 0,vB 0,vB 0,vW 0,vW 0,vW 0,vW 0,vW 0,vW 0,vW 0,vW 0,vW 0,vW 0,nS,nS,nS,nS,vB 0,vB 0,vB 0,vB 0,vB 0,nS] fun a4 a5 g h a=>ah 1<|sq<|aD 1<|bk<|aD 2<|cb ((k==0)) (fun c=>?_) (fun c=>?_)
 have H:=ag c
 refine ak 2<|?_
 refine pr (ec dir b) fun i I n=>?_
 refine ay<|e2 (kT n (aX.old hsl a) (by omega)) fun x20 a6 J o=>?_
 obtain⟨K,L,M⟩:=J
 refine Pl 2<|?_
 have p:=ub o h
 refine aG p (dH i.unit i.tid i.msg x20) fun a7 N q=>ah 1<|rt<|br<|tr<|bH N (vI I)<|?_
 have r:=ud a (uz o q) g
 unfold jh at hX
 simp only[c,cond_true,cond_false] at hX
 obtain⟨rfl,rfl⟩:=Prod.mk.inj (n.symm.trans hX)
 exact⟨x20,rfl,⟨(cG.rd (cG.upd K q (av (b6 p (by decide)) aN)) (aX.old hsl r)),L,M⟩,r⟩
 have H:=am c
 refine aD 2<|cb ((k==1)) (fun d=>?_) (fun d=>?_)
 have O:=ag d
 refine ak 2<|?_
 refine pr (eD dir b) fun j P s=>?_
 refine ay<|e2 (kv s (aX.old hsl a) (by omega)) fun x41 a8 Q t=>?_
 obtain⟨R,S,T⟩:=Q
 refine Pl 2<|?_
 have u:=ub t h
 refine aG u (dH j.unit j.tid j.msg x41) fun a9 U v=>ah 1<|rt<|br<|tr<|bH U (vI P)<|?_
 unfold jh at hX
 simp only[c,d,cond_true,cond_false] at hX
 obtain⟨rfl,rfl⟩:=Prod.mk.inj (s.symm.trans hX)
 exact⟨x41,rfl,⟨(aI.flz (aI.upd R v (av (b6 u (by decide)) aN))),S,T⟩,(ud a (uz t v) g)⟩
 have O:=am d
 refine aD 2<|cb ((k==2)) (fun f=>?_) (fun f=>?_)
 have V:=ag f
 refine ak 2<|?_
 refine pr (dq dir b) fun l W y=>?_
 refine ay<|e2 (jU y (aX.old hsl a) (by omega)) fun x61 aa X z=>?_
 obtain⟨Y,Z,a0⟩:=X
 refine Pl 2<|?_
 have B:=ub z h
 refine aG B (dH l.unit l.tid l.msg x61) fun ab a1 C=>ah 1<|rt<|br<|tr<|bH a1 (vI W)<|?_
 have D:=ud a (uz z C) g
 unfold jh at hX
 simp only[c,d,f,cond_true,cond_false] at hX
 obtain⟨rfl,rfl⟩:=Prod.mk.inj (y.symm.trans hX)
 exact⟨x61,rfl,⟨(cG.rd (cG.upd Y C (av (b6 B (by decide)) aN)) (aX.old hsl D)),Z,a0⟩,D⟩
 have V:=am f
 refine sk<|bn<|tn<|ak 1<|aG h #[vB 0,vW 0,vB 0,vB 0,vW 0,vW 0,vW 0,vW 0,vW 0,vW 0,vW 0,vW 0,vW 0,vW 0,nS,nS,nS,nS,vB 0,vB 0,vB 0,vB 0,vB 0,nS] fun ac a2 a3=>ah 1<|rt<|bH a2 (vI 1)<|?_
 have G:=ud a a3 g
 unfold jh at hX
 simp only[c,d,f,cond_true,cond_false] at hX
 obtain⟨rfl,rfl⟩:=Prod.mk.inj hX
 exact⟨F2,(by kernel_rfl),⟨cG.rd (cG.zero _ _ _) (aX.old hsl G),(show(0:Int)≤0∧(0:Int)<256 from by decide),(show(0:Int)≤0∧(0:Int)<65536 from by decide)⟩,G⟩
theorem pP{k:Int}{m:Md}{v:Value}{b:List Int}{w:World}{dir:Int}{F:cF}{E:Int}(hX:jh k dir b=(F,E))(h:aX m w v b)(hb:b.length≤1048576) : Calls Tryz.prog 63 #[.int .i64 k,.int .i64 dir,v] w (fun e w'=>∃ x,e = .returned (.tuple #[.agg (dH F.unit F.tid F.msg x),.int .i64 E])∧(aI false w' (f8 F.msg x).toList F.msg∧(0≤F.unit∧F.unit<256)∧(0≤F.tid∧F.tid<65536))∧aH [] w w'):=by
  obtain⟨A,cp,rfl,_,_⟩:=h.shape
  exact rD hX h hb
open Go.RowKit
theorem yD{xs L:List Int}{k:Nat}(h:L=aP (xs.take k))(h1:¬ ((k:Nat) : Int)<((xs.length:Nat) : Int)) : L=aP xs:=by
  rw[h,List.take_of_length_le (by omega)]
theorem Dq{m:Md}{A:Option Addr}{cp:Nat}{xs:List Int}{w:World}(h:eG m w (.slice A xs.length cp) xs)(hn:xs.length≤1048576) : Calls Tryz.prog 129 #[.slice A xs.length cp] w (D2 xs w):=by
 refine en 27 Tryz.func129 rfl<|ak 1<|cN 1<|sq<|aD 1<|bk<|je (fun x=>[(0,.slice A xs.length cp),(2,nS),(3,.slice x.2.2.1 x.2.1.length x.2.2.2),(4,vI (x.1:Int))]) (fun(x:Nat × List Int × Option Addr × Nat) w'=>aH [] w w'∧eB w.heap.size w' (.slice x.2.2.1 x.2.1.length x.2.2.2) x.2.1∧(x.1≤xs.length)∧(x.2.1=aP (xs.take x.1))) (fun x=>xs.length-x.1) (0,[],none,0) ⟨aH.refl _ _,(b7.nil w.heap.size _ _ wy _),(by(try dsimp only);omega),rfl⟩ ?_
 rintro⟨k,L,B,cq⟩ o ⟨b,p,q,r⟩
 refine ji [(0,.slice A xs.length cp),(2,nS),(3,.slice B L.length cq),(4,vI (k:Int))] ?_
 have d:eB w.heap.size o (.slice B L.length cq) L:=p
 have H:k≤xs.length:=q
 have I:L=aP (xs.take k):=r
 have hL:L=aP (xs.take k):=by assumption
 have hLn:L.length=2*k:=by rw[hL,aB,List.length_take];omega
 refine sq<|aD 4<|cb ((decide ((k:Int)<(xs.length:Int)))) (fun c=>?_) (fun c=>?_)
 have s:=of_decide_eq_true c
 refine bo<|sq<|bk<|?_
 refine ft (eG.at_ (eG.old h b) k (by omega)) fun t u f j J=>Rg 16 (fun w'=>w'.cell? ⟨t,u+k,none⟩=some (vW (xs.getD k 0))) fun K g=>bp (uc g j) fun a=>Rt 0 a<|Rt 1 a<|Rt 2 a<|lL 3 a xs.length k (k:Int) rfl f (by omega)<|Rl 4 a (fun _ hs=>hs)<|Rr 5 a (vW ((xs.getD k 0)/256)) (fun _ _=>bW (vW (IntKind.u16.wrap (Int.tdiv (xs.getD k 0) 256))) (by kernel_rfl) (congrArg (Value.int .u16) (mr (by omega) (by omega))))<|Rt 6 a<|Rt 7 a<|Rt 8 a<|lL 9 a xs.length k (k:Int) rfl f (by omega)<|Rl 10 a (fun _ hs=>hs)<|Rr 11 a (vW ((xs.getD k 0)%256)) (fun _ _=>bW (vW (Int.tmod (xs.getD k 0) 256)) (by kernel_rfl) (congrArg (Value.int .u16) (Int.tmod_eq_emod_of_nonneg (by omega))))<|Rt 12 a<|R0 13 rfl<|d9 (m:=2) (e:=5) #[vB (((xs.getD k 0)/256)%256),vB (((xs.getD k 0)%256)%256)] fun M N v y l=>?_
 have z:=cL v (xs:=[(((xs.getD k 0)/256)%256),(((xs.getD k 0)%256)%256)]) (by as_aux_lemma=>kernel_rfl) (ap (by omega) (ap (by omega) aR)) (by(try simp only[List.length_cons,List.length_nil]);omega) y
 have i:=aJ g l
 refine bp (uc i j) fun O=>?_
 refine R0 14 rfl<|bS b9 (xs:=L) (ys:=([(((xs.getD k 0)/256)%256),(((xs.getD k 0)%256)%256)])) (vB 0) 1 (ax d i (fun x hx=>aF) (fun _ _ h=>h)) (z).rd (by(try simp only[bV,aB]);omega) (le (le b.size g.size) l.size) fun C D P E F=>?_
 have n:=ut b (ut (aH.mono (S':=(ob B++[])) i aC) F (aq il aC)) (aq (aU d lr) aC)
 exact bp (cW (eG.old h n) f k (by omega)) fun G=>Rt 15 G<|re<|bn<|tn<|go<|Pl 1<|bq ((k:Int)+1)<|Pl 1<|nl<|gL ((k+1),(L++[(((xs.getD k 0)/256)%256),(((xs.getD k 0)%256)%256)]),C,D) ⟨n,E,(by(try dsimp only);omega),(by(try dsimp only);rw[show((xs.getD k 0)/256)%256=(xs.getD k 0)/256 from by omega,show((xs.getD k 0)%256)%256=(xs.getD k 0)%256 from by omega,oX xs k (by omega),← hL])⟩ (by omega)
 have s:=of_decide_eq_false c
 refine xt<|tx<|tx<|bx<|tn<|aD 2<|rt<|rr (.slice B L.length cq)<|?_
 have hs:L=aP xs:=yD hL (of_decide_eq_false c)
 exact⟨_,rfl,by rw[← hs];exact d,b⟩
theorem i6{m:Md}{v:Value}{xs:List Int}{w:World}(h:eG m w v xs)(hn:xs.length≤1048576) : Calls Tryz.prog 129 #[v] w (D2 xs w):=by
  obtain⟨A,cp,rfl,_,_⟩:=h.shape
  exact Dq h hn
open Go.RowKit
def er (dir:Int)(M:aT) : List Int :=
  if M.code==1 || M.code==2 then (if dir==1 then [(M.data.length:Int)%256]++M.data else aP [M.addr,M.count])
  else if M.code==5 then aP [M.addr,M.value]
  else if M.code==15 then (if dir==0 then (aP [M.addr,M.count]++[((bZ M.bits).length:Int)%256])++bZ M.bits else aP [M.addr,M.count])
  else aP [M.addr,M.count]
def fk (dir:Int)(M:aT) : List Int :=
  if M.code==8 then aP ([M.sub]++M.words)
  else if dir==0 then []
  else if M.code==7 then [M.value%256]
  else if M.code==11 then aP [M.status,M.events]
  else if M.code==12 then (([((M.data.length:Int)+6)%256]++aP [M.status,M.events,M.messages])++M.data)
  else [(M.data.length:Int)%256]++M.data
def ea (dir:Int)(M:aT) : List Int :=
  if dir==1&&((M.code==3 || M.code==4)||M.code==23) then (aP []++[(2*(M.words.length:Int))%256])++aP M.words
  else if (M.code==3 || M.code==4)||(M.code==16&&dir==1) then aP [M.addr,M.count]
  else if M.code==6 then aP [M.addr,M.value]
  else if M.code==16 then ((aP [M.addr,M.count]++[(2*(M.words.length:Int))%256])++aP M.words)
  else if M.code==22 then aP [M.addr,M.and_,M.or_]
  else if M.code==23 then ((aP [M.addr,M.count,M.addr2,(M.words.length:Int)%65536]++[(2*(M.words.length:Int))%256])++aP M.words)
  else if M.code==24&&dir==0 then aP [M.addr]
  else if M.code==24 then aP [(2*(M.words.length:Int)+2)%65536,(M.words.length:Int)%65536]++aP M.words
  else (aP []++[(2*(M.words.length:Int))%256])++aP M.words
theorem tR{m:Md}{cs:Array Value}{M:aT}{w:World}{dir:Int}(h:aI m w cs.toList M)(hf:bi M) : Calls Tryz.prog 184 #[vI dir,.agg cs] w (jQ (er dir M) w):=by
 refine fE h fun Aw kw Ab kb Ad kd Ar kr Ao ko e hw hbt hd hr ho _ _ _ _ _ _ _ _ _ _ q0 q1 q2 q3 q4 q5 q6 q7 q8 q9 ar au av aw az aA aG=>?_
 subst e
 have hf1:=hf.words
 have hf2:=hf.bits
 have hf3:=hf.data
 have hf4:=hf.recs
 have hf5:=hf.objects
 refine en 52 Tryz.func184 rfl<|sg<|L0<|da (mG M.code M.fail M.addr M.count M.value M.and_ M.or_ M.addr2 M.sub M.status M.events M.messages (.slice Aw M.words.length kw) (.slice Ab M.bits.length kb) (.slice Ad M.data.length kd) (.slice Ar M.recs.length kr) M.mei M.kind M.level M.more M.next (.slice Ao M.objects.length ko)) fun aK aL aN t c=>Pl 1<|aM 1<|aE t 2<|Pl 1<|aE t 3<|L0<|d9 (m:=2) (e:=37) #[vW M.addr,vW M.count] fun aO aQ K L d=>?_
 have N:=eJ K (xs:=[M.addr,M.count]) (by as_aux_lemma=>kernel_rfl) (ap (by omega) (ap (by omega) aR)) (by(try simp only[List.length_cons,List.length_nil]);omega) L
 refine ay<|e9 (i6 (xs:=[M.addr,M.count]) (N).rd (by(try simp only[bV]);omega)) fun i q aS j aV aW r=>ah 1<|sq<|ak 1<|?_
 have A:=aJ d r
 have g:=ub A t
 refine aE g 0<|nt<|bk<|sq<|aD 2<|?_
 have a:=aJ c A
 refine cb ((M.code==1)) (fun b=>?_) (fun b=>?_)
 have O:=ag b
 refine bo<|ct b<|aD 2<|cb ((dir==1)) (fun n=>?_) (fun n=>?_)
 have P:=ag n
 refine ak 1<|aE g 14<|Pl 2<|L0<|d9 (m:=1) (e:=5) #[vB ((M.data.length:Int)%256)] fun aY aZ Q R u=>?_
 have B:=cL Q (xs:=[((M.data.length:Int)%256)]) (by as_aux_lemma=>kernel_rfl) (ap (by omega) aR) (by(try simp only[List.length_cons,List.length_nil]);omega) R
 refine Pl 1<|?_
 refine aE (ub u g) 14<|?_
 have C:=aJ a u
 refine L0<|bS b9 (xs:=([((M.data.length:Int)%256)])) (ys:=M.data) (vB 0) 1 B (aX.old hd C) (by(try simp only[bV,aB]);omega) u.size fun S T b0 U V=>ah 1<|rt<|br<|tr<|rr (.slice S (([((M.data.length:Int)%256)]++M.data).length) T)<|?_
 exact cC (by unfold er;(try simp only[b,n,bj,Bool.or_true,Bool.true_or,Bool.or_false,Bool.false_or,Bool.and_true,Bool.true_and,Bool.and_false,Bool.false_and,reduceIte])<;>rfl) ⟨_,rfl,(b7.weaken U a.size),(ut C V (aq (aU B a.size) aC))⟩
 have P:=am n
 exact sk<|bn<|tn<|aD 2<|rt<|rr (.slice i ((aP ([M.addr,M.count])).length) q)<|cC (by unfold er;(try simp only[b,n,bj,Bool.or_true,Bool.true_or,Bool.or_false,Bool.false_or,Bool.and_true,Bool.true_and,Bool.and_false,Bool.false_and,reduceIte])<;>rfl) ⟨_,rfl,(b7.weaken j (le c.size d.size)),a⟩
 have O:=am b
 refine go<|ah 2<|cb ((M.code==2)) (fun f=>?_) (fun f=>?_)
 have W:=ag f
 refine aD 2<|cb ((dir==1)) (fun o=>?_) (fun o=>?_)
 have X:=ag o
 refine ak 1<|aE g 14<|Pl 2<|L0<|d9 (m:=1) (e:=5) #[vB ((M.data.length:Int)%256)] fun b1 b2 Y Z v=>?_
 have D:=cL Y (xs:=[((M.data.length:Int)%256)]) (by as_aux_lemma=>kernel_rfl) (ap (by omega) aR) (by(try simp only[List.length_cons,List.length_nil]);omega) Z
 refine Pl 1<|?_
 refine aE (ub v g) 14<|?_
 have E:=aJ a v
 refine L0<|bS b9 (xs:=([((M.data.length:Int)%256)])) (ys:=M.data) (vB 0) 1 D (aX.old hd E) (by(try simp only[bV,aB]);omega) v.size fun a0 a1 b3 a2 a3=>ah 1<|rt<|br<|tr<|rr (.slice a0 (([((M.data.length:Int)%256)]++M.data).length) a1)<|?_
 exact cC (by unfold er;(try simp only[b,f,o,bj,Bool.or_true,Bool.true_or,Bool.or_false,Bool.false_or,Bool.and_true,Bool.true_and,Bool.and_false,Bool.false_and,reduceIte])<;>rfl) ⟨_,rfl,(b7.weaken a2 a.size),(ut E a3 (aq (aU D a.size) aC))⟩
 have X:=am o
 exact sk<|bn<|tn<|aD 2<|rt<|rr (.slice i ((aP ([M.addr,M.count])).length) q)<|cC (by unfold er;(try simp only[b,f,o,bj,Bool.or_true,Bool.true_or,Bool.or_false,Bool.false_or,Bool.and_true,Bool.true_and,Bool.and_false,Bool.false_and,reduceIte])<;>rfl) ⟨_,rfl,(b7.weaken j (le c.size d.size)),a⟩
 have W:=am f
 refine aD 2<|cb ((M.code==5)) (fun k=>?_) (fun k=>?_)
 have a4:=ag k
 refine ak 1<|aE g 2<|Pl 1<|aE g 4<|L0<|d9 (m:=2) (e:=37) #[vW M.addr,vW M.value] fun b4 b5 a5 a6 F=>?_
 have a7:=eJ a5 (xs:=[M.addr,M.value]) (by as_aux_lemma=>kernel_rfl) (ap (by omega) (ap (by omega) aR)) (by(try simp only[List.length_cons,List.length_nil]);omega) a6
 refine ay<|e9 (i6 (xs:=[M.addr,M.value]) (a7).rd (by(try simp only[bV]);omega)) fun a8 a9 b6 aa b8 ba ab=>ah 1<|rt<|br<|tr<|rr (.slice a8 ((aP ([M.addr,M.value])).length) a9)<|?_
 exact cC (by unfold er;(try simp only[b,f,k,bj,Bool.or_true,Bool.true_or,Bool.or_false,Bool.false_or,Bool.and_true,Bool.true_and,Bool.and_false,Bool.false_and,reduceIte])<;>rfl) ⟨_,rfl,(b7.weaken aa (le (le (le c.size d.size) r.size) F.size)),(aJ a (aJ F ab))⟩
 have a4:=am k
 refine aD 2<|cb ((M.code==15)) (fun l=>?_) (fun l=>?_)
 have ac:=ag l
 refine aD 2<|cb ((dir==0)) (fun p=>?_) (fun p=>?_)
 have ad:=ag p
 refine ak 1<|aE g 13<|?_
 refine ay<|e9 (Ce (jb.old hbt a) (by omega)) fun bb bc bd G be bf y=>?_
 have bg:(bZ M.bits).length≤1024:=by simp only[bZ,List.length_map,List.length_range,eo];omega
 refine Pl 1<|aM 4<|L0<|d9 (m:=1) (e:=5) #[vB (((bZ M.bits).length:Int)%256)] fun bh bl ae af s=>?_
 have ai:=cL ae (xs:=[(((bZ M.bits).length:Int)%256)]) (by as_aux_lemma=>kernel_rfl) (ap (by omega) aR) (by(try simp only[List.length_cons,List.length_nil]);omega) af
 have H:=aJ y s
 refine L0<|bS b9 (xs:=(aP ([M.addr,M.count]))) (ys:=([(((bZ M.bits).length:Int)%256)])) (vB 0) 1 (ax j H (fun x hx=>aF) (fun _ _ h=>h)) (ai).rd (by(try simp only[bV,aB]);omega) (le (le r.size y.size) s.size) fun I bm bp J z=>Pl 1<|?_
 refine L0<|bS b9 (xs:=((aP ([M.addr,M.count]))++[(((bZ M.bits).length:Int)%256)])) (ys:=(bZ M.bits)) (vB 0) 1 J ((ax G (ut (aH.mono (S':=(ob i++[])) s aC) z (aq il aC)) (fun x hx=>(bC ((km G j lr) x hx) aF)) (fun _ _ h=>h))).rd (by(try simp only[bV,aB]);omega) (le (le (le r.size y.size) s.size) z.size) fun aj al bq an ao=>ah 1<|rt<|br<|tr<|rr (.slice aj ((((aP ([M.addr,M.count]))++[(((bZ M.bits).length:Int)%256)])++(bZ M.bits)).length) al)<|?_
 exact cC (by unfold er;(try simp only[b,f,k,l,p,bj,Bool.or_true,Bool.true_or,Bool.or_false,Bool.false_or,Bool.and_true,Bool.true_and,Bool.and_false,Bool.false_and,reduceIte])<;>rfl) ⟨_,rfl,(b7.weaken an (le c.size d.size)),(ut a (ut (aH.mono (S':=(ob i++(ob I++[]))) H aC) (ut (aH.mono (S':=(ob i++(ob I++[]))) z (aq il aC)) ao (aq il aC)) (aq il (aq il aC))) (aq (aU j (le c.size d.size)) (aq (aU J (le c.size d.size)) aC)))⟩
 have ad:=am p
 exact sk<|bn<|tn<|aD 2<|rt<|rr (.slice i ((aP ([M.addr,M.count])).length) q)<|cC (by unfold er;(try simp only[b,f,k,l,p,bj,Bool.or_true,Bool.true_or,Bool.or_false,Bool.false_or,Bool.and_true,Bool.true_and,Bool.and_false,Bool.false_and,reduceIte])<;>rfl) ⟨_,rfl,(b7.weaken j (le c.size d.size)),a⟩
 have ac:=am l
 exact sk<|bn<|tn<|aD 2<|rt<|rr (.slice i ((aP ([M.addr,M.count])).length) q)<|cC (by unfold er;(try simp only[b,f,k,l,bj,Bool.or_true,Bool.true_or,Bool.or_false,Bool.false_or,Bool.and_true,Bool.true_and,Bool.and_false,Bool.false_and,reduceIte])<;>rfl) ⟨_,rfl,(b7.weaken j (le c.size d.size)),a⟩
theorem vK{m:Md}{cs:Array Value}{M:aT}{w:World}{dir:Int}(h:aI m w cs.toList M)(hf:bi M) : Calls Tryz.prog 186 #[vI dir,.agg cs] w (jQ (fk dir M) w):=by
 refine fE h fun Aw kw Ab kb Ad kd Ar kr Ao ko e hw hbt hd hr ho _ _ _ _ _ _ _ _ _ _ q0 q1 q2 q3 q4 q5 q6 q7 q8 q9 bK bL bM bN bO bP bQ=>?_
 subst e
 have hf1:=hf.words
 have hf2:=hf.bits
 have hf3:=hf.data
 have hf4:=hf.recs
 have hf5:=hf.objects
 refine en 63 Tryz.func186 rfl<|sg<|L0<|da (mG M.code M.fail M.addr M.count M.value M.and_ M.or_ M.addr2 M.sub M.status M.events M.messages (.slice Aw M.words.length kw) (.slice Ab M.bits.length kb) (.slice Ad M.data.length kd) (.slice Ar M.recs.length kr) M.mei M.kind M.level M.more M.next (.slice Ao M.objects.length ko)) fun C bR bT b a=>ah 1<|sq<|ak 1<|aE b 0<|Pl 1<|nl<|tn<|cb ((M.code==8)) (fun d=>?_) (fun d=>?_)
 have a9:=ag d
 refine ak 1<|aE b 8<|L0<|d9 (m:=1) (e:=37) #[vW M.sub] fun bU bX aa ab D=>?_
 have P:=eJ aa (xs:=[M.sub]) (by as_aux_lemma=>kernel_rfl) (ap (by omega) aR) (by(try simp only[List.length_cons,List.length_nil]);omega) ab
 refine Pl 1<|?_
 refine aE (ub D b) 12<|?_
 have Q:=aJ a D
 refine L0<|bS pU (xs:=([M.sub])) (ys:=M.words) (vW 0) 2 P (eG.old hw Q) (by(try simp only[bV,aB]);omega) D.size fun bY bZ c0 ac R=>ay<|e9 (i6 (xs:=([M.sub]++M.words)) (ac).rd (by(try simp only[bV]);omega)) fun ad af c1 ai c2 c3 aj=>ah 1<|aV<|rr (.slice ad ((aP ([M.sub]++M.words)).length) af)<|?_
 exact cC (by unfold fk;(try simp only[d,bj,Bool.or_true,Bool.true_or,Bool.or_false,Bool.false_or,Bool.and_true,Bool.true_and,Bool.and_false,Bool.false_and,reduceIte])<;>rfl) ⟨_,rfl,(b7.weaken ai (le (le a.size D.size) R.size)),(ut Q (aJ R aj) (aq (aU P a.size) aC))⟩
 have a9:=am d
 refine bo<|sq<|aD 2<|cb ((dir==0)) (fun g=>?_) (fun g=>?_)
 have al:=ag g
 exact aD 1<|aV<|rr nS<|cC (by unfold fk;(try simp only[d,g,bj,Bool.or_true,Bool.true_or,Bool.or_false,Bool.false_or,Bool.and_true,Bool.true_and,Bool.and_false,Bool.false_and,reduceIte])<;>rfl) ⟨_,rfl,(b7.nil ..),a⟩
 have al:=am g
 refine bo<|sq<|ak 1<|aE b 0<|nt<|bk<|ak 2<|nl<|tn<|cb ((M.code==7)) (fun i=>?_) (fun i=>?_)
 have an:=ag i
 refine ak 1<|aE b 4<|Pl 1<|L0<|d9 (m:=1) (e:=5) #[vB (M.value%256)] fun ao c4 ar av aw=>?_
 have az:=cL ar (xs:=[(M.value%256)]) (by as_aux_lemma=>kernel_rfl) (ap (by omega) aR) (by(try simp only[List.length_cons,List.length_nil]);omega) av
 refine ah 1<|rt<|br<|tr<|rr (.slice (some ⟨ao,0,none⟩) 1 1)<|?_
 exact cC (by unfold fk;(try simp only[d,g,i,bj,Bool.or_true,Bool.true_or,Bool.or_false,Bool.false_or,Bool.and_true,Bool.true_and,Bool.and_false,Bool.false_and,reduceIte])<;>rfl) ⟨_,rfl,(b7.weaken az a.size),(aJ a aw)⟩
 have an:=am i
 refine aD 2<|cb ((M.code==11)) (fun k=>?_) (fun k=>?_)
 have aA:=ag k
 refine ak 1<|aE b 9<|Pl 1<|aE b 10<|L0<|d9 (m:=2) (e:=37) #[vW M.status,vW M.events] fun c5 c6 aG aK S=>?_
 have aM:=eJ aG (xs:=[M.status,M.events]) (by as_aux_lemma=>kernel_rfl) (ap (by omega) (ap (by omega) aR)) (by(try simp only[List.length_cons,List.length_nil]);omega) aK
 refine ay<|e9 (i6 (xs:=[M.status,M.events]) (aM).rd (by(try simp only[bV]);omega)) fun aN aO c7 aQ c8 c9 aS=>ah 1<|rt<|br<|tr<|rr (.slice aN ((aP ([M.status,M.events])).length) aO)<|?_
 exact cC (by unfold fk;(try simp only[d,g,i,k,bj,Bool.or_true,Bool.true_or,Bool.or_false,Bool.false_or,Bool.and_true,Bool.true_and,Bool.and_false,Bool.false_and,reduceIte])<;>rfl) ⟨_,rfl,(b7.weaken aQ (le a.size S.size)),(aJ a (aJ S aS))⟩
 have aA:=am k
 refine aD 2<|cb ((M.code==12)) (fun l=>?_) (fun l=>?_)
 have aW:=ag l
 refine sq<|Rg 16 (fun w'=>w'.cell? ⟨C,14,none⟩=some (.slice Ad M.data.length kd)∧w'.cell? ⟨C,9,none⟩=some (vW M.status)∧w'.cell? ⟨C,10,none⟩=some (vW M.events)∧w'.cell? ⟨C,11,none⟩=some (vW M.messages)) fun ca c=>?_
 have n:=ub c b
 refine bp ⟨(ae n rfl),(ae n rfl),(ae n rfl),(ae n rfl)⟩ fun f=>Rt 0 f<|Rl 1 f (fun _ hs=>hs.1)<|Rt 2 f<|Rr 3 f (vI ((M.data.length:Int)+6)) (fun _ _=>bW (vI (IntKind.i64.wrap ((M.data.length:Int)+6))) (by kernel_rfl) (congrArg (Value.int .i64) (IntWalk.i64_in _ (by omega))))<|Rt 4 f<|Rt 6 f<|Rl 7 f (fun _ hs=>hs.2.1)<|Rt 8 f<|Rl 9 f (fun _ hs=>hs.2.2.1)<|Rt 10 f<|Rl 11 f (fun _ hs=>hs.2.2.2)<|R2 5 12 rfl rfl ?_ ?_
 refine  d9 (m:=1) (e:=5) #[vB (((M.data.length:Int)+6)%256)] fun aY cc aZ b0 H=>?_
 have I:=cL aZ (xs:=[(((M.data.length:Int)+6)%256)]) (by as_aux_lemma=>kernel_rfl) (ap (by omega) aR) (by(try simp only[List.length_cons,List.length_nil]);omega) b0
 have p:=ub H n
 refine bp ⟨(ae p rfl),(ae p rfl),(ae p rfl),(ae p rfl)⟩ fun cd=>R0 12 rfl<|d9 (m:=3) (e:=37) #[vW M.status,vW M.events,vW M.messages] fun ce cf b1 b2 J=>?_
 have b3:=eJ b1 (xs:=[M.status,M.events,M.messages]) (by as_aux_lemma=>kernel_rfl) (ap (by omega) (ap (by omega) (ap (by omega) aR))) (by(try simp only[List.length_cons,List.length_nil]);omega) b2
 have q:=ub J p
 refine bp ⟨(ae q rfl),(ae q rfl),(ae q rfl),(ae q rfl)⟩ fun cg=>R0 13 rfl<|Oc<|e9 (i6 (xs:=[M.status,M.events,M.messages]) (b3).rd (by(try simp only[bV]);omega)) fun ch ci cj b4 ck cl K=>?_
 have r:=ub K q
 refine bp ⟨(ae r rfl),(ae r rfl),(ae r rfl),(ae r rfl)⟩ fun cm=>?_
 have T:=aJ J K
 refine R0 14 rfl<|bS b9 (xs:=([(((M.data.length:Int)+6)%256)])) (ys:=(aP ([M.status,M.events,M.messages]))) (vB 0) 1 (ax I T (fun x hx=>aF) (fun _ _ h=>h)) (b4).rd (by(try simp only[bV,aB]);omega) (le (le H.size J.size) K.size) fun cn co cp U V=>?_
 have s:=aH.blk V (bC (aL (au b) c.size I) aF) r
 refine bp ⟨(ae s rfl),(ae s rfl),(ae s rfl),(ae s rfl)⟩ fun b5=>Rt 15 b5<|re<|tn<|ak 2<|aE s 14<|?_
 have W:=ut H (ut (aH.mono (S':=(ob (some ⟨aY,0,none⟩)++[])) T aC) V (aq il aC)) (aq (aU I lr) aC)
 have X:=aJ a (aJ c W)
 refine L0<|bS b9 (xs:=([(((M.data.length:Int)+6)%256)]++(aP ([M.status,M.events,M.messages])))) (ys:=M.data) (vB 0) 1 U (aX.old hd X) (by(try simp only[bV,aB]);omega) W.size fun b6 b8 cq ba bb=>ah 1<|rt<|br<|tr<|rr (.slice b6 ((([(((M.data.length:Int)+6)%256)]++(aP ([M.status,M.events,M.messages])))++M.data).length) b8)<|?_
 exact cC (by unfold fk;(try simp only[d,g,i,k,l,bj,Bool.or_true,Bool.true_or,Bool.or_false,Bool.false_or,Bool.and_true,Bool.true_and,Bool.and_false,Bool.false_and,reduceIte])<;>rfl) ⟨_,rfl,(b7.weaken ba (le a.size c.size)),(ut X bb (aq (aU U (le a.size c.size)) aC))⟩
 refine  d9 (m:=3) (e:=37) #[vW M.status,vW M.events,vW M.messages] fun cr ct bc bd j=>?_
 have Y:=eJ bc (xs:=[M.status,M.events,M.messages]) (by as_aux_lemma=>kernel_rfl) (ap (by omega) (ap (by omega) (ap (by omega) aR))) (by(try simp only[List.length_cons,List.length_nil]);omega) bd
 have o:=ub j n
 refine bp ⟨(ae o rfl),(ae o rfl),(ae o rfl),(ae o rfl)⟩ fun cu=>?_
 refine R2 5 13 rfl rfl ?_ ?_
 refine  d9 (m:=1) (e:=5) #[vB (((M.data.length:Int)+6)%256)] fun be cv bf bg E=>?_
 have L:=cL bf (xs:=[(((M.data.length:Int)+6)%256)]) (by as_aux_lemma=>kernel_rfl) (ap (by omega) aR) (by(try simp only[List.length_cons,List.length_nil]);omega) bg
 have t:=ub E o
 refine bp ⟨(ae t rfl),(ae t rfl),(ae t rfl),(ae t rfl)⟩ fun cw=>?_
 refine R0 13 rfl<|Oc<|e9 (i6 (xs:=[M.status,M.events,M.messages]) ((ax Y E (fun x hx=>aF) (fun _ _ h=>h))).rd (by(try simp only[bV]);omega)) fun cx cy cz bh cA cB F=>?_
 have u:=ub F t
 refine bp ⟨(ae u rfl),(ae u rfl),(ae u rfl),(ae u rfl)⟩ fun cD=>?_
 refine R0 14 rfl<|bS b9 (xs:=([(((M.data.length:Int)+6)%256)])) (ys:=(aP ([M.status,M.events,M.messages]))) (vB 0) 1 (ax L F (fun x hx=>aF) (fun _ _ h=>h)) (bh).rd (by(try simp only[bV,aB]);omega) (le E.size F.size) fun cE cF cG Z a0=>?_
 have v:=aH.blk a0 (bC (aL (au b) (le c.size j.size) L) aF) u
 refine bp ⟨(ae v rfl),(ae v rfl),(ae v rfl),(ae v rfl)⟩ fun bl=>Rt 15 bl<|re<|tn<|ak 2<|aE v 14<|?_
 have a1:=ut E (ut (aH.mono (S':=(ob (some ⟨be,0,none⟩)++[])) F aC) a0 (aq il aC)) (aq (aU L lr) aC)
 have a2:=aJ a (aJ c (aJ j a1))
 refine L0<|bS b9 (xs:=([(((M.data.length:Int)+6)%256)]++(aP ([M.status,M.events,M.messages])))) (ys:=M.data) (vB 0) 1 Z (aX.old hd a2) (by(try simp only[bV,aB]);omega) a1.size fun bm bq cH bs bt=>ah 1<|rt<|br<|tr<|rr (.slice bm ((([(((M.data.length:Int)+6)%256)]++(aP ([M.status,M.events,M.messages])))++M.data).length) bq)<|?_
 exact cC (by unfold fk;(try simp only[d,g,i,k,l,bj,Bool.or_true,Bool.true_or,Bool.or_false,Bool.false_or,Bool.and_true,Bool.true_and,Bool.and_false,Bool.false_and,reduceIte])<;>rfl) ⟨_,rfl,(b7.weaken bs (le (le a.size c.size) j.size)),(ut a2 bt (aq (aU Z (le (le a.size c.size) j.size)) aC))⟩
 refine  Oc<|e9 (i6 (xs:=[M.status,M.events,M.messages]) (Y).rd (by(try simp only[bV]);omega)) fun cI cJ cK bu cM cN y=>?_
 have z:=ub y o
 refine bp ⟨(ae z rfl),(ae z rfl),(ae z rfl),(ae z rfl)⟩ fun cO=>R0 5 rfl<|d9 (m:=1) (e:=5) #[vB (((M.data.length:Int)+6)%256)] fun cP cQ bv bw G=>?_
 have N:=cL bv (xs:=[(((M.data.length:Int)+6)%256)]) (by as_aux_lemma=>kernel_rfl) (ap (by omega) aR) (by(try simp only[List.length_cons,List.length_nil]);omega) bw
 have A:=ub G z
 refine bp ⟨(ae A rfl),(ae A rfl),(ae A rfl),(ae A rfl)⟩ fun cR=>?_
 refine R0 14 rfl<|bS b9 (xs:=([(((M.data.length:Int)+6)%256)])) (ys:=(aP ([M.status,M.events,M.messages]))) (vB 0) 1 N ((ax bu G (fun x hx=>aF) (fun _ _ h=>h))).rd (by(try simp only[bV,aB]);omega) G.size fun cS cT cU a3 a4=>?_
 have B:=aH.blk a4 (bC (aL (au b) (le (le c.size j.size) y.size) N) aF) A
 refine bp ⟨(ae B rfl),(ae B rfl),(ae B rfl),(ae B rfl)⟩ fun bx=>Rt 15 bx<|re<|tn<|ak 2<|aE B 14<|?_
 have a5:=ut G a4 (aq (aU N lr) aC)
 have a6:=aJ a (aJ c (aJ j (aJ y a5)))
 refine L0<|bS b9 (xs:=([(((M.data.length:Int)+6)%256)]++(aP ([M.status,M.events,M.messages])))) (ys:=M.data) (vB 0) 1 a3 (aX.old hd a6) (by(try simp only[bV,aB]);omega) a5.size fun bz bA cV bB bD=>ah 1<|rt<|br<|tr<|rr (.slice bz ((([(((M.data.length:Int)+6)%256)]++(aP ([M.status,M.events,M.messages])))++M.data).length) bA)<|?_
 exact cC (by unfold fk;(try simp only[d,g,i,k,l,bj,Bool.or_true,Bool.true_or,Bool.or_false,Bool.false_or,Bool.and_true,Bool.true_and,Bool.and_false,Bool.false_and,reduceIte])<;>rfl) ⟨_,rfl,(b7.weaken bB (le (le (le a.size c.size) j.size) y.size)),(ut a6 bD (aq (aU a3 (le (le (le a.size c.size) j.size) y.size)) aC))⟩
 have aW:=am l
 refine sk<|bn<|tn<|ak 1<|aE b 14<|Pl 2<|L0<|d9 (m:=1) (e:=5) #[vB ((M.data.length:Int)%256)] fun cW cX bE bF O=>?_
 have a7:=cL bE (xs:=[((M.data.length:Int)%256)]) (by as_aux_lemma=>kernel_rfl) (ap (by omega) aR) (by(try simp only[List.length_cons,List.length_nil]);omega) bF
 refine Pl 1<|?_
 refine aE (ub O b) 14<|?_
 have a8:=aJ a O
 refine L0<|bS b9 (xs:=([((M.data.length:Int)%256)])) (ys:=M.data) (vB 0) 1 a7 (aX.old hd a8) (by(try simp only[bV,aB]);omega) O.size fun bG bH cY bI bJ=>ah 1<|rt<|rr (.slice bG (([((M.data.length:Int)%256)]++M.data).length) bH)<|?_
 exact cC (by unfold fk;(try simp only[d,g,i,k,l,bj,Bool.or_true,Bool.true_or,Bool.or_false,Bool.false_or,Bool.and_true,Bool.true_and,Bool.and_false,Bool.false_and,reduceIte])<;>rfl) ⟨_,rfl,(b7.weaken bI a.size),(ut a8 bJ (aq (aU a7 a.size) aC))⟩
theorem vR{m:Md}{cs:Array Value}{M:aT}{w:World}{dir:Int}(h:aI m w cs.toList M)(hf:bi M) : Calls Tryz.prog 185 #[vI dir,.agg cs] w (jQ (ea dir M) w):=by
 refine fE h fun Aw kw Ab kb Ad kd Ar kr Ao ko e hw hbt hd hr ho _ _ _ _ _ _ _ _ _ _ q0 q1 q2 q3 q4 q5 q6 q7 q8 q9 cw cx cy cz cA cB cC=>?_
 subst e
 have hf1:=hf.words
 have hf2:=hf.bits
 have hf3:=hf.data
 have hf4:=hf.recs
 have hf5:=hf.objects
 refine en 137 Tryz.func185 rfl<|sg<|L0<|da (mG M.code M.fail M.addr M.count M.value M.and_ M.or_ M.addr2 M.sub M.status M.events M.messages (.slice Aw M.words.length kw) (.slice Ab M.bits.length kb) (.slice Ad M.data.length kd) (.slice Ar M.recs.length kr) M.mei M.kind M.level M.more M.next (.slice Ao M.objects.length ko)) fun cD cE cF P l=>Pl 1<|aM 1<|aE P 12<|?_
 refine ay<|e9 (i6 (xs:=M.words) (eG.old hw l) (by(try simp only[bV]);omega)) fun cG cH cI u cJ cK n=>Pl 1<|aM 1<|?_
 have a:=ub n P
 refine aE a 12<|Pl 2<|aM 1<|cN 1<|sq<|bk<|ak 3<|cu 14 [19] 33 (((dir==1)&&(((M.code==3)||(M.code==4))||(M.code==23)))) (fun K Q=>?_) ?_
 refine bl 19 ((dir==1)) (fun v=>?_) (fun v=>?_)
 have ao:=ag v
 refine Pl 1<|L1<|dX a 0<|Pl 2<|cu 4 [23] 27 (((M.code==3)||(M.code==4))) (fun K R=>?_) ?_
 refine bl 23 ((M.code==3)) (fun y=>?_) (fun y=>?_)
 have ar:=ag y
 exact Pl 4<|ce R true (by rw[y];rfl)
 have ar:=am y
 exact Pl 1<|L1<|dX a 0<|Pl 2<|ce R (M.code==4) (by rw[y];rfl)
 refine Pl 1<|cu 4 [28] 32 ((((M.code==3)||(M.code==4))||(M.code==23))) (fun K S=>?_) ?_
 refine bl 28 (((M.code==3)||(M.code==4))) (fun C=>?_) (fun C=>?_)
 exact Pl 4<|ce S true (by rw[C];rfl)
 exact Pl 1<|L1<|dX a 0<|Pl 2<|ce S (M.code==23) (by rw[C];rfl)
 exact Pl 1<|ce Q (((M.code==3)||(M.code==4))||(M.code==23)) (by rw[v];rfl)
 have ao:=am v
 exact Pl 14<|ce Q false (by rw[v];rfl)
 refine ah 1<|?_
 have i:=aJ l n
 refine cb (((dir==1)&&(((M.code==3)||(M.code==4))||(M.code==23)))) (fun g=>?_) (fun g=>?_)
 have au:=(bB g).1
 have av:=(bB g).2
 refine sk<|bn<|tn<|ak 1<|ay<|e9 (i6 (xs:=[]) (aS.nil true _ _ _ _) (by(try simp only[bV]);omega)) fun aw cM cO T cP cQ U=>ah 1<|sq<|ak 1<|nl<|tn<|c1<|go<|Pl 2<|bq (2*(M.words.length:Int))<|Pl 1<|L0<|d9 (m:=1) (e:=5) #[vB ((2*(M.words.length:Int))%256)] fun cR cS az aA D=>?_
 have aG:=cL az (xs:=[((2*(M.words.length:Int))%256)]) (by as_aux_lemma=>kernel_rfl) (ap (by omega) aR) (by(try simp only[List.length_cons,List.length_nil]);omega) aA
 refine L0<|bS b9 (xs:=(aP ([]))) (ys:=([((2*(M.words.length:Int))%256)])) (vB 0) 1 (ax T D (fun x hx=>aF) (fun _ _ h=>h)) (aG).rd (by(try simp only[bV,aB]);omega) (le U.size D.size) fun cT cU cV V aK=>Pl 1<|aM 2<|?_
 have E:=ut U (ut (aH.mono (S':=(ob aw++[])) D aC) aK (aq il aC)) (aq (aU T lr) aC)
 refine L0<|bS b9 (xs:=((aP ([]))++[((2*(M.words.length:Int))%256)])) (ys:=(aP M.words)) (vB 0) 1 V ((ax u E (fun x hx=>aF) (fun _ _ h=>h))).rd (by(try simp only[bV,aB]);omega) E.size fun aL aN cW aO aQ=>ah 1<|rt<|rr (.slice aL ((((aP ([]))++[((2*(M.words.length:Int))%256)])++(aP M.words)).length) aN)<|?_
 have hs:ea dir M=(((aP ([]))++[((2*(M.words.length:Int))%256)])++(aP M.words)):=by
   unfold ea
   (try simp only[g,au,av,bj,Bool.or_true,Bool.true_or,Bool.or_false,Bool.false_or,Bool.and_true,Bool.true_and,Bool.and_false,Bool.false_and,reduceIte])
   all_goals first | rfl | (simp_all;done)
 rw[hs]
 exact⟨_,rfl,(b7.weaken aO i.size),(aJ i (ut E aQ (aq (aU V lr) aC)))⟩
 refine ak 1<|aE a 0<|Pl 2<|cu 4 [38] 42 (((M.code==3)||(M.code==4))) (fun K W=>?_) ?_
 refine bl 38 ((M.code==3)) (fun z=>?_) (fun z=>?_)
 have aV:=ag z
 exact Pl 4<|ce W true (by rw[z];rfl)
 have aV:=am z
 exact Pl 1<|L1<|dX a 0<|Pl 2<|ce W (M.code==4) (by rw[z];rfl)
 refine Pl 1<|cu 8 [43] 51 ((((M.code==3)||(M.code==4))||((M.code==16)&&(dir==1)))) (fun K X=>?_) ?_
 refine bl 43 (((M.code==3)||(M.code==4))) (fun F=>?_) (fun F=>?_)
 exact Pl 8<|ce X true (by rw[F];rfl)
 refine Pl 1<|L1<|dX a 0<|Pl 2<|cu 3 [47] 50 (((M.code==16)&&(dir==1))) (fun K Y=>?_) ?_
 refine bl 47 ((M.code==16)) (fun A=>?_) (fun A=>?_)
 have aW:=ag A
 exact Pl 3<|ce Y (dir==1) (by rw[A];rfl)
 have aW:=am A
 exact Pl 3<|ce Y false (by rw[A];rfl)
 exact Pl 1<|ce X ((M.code==16)&&(dir==1)) (by rw[F];rfl)
 refine ah 1<|cb ((((M.code==3)||(M.code==4))||((M.code==16)&&(dir==1)))) (fun j=>?_) (fun j=>?_)
 refine ak 1<|aE a 2<|Pl 1<|aE a 3<|L0<|d9 (m:=2) (e:=37) #[vW M.addr,vW M.count] fun cX cY aX aY Z=>?_
 have aZ:=eJ aX (xs:=[M.addr,M.count]) (by as_aux_lemma=>kernel_rfl) (ap (by omega) (ap (by omega) aR)) (by(try simp only[List.length_cons,List.length_nil]);omega) aY
 refine ay<|e9 (i6 (xs:=[M.addr,M.count]) (aZ).rd (by(try simp only[bV]);omega)) fun b0 b1 cZ b2 d0 d1 b3=>ah 1<|rt<|br<|tr<|rr (.slice b0 ((aP ([M.addr,M.count])).length) b1)<|?_
 have hs:ea dir M=(aP ([M.addr,M.count])):=by
   unfold ea
   (try simp only[g,j,bj,Bool.or_true,Bool.true_or,Bool.or_false,Bool.false_or,Bool.and_true,Bool.true_and,Bool.and_false,Bool.false_and,reduceIte])
   all_goals first | rfl | (simp_all;done)
 rw[hs]
 exact⟨_,rfl,(b7.weaken b2 (le (le l.size n.size) Z.size)),(aJ i (aJ Z b3))⟩
 have o:=(bT j).1
 have p:=(bT j).2
 have q:=(bT o).1
 have r:=(bT o).2
 refine ak 1<|aE a 0<|ah 2<|cb ((M.code==6)) (fun b=>?_) (fun b=>?_)
 have b4:=ag b
 refine ak 1<|aE a 2<|Pl 1<|aE a 4<|L0<|d9 (m:=2) (e:=37) #[vW M.addr,vW M.value] fun d2 d3 b5 b6 a0=>?_
 have b8:=eJ b5 (xs:=[M.addr,M.value]) (by as_aux_lemma=>kernel_rfl) (ap (by omega) (ap (by omega) aR)) (by(try simp only[List.length_cons,List.length_nil]);omega) b6
 refine ay<|e9 (i6 (xs:=[M.addr,M.value]) (b8).rd (by(try simp only[bV]);omega)) fun ba bb d4 bc d5 d6 bd=>ah 1<|rt<|br<|tr<|rr (.slice ba ((aP ([M.addr,M.value])).length) bb)<|?_
 have hs:ea dir M=(aP ([M.addr,M.value])):=by
   unfold ea
   (try simp only[show(M.code==3)=false from(by rw[ag b];rfl),show(M.code==4)=false from(by rw[ag b];rfl),show(M.code==16)=false from(by rw[ag b];rfl),show(M.code==22)=false from(by rw[ag b];rfl),show(M.code==23)=false from(by rw[ag b];rfl),show(M.code==24)=false from(by rw[ag b];rfl),g,j,o,q,r,p,b,bz,Bool.or_true,Bool.true_or,Bool.or_false,Bool.false_or,Bool.and_true,Bool.true_and,Bool.and_false,Bool.false_and,reduceIte])
   all_goals first | rfl | (simp_all;done)
 rw[hs]
 exact⟨_,rfl,(b7.weaken bc (le (le l.size n.size) a0.size)),(aJ i (aJ a0 bd))⟩
 have b4:=am b
 refine ak 1<|aE a 0<|ah 2<|cb ((M.code==16)) (fun c=>?_) (fun c=>?_)
 have be:=ag c
 refine go<|Pl 1<|aE a 2<|Pl 1<|aE a 3<|L0<|d9 (m:=2) (e:=37) #[vW M.addr,vW M.count] fun d7 d8 bf bg G=>?_
 have bh:=eJ bf (xs:=[M.addr,M.count]) (by as_aux_lemma=>kernel_rfl) (ap (by omega) (ap (by omega) aR)) (by(try simp only[List.length_cons,List.length_nil]);omega) bg
 refine Pl 1<|nl<|bn<|tn<|ak 1<|ay<|e9 (i6 (xs:=[M.addr,M.count]) (bh).rd (by(try simp only[bV]);omega)) fun bm db dc a1 dd de a2=>ah 1<|sq<|aD 1<|c1<|go<|Pl 2<|bq (2*(M.words.length:Int))<|Pl 1<|L0<|d9 (m:=1) (e:=5) #[vB ((2*(M.words.length:Int))%256)] fun df dg bp bs H=>?_
 have bt:=cL bp (xs:=[((2*(M.words.length:Int))%256)]) (by as_aux_lemma=>kernel_rfl) (ap (by omega) aR) (by(try simp only[List.length_cons,List.length_nil]);omega) bs
 refine L0<|bS b9 (xs:=(aP ([M.addr,M.count]))) (ys:=([((2*(M.words.length:Int))%256)])) (vB 0) 1 (ax a1 H (fun x hx=>aF) (fun _ _ h=>h)) (bt).rd (by(try simp only[bV,aB]);omega) (le a2.size H.size) fun dh di dj a3 bu=>Pl 1<|aM 2<|?_
 have a4:=ut a2 (ut (aH.mono (S':=(ob bm++[])) H aC) bu (aq il aC)) (aq (aU a1 lr) aC)
 have a5:=aJ G a4
 refine L0<|bS b9 (xs:=((aP ([M.addr,M.count]))++[((2*(M.words.length:Int))%256)])) (ys:=(aP M.words)) (vB 0) 1 a3 ((ax u a5 (fun x hx=>aF) (fun _ _ h=>h))).rd (by(try simp only[bV,aB]);omega) a4.size fun bv bw dk bx bA=>ah 1<|rt<|rr (.slice bv ((((aP ([M.addr,M.count]))++[((2*(M.words.length:Int))%256)])++(aP M.words)).length) bw)<|?_
 have hs:ea dir M=(((aP ([M.addr,M.count]))++[((2*(M.words.length:Int))%256)])++(aP M.words)):=by
   unfold ea
   (try simp only[show(M.code==3)=false from(by rw[ag c];rfl),show(M.code==4)=false from(by rw[ag c];rfl),show(M.code==6)=false from(by rw[ag c];rfl),show(M.code==22)=false from(by rw[ag c];rfl),show(M.code==23)=false from(by rw[ag c];rfl),show(M.code==24)=false from(by rw[ag c];rfl),g,j,o,q,r,p,b,c,bz,Bool.or_true,Bool.true_or,Bool.or_false,Bool.false_or,Bool.and_true,Bool.true_and,Bool.and_false,Bool.false_and,reduceIte])
   all_goals first | rfl | (simp_all;done)
 rw[hs]
 exact⟨_,rfl,(b7.weaken bx (le (le l.size n.size) G.size)),(aJ i (ut a5 bA (aq (aU a3 G.size) aC)))⟩
 have be:=am c
 refine ak 1<|aE a 0<|ah 2<|cb ((M.code==22)) (fun d=>?_) (fun d=>?_)
 have bC:=ag d
 refine ak 1<|aE a 2<|Pl 1<|aE a 5<|Pl 1<|aE a 6<|L0<|d9 (m:=3) (e:=37) #[vW M.addr,vW M.and_,vW M.or_] fun dl dm bD bE a6=>?_
 have bF:=eJ bD (xs:=[M.addr,M.and_,M.or_]) (by as_aux_lemma=>kernel_rfl) (ap (by omega) (ap (by omega) (ap (by omega) aR))) (by(try simp only[List.length_cons,List.length_nil]);omega) bE
 refine ay<|e9 (i6 (xs:=[M.addr,M.and_,M.or_]) (bF).rd (by(try simp only[bV]);omega)) fun bG bH dn bI dp dq bJ=>ah 1<|rt<|br<|tr<|rr (.slice bG ((aP ([M.addr,M.and_,M.or_])).length) bH)<|?_
 have hs:ea dir M=(aP ([M.addr,M.and_,M.or_])):=by
   unfold ea
   (try simp only[show(M.code==3)=false from(by rw[ag d];rfl),show(M.code==4)=false from(by rw[ag d];rfl),show(M.code==6)=false from(by rw[ag d];rfl),show(M.code==16)=false from(by rw[ag d];rfl),show(M.code==23)=false from(by rw[ag d];rfl),show(M.code==24)=false from(by rw[ag d];rfl),g,j,o,q,r,p,b,c,d,bz,Bool.or_true,Bool.true_or,Bool.or_false,Bool.false_or,Bool.and_true,Bool.true_and,Bool.and_false,Bool.false_and,reduceIte])
   all_goals first | rfl | (simp_all;done)
 rw[hs]
 exact⟨_,rfl,(b7.weaken bI (le (le l.size n.size) a6.size)),(aJ i (aJ a6 bJ))⟩
 have bC:=am d
 refine ak 1<|aE a 0<|ah 2<|cb ((M.code==23)) (fun f=>?_) (fun f=>?_)
 have bK:=ag f
 refine go<|Pl 1<|aE a 2<|Pl 1<|aE a 3<|Pl 1<|aE a 7<|Pl 2<|L0<|d9 (m:=4) (e:=37) #[vW M.addr,vW M.count,vW M.addr2,vW ((M.words.length:Int)%65536)] fun dr ds bL bM I=>?_
 have bN:=eJ bL (xs:=[M.addr,M.count,M.addr2,((M.words.length:Int)%65536)]) (by as_aux_lemma=>kernel_rfl) (ap (by omega) (ap (by omega) (ap (by omega) (ap (by omega) aR)))) (by(try simp only[List.length_cons,List.length_nil]);omega) bM
 refine Pl 1<|nl<|bn<|tn<|ak 1<|ay<|e9 (i6 (xs:=[M.addr,M.count,M.addr2,((M.words.length:Int)%65536)]) (bN).rd (by(try simp only[bV]);omega)) fun bO dt du a7 dv dw a8=>ah 1<|sq<|aD 1<|c1<|go<|Pl 2<|bq (2*(M.words.length:Int))<|Pl 1<|L0<|d9 (m:=1) (e:=5) #[vB ((2*(M.words.length:Int))%256)] fun dx dy bP bQ J=>?_
 have bR:=cL bP (xs:=[((2*(M.words.length:Int))%256)]) (by as_aux_lemma=>kernel_rfl) (ap (by omega) aR) (by(try simp only[List.length_cons,List.length_nil]);omega) bQ
 refine L0<|bS b9 (xs:=(aP ([M.addr,M.count,M.addr2,((M.words.length:Int)%65536)]))) (ys:=([((2*(M.words.length:Int))%256)])) (vB 0) 1 (ax a7 J (fun x hx=>aF) (fun _ _ h=>h)) (bR).rd (by(try simp only[bV,aB]);omega) (le a8.size J.size) fun dz dA dB a9 bU=>Pl 1<|aM 2<|?_
 have aa:=ut a8 (ut (aH.mono (S':=(ob bO++[])) J aC) bU (aq il aC)) (aq (aU a7 lr) aC)
 have ab:=aJ I aa
 refine L0<|bS b9 (xs:=((aP ([M.addr,M.count,M.addr2,((M.words.length:Int)%65536)]))++[((2*(M.words.length:Int))%256)])) (ys:=(aP M.words)) (vB 0) 1 a9 ((ax u ab (fun x hx=>aF) (fun _ _ h=>h))).rd (by(try simp only[bV,aB]);omega) aa.size fun bW bX dC bY bZ=>ah 1<|rt<|rr (.slice bW ((((aP ([M.addr,M.count,M.addr2,((M.words.length:Int)%65536)]))++[((2*(M.words.length:Int))%256)])++(aP M.words)).length) bX)<|?_
 have hs:ea dir M=(((aP ([M.addr,M.count,M.addr2,((M.words.length:Int)%65536)]))++[((2*(M.words.length:Int))%256)])++(aP M.words)):=by
   unfold ea
   (try simp only[show(M.code==3)=false from(by rw[ag f];rfl),show(M.code==4)=false from(by rw[ag f];rfl),show(M.code==6)=false from(by rw[ag f];rfl),show(M.code==16)=false from(by rw[ag f];rfl),show(M.code==22)=false from(by rw[ag f];rfl),show(M.code==24)=false from(by rw[ag f];rfl),g,j,o,q,r,p,b,c,d,f,bz,Bool.or_true,Bool.true_or,Bool.or_false,Bool.false_or,Bool.and_true,Bool.true_and,Bool.and_false,Bool.false_and,reduceIte])
   all_goals first | rfl | (simp_all;done)
 rw[hs]
 exact⟨_,rfl,(b7.weaken bY (le (le l.size n.size) I.size)),(aJ i (ut ab bZ (aq (aU a9 I.size) aC)))⟩
 have bK:=am f
 refine ak 1<|aE a 0<|Pl 2<|cu 3 [106] 109 (((M.code==24)&&(dir==0))) (fun K ac=>?_) ?_
 refine bl 106 ((M.code==24)) (fun B=>?_) (fun B=>?_)
 have c2:=ag B
 exact Pl 3<|ce ac (dir==0) (by rw[B];rfl)
 have c2:=am B
 exact Pl 3<|ce ac false (by rw[B];rfl)
 refine ah 1<|cb (((M.code==24)&&(dir==0))) (fun t=>?_) (fun t=>?_)
 have s:=(bB t).1
 have c3:=(bB t).2
 refine ak 1<|aE a 2<|L0<|d9 (m:=1) (e:=37) #[vW M.addr] fun dD dE c4 c5 ad=>?_
 have c6:=eJ c4 (xs:=[M.addr]) (by as_aux_lemma=>kernel_rfl) (ap (by omega) aR) (by(try simp only[List.length_cons,List.length_nil]);omega) c5
 refine ay<|e9 (i6 (xs:=[M.addr]) (c6).rd (by(try simp only[bV]);omega)) fun c7 c8 dF c9 dG dH ca=>ah 1<|rt<|br<|tr<|rr (.slice c7 ((aP ([M.addr])).length) c8)<|?_
 have hs:ea dir M=(aP ([M.addr])):=by
   unfold ea
   (try simp only[show(M.code==3)=false from(by rw[ag s];rfl),show(M.code==4)=false from(by rw[ag s];rfl),show(M.code==6)=false from(by rw[ag s];rfl),show(M.code==16)=false from(by rw[ag s];rfl),show(M.code==22)=false from(by rw[ag s];rfl),show(M.code==23)=false from(by rw[ag s];rfl),g,j,o,q,r,p,b,c,d,f,t,s,c3,bz,Bool.or_true,Bool.true_or,Bool.or_false,Bool.false_or,Bool.and_true,Bool.true_and,Bool.and_false,Bool.false_and,reduceIte])
   all_goals first | rfl | (simp_all;done)
 rw[hs]
 exact⟨_,rfl,(b7.weaken c9 (le (le l.size n.size) ad.size)),(aJ i (aJ ad ca))⟩
 refine ak 1<|aE a 0<|ah 2<|cb ((M.code==24)) (fun k=>?_) (fun k=>?_)
 have cc:=ag k
 refine ak 1<|bq (2*(M.words.length:Int))<|bq ((2*(M.words.length:Int))+2)<|Pl 3<|L0<|d9 (m:=2) (e:=37) #[vW (((2*(M.words.length:Int))+2)%65536),vW ((M.words.length:Int)%65536)] fun dI dJ cd cf L=>?_
 have cg:=eJ cd (xs:=[(((2*(M.words.length:Int))+2)%65536),((M.words.length:Int)%65536)]) (by as_aux_lemma=>kernel_rfl) (ap (by omega) (ap (by omega) aR)) (by(try simp only[List.length_cons,List.length_nil]);omega) cf
 refine ah 1<|go<|Pl 1<|nl<|bn<|tn<|ak 1<|ay<|e9 (i6 (xs:=[(((2*(M.words.length:Int))+2)%65536),((M.words.length:Int)%65536)]) (cg).rd (by(try simp only[bV]);omega)) fun dK dL dM ae dN dO af=>Pl 1<|nl<|tn<|sq<|aD 1<|c0<|bo<|ak 2<|?_
 have ai:=aJ L af
 refine L0<|bS b9 (xs:=(aP ([(((2*(M.words.length:Int))+2)%65536),((M.words.length:Int)%65536)]))) (ys:=(aP M.words)) (vB 0) 1 ae ((ax u ai (fun x hx=>aF) (fun _ _ h=>h))).rd (by(try simp only[bV,aB]);omega) af.size fun ch ci dP cj ck=>ah 1<|rt<|rr (.slice ch (((aP ([(((2*(M.words.length:Int))+2)%65536),((M.words.length:Int)%65536)]))++(aP M.words)).length) ci)<|?_
 have hs:ea dir M=((aP ([(((2*(M.words.length:Int))+2)%65536),((M.words.length:Int)%65536)]))++(aP M.words)):=by
   unfold ea
   (try simp only[show(M.code==3)=false from(by rw[ag k];rfl),show(M.code==4)=false from(by rw[ag k];rfl),show(M.code==6)=false from(by rw[ag k];rfl),show(M.code==16)=false from(by rw[ag k];rfl),show(M.code==22)=false from(by rw[ag k];rfl),show(M.code==23)=false from(by rw[ag k];rfl),g,j,o,q,r,p,b,c,d,f,t,k,bz,Bool.or_true,Bool.true_or,Bool.or_false,Bool.false_or,Bool.and_true,Bool.true_and,Bool.and_false,Bool.false_and,reduceIte])
   all_goals first | rfl | (simp_all;done)
 rw[hs]
 exact⟨_,rfl,(b7.weaken cj (le (le l.size n.size) L.size)),(aJ i (ut ai ck (aq (aU ae L.size) aC)))⟩
 have cc:=am k
 refine sk<|bn<|tn<|ak 1<|ay<|e9 (i6 (xs:=[]) (aS.nil true _ _ _ _) (by(try simp only[bV]);omega)) fun cl dQ dR aj dS dT al=>ah 1<|sq<|ak 1<|nl<|tn<|c1<|go<|Pl 2<|bq (2*(M.words.length:Int))<|Pl 1<|L0<|d9 (m:=1) (e:=5) #[vB ((2*(M.words.length:Int))%256)] fun dU dV cm cn N=>?_
 have co:=cL cm (xs:=[((2*(M.words.length:Int))%256)]) (by as_aux_lemma=>kernel_rfl) (ap (by omega) aR) (by(try simp only[List.length_cons,List.length_nil]);omega) cn
 refine L0<|bS b9 (xs:=(aP ([]))) (ys:=([((2*(M.words.length:Int))%256)])) (vB 0) 1 (ax aj N (fun x hx=>aF) (fun _ _ h=>h)) (co).rd (by(try simp only[bV,aB]);omega) (le al.size N.size) fun dW dY dZ an cp=>Pl 1<|aM 2<|?_
 have O:=ut al (ut (aH.mono (S':=(ob cl++[])) N aC) cp (aq il aC)) (aq (aU aj lr) aC)
 refine L0<|bS b9 (xs:=((aP ([]))++[((2*(M.words.length:Int))%256)])) (ys:=(aP M.words)) (vB 0) 1 an ((ax u O (fun x hx=>aF) (fun _ _ h=>h))).rd (by(try simp only[bV,aB]);omega) O.size fun cq cr e0 ct cv=>ah 1<|rt<|rr (.slice cq ((((aP ([]))++[((2*(M.words.length:Int))%256)])++(aP M.words)).length) cr)<|?_
 have hs:ea dir M=(((aP ([]))++[((2*(M.words.length:Int))%256)])++(aP M.words)):=by
   unfold ea
   (try simp only[g,j,o,q,r,p,b,c,d,f,t,k,bj,Bool.or_true,Bool.true_or,Bool.or_false,Bool.false_or,Bool.and_true,Bool.true_and,Bool.and_false,Bool.false_and,reduceIte])
   all_goals first | rfl | (simp_all;done)
 rw[hs]
 exact⟨_,rfl,(b7.weaken ct i.size),(aJ i (ut O cv (aq (aU an lr) aC)))⟩
open Go.RowKit
def mE (dir code:Int)(r:dt) : List Int:=(if code==20&&dir==1 then [(2*(r.words.length:Int)+1)%256,6] else [6]++aP [r.file,r.record,r.count])++aP r.words
def dE (dir code:Int) : List dt→List Int
  | []=>[]
  | r :: rs=>mE dir code r++dE dir code rs
theorem kH(dir code:Int)(xs:List dt)(k:Nat)(h:k<xs.length) : dE dir code (xs.drop k)=mE dir code (xs.getD k ⟨0,0,0,[]⟩)++dE dir code (xs.drop (k+1)):=by
  rw[List.drop_eq_getElem_cons h]
  simp[dE,List.getD_eq_getElem?_getD,List.getElem?_eq_getElem h]
def eW (dir:Int)(M:aT) : List Int:=[((dE dir M.code M.recs).length:Int)%256]++dE dir M.code M.recs
theorem rB{m:Md}{cs:Array Value}{M:aT}{w:World}{dir:Int}(h:aI m w cs.toList M)(hf:bi M) : Calls Tryz.prog 187 #[vI dir,.agg cs] w (jQ (eW dir M) w):=by
 refine fE h fun Aw kw Ab kb Ad kd Ar kr Ao ko e hw hbt hd hr ho _ _ _ _ _ _ _ _ _ _ q0 q1 q2 q3 q4 q5 q6 q7 q8 q9 b4 b5 b6 b8 ba bb bc=>?_
 subst e
 have hf1:=hf.words
 have hf2:=hf.bits
 have hf3:=hf.data
 have hf4:=hf.recs
 have hf5:=hf.objects
 refine en 60 Tryz.func187 rfl<|sg<|L0<|da (mG M.code M.fail M.addr M.count M.value M.and_ M.or_ M.addr2 M.sub M.status M.events M.messages (.slice Aw M.words.length kw) (.slice Ab M.bits.length kb) (.slice Ad M.data.length kd) (.slice Ar M.recs.length kr) M.mei M.kind M.level M.more M.next (.slice Ao M.objects.length ko)) fun N o bd a4 p=>Pl 1<|cN 1<|sq<|sq<|go<|ah 1<|bk<|je (fun x=>[(0,vI dir),(3,vP N 0),(4,nS),(5,.slice x.2.2.1 x.2.1.length x.2.2.2),(6,vI (x.1:Int))]) (fun(x:Nat × List Int × Option Addr × Nat) w'=>aH [] o w'∧eB o.heap.size w' (.slice x.2.2.1 x.2.1.length x.2.2.2) x.2.1∧(x.1≤M.recs.length)∧(x.2.1++dE dir M.code (M.recs.drop x.1)=([])++dE dir M.code M.recs)∧(x.2.1.length≤16+x.1*2060)∧(0≤x.2.1.length)) (fun x=>M.recs.length-x.1) (0,[],none,0) ⟨aH.refl _ _,(b7.nil o.heap.size _ _ wy _),(by(try dsimp only);omega),rfl,(by(try dsimp only);(try simp only[List.length_cons,List.length_nil]);omega),(by(try dsimp only);(try simp only[List.length_cons,List.length_nil]);omega)⟩ ?_
 rintro⟨k,L,A,cp⟩ a5 ⟨a,a6,a7,a8,a9,aa⟩
 refine ji [(0,vI dir),(3,vP N 0),(4,nS),(5,.slice A L.length cp),(6,vI (k:Int))] ?_
 have b:eB o.heap.size a5 (.slice A L.length cp) L:=a6
 have be:k≤M.recs.length:=a7
 have bf:L++dE dir M.code (M.recs.drop k)=([])++dE dir M.code M.recs:=a8
 have bg:L.length≤16+k*2060:=a9
 have bh:0≤L.length:=aa
 have hL:L++dE dir M.code (M.recs.drop k)=([])++dE dir M.code M.recs:=by assumption
 have hv0:=fun(h:k<M.recs.length)=>hf.recw _ (ex ⟨0,0,0,[]⟩ M.recs k h)
 refine sq<|ak 2<|?_
 have y:=ub a a4
 refine aE y 15<|ah 2<|?_
 have q:=aJ p a
 refine cb ((decide ((k:Int)<(M.recs.length:Int)))) (fun f=>?_) (fun f=>?_)
 have ab:=of_decide_eq_true f
 refine bo<|sq<|bk<|ak 1<|aE y 15<|Pl 1<|nD (oA.elt hr k (by omega)) fun bm bp br bs bt O P ac ad Q bu ae=>L0<|wn 4 M.recs.length k ac (by omega)<|?_
 refine L0<|Dx [vW ((M.recs.getD k ⟨0,0,0,[]⟩).file),vW ((M.recs.getD k ⟨0,0,0,[]⟩).record),vW ((M.recs.getD k ⟨0,0,0,[]⟩).count),.slice O ((M.recs.getD k ⟨0,0,0,[]⟩).words.length) P] (ub q ad) ae<|aK #[vW 0,vW 0,vW 0,nS] fun bv bw z af c=>aG af #[vW ((M.recs.getD k ⟨0,0,0,[]⟩).file),vW ((M.recs.getD k ⟨0,0,0,[]⟩).record),vW ((M.recs.getD k ⟨0,0,0,[]⟩).count),.slice O ((M.recs.getD k ⟨0,0,0,[]⟩).words.length) P] fun bz B d=>nt<|sq<|ak 1<|?_
 have r:=ud c d z
 refine aE (ub r y) 0<|Pl 2<|cu 3 [23] 26 (((M.code==20)&&(dir==1))) (fun K R=>?_) ?_
 refine bl 23 ((M.code==20)) (fun g=>?_) (fun g=>?_)
 have ai:=ag g
 exact Pl 3<|ce R (dir==1) (by rw[g];rfl)
 have ai:=am g
 exact Pl 3<|ce R false (by rw[g];rfl)
 refine nt<|?_
 have S:=aJ q r
 refine cb (((M.code==20)&&(dir==1))) (fun i=>?_) (fun i=>?_)
 have T:=(bB i).1
 have U:=(bB i).2
 have bA:=ag T
 have bD:=ag U
 refine go<|Pl 2<|aE B 3<|Pl 1<|bq (2*(((M.recs.getD k ⟨0,0,0,[]⟩).words.length:Nat) : Int))<|bq ((2*(((M.recs.getD k ⟨0,0,0,[]⟩).words.length:Nat) : Int))+1)<|Pl 1<|L0<|d9 (m:=2) (e:=5) #[vB (((2*(((M.recs.getD k ⟨0,0,0,[]⟩).words.length:Nat) : Int))+1)%256),vB 6] fun bE bF aj al s=>?_
 have an:=cL aj (xs:=[(((2*(((M.recs.getD k ⟨0,0,0,[]⟩).words.length:Nat) : Int))+1)%256),6]) (by as_aux_lemma=>kernel_rfl) (ap (by omega) (ap (by omega) aR)) (by(try simp only[List.length_cons,List.length_nil]);omega) al
 have V:=aJ r s
 refine L0<|bS b9 (xs:=L) (ys:=([(((2*(((M.recs.getD k ⟨0,0,0,[]⟩).words.length:Nat) : Int))+1)%256),6])) (vB 0) 1 (ax b V (fun x hx=>aF) (fun _ _ h=>h)) (an).rd (by(try simp only[bV,aB]);omega) (le (le (le a.size c.size) d.size) s.size) fun C bG bH W D=>ah 1<|go<|Pl 2<|?_
 have X:=ut (aH.mono (S':=(ob A++[])) s aC) D (aq il aC)
 refine aE (aH.blk X (bC (fC b lr z) aF) B) 3<|?_
 refine ay<|e9 (i6 (xs:=(M.recs.getD k ⟨0,0,0,[]⟩).words) (eG.old Q (ut S X (aq (aU b p.size) aC))) (by(try simp only[bV]);omega)) fun bI bJ bK ao bL bM E=>?_
 refine L0<|bS b9 (xs:=(L++[(((2*(((M.recs.getD k ⟨0,0,0,[]⟩).words.length:Nat) : Int))+1)%256),6])) (ys:=(aP ((M.recs.getD k ⟨0,0,0,[]⟩).words))) (vB 0) 1 (ax W E (fun x hx=>aF) (fun _ _ h=>h)) (ao).rd (by(try simp only[bV,aB]);omega) (le (le (le (le (le a.size c.size) d.size) s.size) D.size) E.size) fun ar au bN av aw=>Pl 1<|nl<|bn<|tn<|go<|Pl 1<|bq ((k:Int)+1)<|Pl 1<|nl<|?_
 exact gL ((k+1),((L++[(((2*(((M.recs.getD k ⟨0,0,0,[]⟩).words.length:Nat) : Int))+1)%256),6])++(aP ((M.recs.getD k ⟨0,0,0,[]⟩).words))),ar,au) ⟨(ut a (ut (aH.mono (S':=(ob A++(ob C++[]))) V aC) (ut (aH.mono (S':=(ob A++(ob C++[]))) D (aq il aC)) (ut (aH.mono (S':=(ob C++[])) E aC) aw (aq il aC)) (aq il aC)) (aq il (aq il aC))) (aq (aU b lr) (aq (aU W lr) aC))),av,(by(try dsimp only);omega),(by(try dsimp only);rw[← hL,kH dir M.code M.recs k (by omega)];simp only[mE,f,i,T,U,bj,List.append_assoc]),(by(try dsimp only);have hv:=hf.recw _ (ex ⟨0,0,0,[]⟩ M.recs k (by omega));(try simp only[bV,aB]);omega),(by(try dsimp only);(try simp only[bV]);omega)⟩ (by omega)
 refine ak 1<|L0<|d9 (m:=1) (e:=5) #[vB 6] fun bO bP az aA j=>?_
 have aD:=cL az (xs:=[6]) (by as_aux_lemma=>kernel_rfl) (ap (by omega) aR) (by(try simp only[List.length_cons,List.length_nil]);omega) aA
 have Y:=aJ r j
 refine L0<|bS b9 (xs:=L) (ys:=([6])) (vB 0) 1 (ax b Y (fun x hx=>aF) (fun _ _ h=>h)) (aD).rd (by(try simp only[bV,aB]);omega) (le (le (le a.size c.size) d.size) j.size) fun l bQ bR t u=>ah 1<|go<|Pl 2<|?_
 have Z:=ut (aH.mono (S':=(ob A++[])) j aC) u (aq il aC)
 have n:=aH.blk Z (bC (fC b lr z) aF) B
 refine aE n 0<|Pl 1<|aE n 1<|Pl 1<|aE n 2<|L0<|d9 (m:=3) (e:=37) #[vW ((M.recs.getD k ⟨0,0,0,[]⟩).file),vW ((M.recs.getD k ⟨0,0,0,[]⟩).record),vW ((M.recs.getD k ⟨0,0,0,[]⟩).count)] fun bT bU aL aM F=>?_
 have aN:=eJ aL (xs:=[(M.recs.getD k ⟨0,0,0,[]⟩).file,(M.recs.getD k ⟨0,0,0,[]⟩).record,(M.recs.getD k ⟨0,0,0,[]⟩).count]) (by as_aux_lemma=>kernel_rfl) (ap (by omega) (ap (by omega) (ap (by omega) aR))) (by(try simp only[List.length_cons,List.length_nil]);omega) aM
 refine ay<|e9 (i6 (xs:=[(M.recs.getD k ⟨0,0,0,[]⟩).file,(M.recs.getD k ⟨0,0,0,[]⟩).record,(M.recs.getD k ⟨0,0,0,[]⟩).count]) (aN).rd (by(try simp only[bV]);omega)) fun bW bX bY aO bZ c0 G=>?_
 have a0:=aJ F G
 refine L0<|bS b9 (xs:=(L++[6])) (ys:=(aP ([(M.recs.getD k ⟨0,0,0,[]⟩).file,(M.recs.getD k ⟨0,0,0,[]⟩).record,(M.recs.getD k ⟨0,0,0,[]⟩).count]))) (vB 0) 1 (ax t a0 (fun x hx=>aF) (fun _ _ h=>h)) (aO).rd (by(try simp only[bV,aB]);omega) (le (le (le (le (le (le a.size c.size) d.size) j.size) u.size) F.size) G.size) fun v c1 c2 a1 a2=>ah 1<|go<|Pl 2<|?_
 have H:=ut (aH.mono (S':=(ob l++[])) a0 aC) a2 (aq il aC)
 refine aE (aH.blk H (bC (dM n t (by decide)) aF) n) 3<|?_
 refine ay<|e9 (i6 (xs:=(M.recs.getD k ⟨0,0,0,[]⟩).words) (eG.old Q (ut S (ut (aH.mono (S':=(ob A++(ob l++[]))) Z (aq il aC)) H (aq il aC)) (aq (aU b p.size) (aq (aU t p.size) aC)))) (by(try simp only[bV]);omega)) fun c3 c4 c5 aQ c6 c7 I=>?_
 refine L0<|bS b9 (xs:=((L++[6])++(aP ([(M.recs.getD k ⟨0,0,0,[]⟩).file,(M.recs.getD k ⟨0,0,0,[]⟩).record,(M.recs.getD k ⟨0,0,0,[]⟩).count])))) (ys:=(aP ((M.recs.getD k ⟨0,0,0,[]⟩).words))) (vB 0) 1 (ax a1 I (fun x hx=>aF) (fun _ _ h=>h)) (aQ).rd (by(try simp only[bV,aB]);omega) (le (le (le (le (le (le (le (le a.size c.size) d.size) j.size) u.size) F.size) G.size) a2.size) I.size) fun aS aV c8 aW aX=>Pl 1<|nl<|bn<|tn<|go<|Pl 1<|bq ((k:Int)+1)<|Pl 1<|nl<|?_
 exact gL ((k+1),(((L++[6])++(aP ([(M.recs.getD k ⟨0,0,0,[]⟩).file,(M.recs.getD k ⟨0,0,0,[]⟩).record,(M.recs.getD k ⟨0,0,0,[]⟩).count])))++(aP ((M.recs.getD k ⟨0,0,0,[]⟩).words))),aS,aV) ⟨(ut a (ut (aH.mono (S':=(ob A++(ob l++(ob v++[])))) Y aC) (ut (aH.mono (S':=(ob A++(ob l++(ob v++[])))) u (aq il aC)) (ut (aH.mono (S':=(ob l++(ob v++[]))) H (aq il aC)) (ut (aH.mono (S':=(ob v++[])) I aC) aX (aq il aC)) (aq il aC)) (aq il (aq il aC))) (aq il (aq il (aq il aC)))) (aq (aU b lr) (aq (aU t lr) (aq (aU a1 lr) aC)))),aW,(by(try dsimp only);omega),(by(try dsimp only);rw[← hL,kH dir M.code M.recs k (by omega)];simp only[mE,f,i,bj,List.append_assoc]),(by(try dsimp only);have hv:=hf.recw _ (ex ⟨0,0,0,[]⟩ M.recs k (by omega));(try simp only[bV,aB]);omega),(by(try dsimp only);(try simp only[bV]);omega)⟩ (by omega)
 have ab:=of_decide_eq_false f
 refine xt<|tx<|tx<|bx<|tn<|ak 3<|L0<|d9 (m:=1) (e:=5) #[vB ((L.length:Int)%256)] fun c9 ca aY aZ J=>?_
 have a3:=cL aY (xs:=[((L.length:Int)%256)]) (by as_aux_lemma=>kernel_rfl) (ap (by omega) aR) (by(try simp only[List.length_cons,List.length_nil]);omega) aZ
 refine Pl 1<|?_
 refine L0<|bS b9 (xs:=([((L.length:Int)%256)])) (ys:=L) (vB 0) 1 a3 ((ax b J (fun x hx=>aF) (fun _ _ h=>h))).rd (by(try simp only[bV,aB]);omega) J.size fun b0 b1 cc b2 b3=>ah 1<|rt<|rr (.slice b0 (([((L.length:Int)%256)]++L).length) b1)<|?_
 have hL2:L=dE dir M.code M.recs:=by rw[show k=M.recs.length by omega,List.drop_length] at hL;rw[show dE dir M.code []=[] from rfl,List.append_nil] at hL;exact hL
 have hs:eW dir M=([((L.length:Int)%256)]++L):=by unfold eW;rw[← hL2]
 rw[hs]
 exact⟨_,rfl,(b7.weaken b2 q.size),(aJ q (ut J b3 (aq (aU a3 lr) aC)))⟩
open Go.RowKit
def gz (dir:Int)(M:aT) : List Int :=
  if M.mei==13 then [13]++M.data
  else if dir==0 then [M.mei,M.kind,M.next]
  else [M.mei,M.kind,M.level,M.more,M.next,(M.objects.length:Int)%256]++eZ M.objects
theorem xj{m:Md}{cs:Array Value}{M:aT}{w:World}{dir:Int}(h:aI m w cs.toList M)(hf:bi M) : Calls Tryz.prog 188 #[vI dir,.agg cs] w (jQ (gz dir M) w):=by
 refine fE h fun Aw kw Ab kb Ad kd Ar kr Ao ko e hw hbt hd hr ho _ _ _ _ _ _ _ _ _ _ q0 q1 q2 q3 q4 q5 q6 q7 q8 q9 aO aP aQ aS aW aY aZ=>?_
 subst e
 have hf1:=hf.words
 have hf2:=hf.bits
 have hf3:=hf.data
 have hf4:=hf.recs
 have hf5:=hf.objects
 refine en 71 Tryz.func188 rfl<|sg<|L0<|da (mG M.code M.fail M.addr M.count M.value M.and_ M.or_ M.addr2 M.sub M.status M.events M.messages (.slice Aw M.words.length kw) (.slice Ab M.bits.length kb) (.slice Ad M.data.length kd) (.slice Ar M.recs.length kr) M.mei M.kind M.level M.more M.next (.slice Ao M.objects.length ko)) fun q r b0 b c=>ah 1<|sq<|ak 1<|aE b 16<|Pl 1<|nl<|tn<|cb ((M.mei==13)) (fun g=>?_) (fun g=>?_)
 have X:=ag g
 refine sg<|L0<|d9 (m:=1) (e:=5) #[vB 13] fun b1 b2 Y Z s=>?_
 have G:=cL Y (xs:=[13]) (by as_aux_lemma=>kernel_rfl) (ap (by omega) aR) (by(try simp only[List.length_cons,List.length_nil]);omega) Z
 refine Pl 1<|?_
 refine aE (ub s b) 14<|?_
 have H:=aJ c s
 refine L0<|bS b9 (xs:=([13])) (ys:=M.data) (vB 0) 1 G (aX.old hd H) (by(try simp only[bV,aB]);omega) s.size fun a0 a1 b3 a2 a3=>ah 1<|aV<|rr (.slice a0 (([13]++M.data).length) a1)<|?_
 exact cC (by unfold gz;(try simp only[g,bj,Bool.or_true,Bool.true_or,Bool.or_false,Bool.false_or,Bool.and_true,Bool.true_and,Bool.and_false,Bool.false_and,reduceIte])<;>rfl) ⟨_,rfl,(b7.weaken a2 c.size),(ut H a3 (aq (aU G c.size) aC))⟩
 have X:=am g
 refine bo<|sq<|aD 2<|cb ((dir==0)) (fun n=>?_) (fun n=>?_)
 have a4:=ag n
 refine ak 1<|aE b 16<|Pl 1<|aE b 17<|Pl 1<|aE b 20<|L0<|d9 (m:=3) (e:=5) #[vB M.mei,vB M.kind,vB M.next] fun a5 b4 a6 a7 a8=>?_
 have a9:=cL a6 (xs:=[M.mei,M.kind,M.next]) (by as_aux_lemma=>kernel_rfl) (ap (by omega) (ap (by omega) (ap (by omega) aR))) (by(try simp only[List.length_cons,List.length_nil]);omega) a7
 refine ah 1<|aV<|rr (.slice (some ⟨a5,0,none⟩) 3 3)<|?_
 exact cC (by unfold gz;(try simp only[g,n,bj,Bool.or_true,Bool.true_or,Bool.or_false,Bool.false_or,Bool.and_true,Bool.true_and,Bool.and_false,Bool.false_and,reduceIte])<;>rfl) ⟨_,rfl,(b7.weaken a9 c.size),(aJ c a8)⟩
 have a4:=am n
 refine bo<|ak 1<|aE b 16<|Pl 1<|aE b 17<|Pl 1<|aE b 18<|Pl 1<|aE b 19<|Pl 1<|aE b 20<|Pl 1<|aE b 21<|Pl 2<|L0<|d9 (m:=6) (e:=5) #[vB M.mei,vB M.kind,vB M.level,vB M.more,vB M.next,vB ((M.objects.length:Int)%256)] fun aa ab ac ad t=>?_
 have af:=cL ac (xs:=[M.mei,M.kind,M.level,M.more,M.next,((M.objects.length:Int)%256)]) (by as_aux_lemma=>kernel_rfl) (ap (by omega) (ap (by omega) (ap (by omega) (ap (by omega) (ap (by omega) (ap (by omega) aR)))))) (by(try simp only[List.length_cons,List.length_nil]);omega) ad
 refine ah 1<|sq<|aD 1<|bk<|je (fun x=>[(3,vP q 0),(4,nS),(5,.slice x.2.2.1 x.2.1.length x.2.2.2),(6,vI (x.1:Int))]) (fun(x:Nat × List Int × Option Addr × Nat) w'=>aH [] r w'∧ab.heap.size≤w'.heap.size∧eB r.heap.size w' (.slice x.2.2.1 x.2.1.length x.2.2.2) x.2.1∧(x.1≤M.objects.length)∧(x.2.1++eZ (M.objects.drop x.1)=([M.mei,M.kind,M.level,M.more,M.next,((M.objects.length:Int)%256)])++eZ M.objects)∧(x.2.1.length≤16+x.1*1026)∧(6≤x.2.1.length)) (fun x=>M.objects.length-x.1) (0,[M.mei,M.kind,M.level,M.more,M.next,((M.objects.length:Int)%256)],some ⟨aa,0,none⟩,6) ⟨t,lr,af,(by(try dsimp only);omega),rfl,(by(try dsimp only);(try simp only[List.length_cons,List.length_nil]);omega),(by(try dsimp only);(try simp only[List.length_cons,List.length_nil]);omega)⟩ ?_
 rintro⟨k,L,A,cp⟩ ai ⟨u,y,aj,al,an,ao,ar⟩
 refine ji [(3,vP q 0),(4,nS),(5,.slice A L.length cp),(6,vI (k:Int))] ?_
 have i:eB r.heap.size ai (.slice A L.length cp) L:=aj
 have b5:k≤M.objects.length:=al
 have b6:L++eZ (M.objects.drop k)=([M.mei,M.kind,M.level,M.more,M.next,((M.objects.length:Int)%256)])++eZ M.objects:=an
 have b8:L.length≤16+k*1026:=ao
 have ba:6≤L.length:=ar
 have hL:L++eZ (M.objects.drop k)=([M.mei,M.kind,M.level,M.more,M.next,((M.objects.length:Int)%256)])++eZ M.objects:=by assumption
 have hv0:=fun(h:k<M.objects.length)=>hf.objv _ (ex ⟨0,[]⟩ M.objects k h)
 refine sq<|ak 2<|?_
 have I:=ub u b
 refine aE I 21<|ah 2<|?_
 have J:=aJ c u
 refine cb ((decide ((k:Int)<(M.objects.length:Int)))) (fun o=>?_) (fun o=>?_)
 have av:=of_decide_eq_true o
 refine bo<|sq<|bk<|sq<|nD (qA.elt ho k (by omega)) fun z B bb bc bd K N C O aw be d=>Rg 18 (fun w'=>w'.cell? ⟨q,21,none⟩=some (.slice Ao M.objects.length ko)∧w'.cell? ⟨z,B+k*2+0,none⟩=some (vB ((M.objects.getD k ⟨0,[]⟩).id))∧w'.cell? ⟨z,B+k*2+1,none⟩=some (.slice K ((M.objects.getD k ⟨0,[]⟩).value.length) N)) fun bf j=>?_
 have P:=ub j I
 have Q:=aJ J j
 have D:=ub Q O
 refine bp ⟨(ae P rfl),(iw D d 0 rfl (by decide)),(iw D d 1 rfl (by decide))⟩ fun a=>Rt 0 a<|Rt 1 a<|Rl 2 a (fun _ hs=>hs.1)<|Rt 3 a<|Ri 4 a 2 M.objects.length k (k:Int) rfl C (by omega)<|Rt 5 a<|Rl 6 a (fun _ hs=>hs.2.1)<|Rt 7 a<|Rl 8 a (fun _ hs=>hs.1)<|Rt 9 a<|Ri 10 a 2 M.objects.length k (k:Int) rfl C (by omega)<|Rt 11 a<|Rl 12 a (fun _ hs=>hs.2.2)<|Rt 13 a<|Rt 14 a<|R0 15 rfl<|d9 (m:=2) (e:=5) #[vB ((M.objects.getD k ⟨0,[]⟩).id),vB ((((M.objects.getD k ⟨0,[]⟩).value.length:Nat) : Int)%256)] fun bg bh ay az f=>?_
 have aA:=cL ay (xs:=[(M.objects.getD k ⟨0,[]⟩).id,((((M.objects.getD k ⟨0,[]⟩).value.length:Nat) : Int)%256)]) (by as_aux_lemma=>kernel_rfl) (ap (by omega) (ap (by omega) aR)) (by(try simp only[List.length_cons,List.length_nil]);omega) az
 have R:=ub f P
 have E:=ub f D
 refine bp ⟨(ae R rfl),(iw E d 0 rfl (by decide)),(iw E d 1 rfl (by decide))⟩ fun bl=>?_
 have S:=aJ j f
 refine R0 16 rfl<|bS b9 (xs:=L) (ys:=([(M.objects.getD k ⟨0,[]⟩).id,((((M.objects.getD k ⟨0,[]⟩).value.length:Nat) : Int)%256)])) (vB 0) 1 (ax i S (fun x hx=>aF) (fun _ _ h=>h)) (aA).rd (by(try simp only[bV,aB]);omega) (le (le (le t.size y) j.size) f.size) fun T bm br U l=>?_
 have V:=aH.blk l (bC (aL (au b) lr i) aF) R
 have F:=aH.blk l (bC (aL (au O) c.size i) aF) E
 refine bp ⟨(ae V rfl),(iw F d 0 rfl (by decide)),(iw F d 1 rfl (by decide))⟩ fun aG=>Rt 17 aG<|re<|tn<|go<|Pl 2<|aE V 21<|Pl 1<|L0<|wn 2 M.objects.length k C (by omega)<|Pl 1<|L0<|eH (p:=⟨z,B+k*2+1,none⟩) (v:=.slice K ((M.objects.getD k ⟨0,[]⟩).value.length) N) (iw F d 1 rfl (by decide))<|?_
 refine L0<|bS b9 (xs:=(L++[(M.objects.getD k ⟨0,[]⟩).id,((((M.objects.getD k ⟨0,[]⟩).value.length:Nat) : Int)%256)])) (ys:=((M.objects.getD k ⟨0,[]⟩).value)) (vB 0) 1 U (aX.old aw (ut Q (ut (aH.mono (S':=(ob A++[])) f aC) l (aq il aC)) (aq (aU i c.size) aC))) (by(try simp only[bV,aB]);omega) (le (le (le (le t.size y) j.size) f.size) l.size) fun aK aM bs aN W=>Pl 1<|nl<|bn<|tn<|go<|Pl 1<|bq ((k:Int)+1)<|Pl 1<|nl<|?_
 exact gL ((k+1),((L++[(M.objects.getD k ⟨0,[]⟩).id,((((M.objects.getD k ⟨0,[]⟩).value.length:Nat) : Int)%256)])++(M.objects.getD k ⟨0,[]⟩).value),aK,aM) ⟨(ut u (ut (aH.mono (S':=(ob A++(ob T++[]))) S aC) (ut (aH.mono (S':=(ob A++(ob T++[]))) l (aq il aC)) W (aq il aC)) (aq il (aq il aC))) (aq (aU i lr) (aq (aU U lr) aC))),(le (le (le (le y j.size) f.size) l.size) W.size),aN,(by(try dsimp only);omega),(by(try dsimp only);rw[← hL,pB  M.objects k (by omega)];simp only[List.append_assoc]),(by(try dsimp only);have hv:=hf.objv _ (ex ⟨0,[]⟩ M.objects k (by omega));(try simp only[bV,aB]);omega),(by(try dsimp only);(try simp only[bV]);omega)⟩ (by omega)
 have av:=of_decide_eq_false o
 refine xt<|tx<|tx<|bx<|tn<|aD 2<|rt<|rr (.slice A L.length cp)<|?_
 have hk:k=M.objects.length:=by omega
 rw[hk,List.drop_length] at hL
 have hL2:L=([M.mei,M.kind,M.level,M.more,M.next,((M.objects.length:Int)%256)])++eZ M.objects:=by rw[← hL];simp[eZ]
 have hs:gz dir M=L:=by
   rw[hL2]
   unfold gz
   (try simp only[g,n,o,bj,reduceIte])
   all_goals rfl
 rw[hs]
 exact⟨_,rfl,(b7.weaken i c.size),J⟩
end Go.Proofs.YtdkhbcefkfgbdaaGreat
