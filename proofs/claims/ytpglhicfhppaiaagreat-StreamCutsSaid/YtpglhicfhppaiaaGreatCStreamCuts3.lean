/- Contracts of functions, part CStreamCuts3. -/
import Derived.Test.YtpglhicfhppaiaaGreatCStreamCuts1
import Derived.Test.YtpglhicfhppaiaaGreatCStreamCuts2
import Derived.RangeFuncRecord
import Derived.RangeFuncLeaves
import Derived.RangeFuncCalls
import Derived.OpenShut
import Derived.Below
import Derived.Deep.Upon
import Derived.Laws.BitsAllLaws
import Derived.Laws.StructEq
set_option linter.unusedVariables false
set_option linter.unusedSimpArgs false
set_option maxRecDepth 100000
set_option maxHeartbeats 4000000
namespace Go.Proofs.YtpglhicfhppaiaaGreat
open Go.RowKit
def sj (C:ak) : ak:=(C.bytesC 1).need (C.byteV==6) 9
def q9 (C:ak) : ak:=((sj C).wordsC 1).need ((sj C).wordV != 0) 6
def q5 (C:ak) : ak:=((q9 C).wordsC 1).need (decide ((q9 C).wordV≤9999)) 7
def fE (C:ak) : ak:=((q5 C).wordsC 1).need ((q5 C).wordV != 0) 5
def b7 (C:ak) : dJ:=⟨(sj C).wordV,(q9 C).wordV,(q5 C).wordV,[]⟩
def f5 (s:Int)(C:ak) : Int:=s+(2+2*(q5 C).wordV)
def ee (s:Int)(C:ak) : ak:=(fE C).need (decide (f5 s C≤245)) 5
def jv (C:ak) : ak:=(C.bytesC 1).need ((C.byteV%2==1&&decide (3≤C.byteV))&&decide (C.byteV≤((C.bytesC 1).l.length:Int))) 5
def kD (C:ak) : ak:=((jv C).bytesC 1).need ((jv C).byteV==6) 9
def eZ (C:ak) : ak:=(kD C).wordsC (Int.tdiv (C.byteV-1) 2)
def el (C:ak) : dJ:=⟨0,0,0,(kD C).wordsR (Int.tdiv (C.byteV-1) 2)⟩
def oH (C:ak) : ak:=(fE C).need (decide (2*(q5 C).wordV≤((fE C).l.length:Int))) 5
def ie (C:ak) : ak:=(oH C).wordsC (q5 C).wordV
def gj (C:ak) : dJ:=⟨(sj C).wordV,(q9 C).wordV,(q5 C).wordV,(oH C).wordsR (q5 C).wordV⟩
def s8 (g:Nat)(C':ak)(r:dJ)(w:World)(e:Ending)(w':World) : Prop:=∃ A c,e = .returned (.agg #[.int .u16 r.file,.int .u16 r.record,.int .u16 r.count,.slice A r.words.length c])∧dr true w' (.slice A r.words.length c) r.words∧dj r.file∧dj r.record∧dj r.count∧ae w' g C'∧aq [g] w w'
theorem kc{g:Nat}{C:ak}{w:World}(hC:ae w g C) : Calls Tryz.prog 125 #[.pointer (some ⟨g,0,none⟩)] w (s8 g (fE C) (b7 C) w):=by
 have hlen:=hC.len
 refine en 34 Tryz.func125 rfl<|sg<|L0<|bz #[.int .u16 0,.int .u16 0,.int .u16 0,.slice none 0 0] fun Z a0 c B b=>ng<|Pl 2<|?_
 refine L0<|Oc<|m3 (bh (ae.old hC b)) fun a1 D d a2=>Pl 1<|L0<|Oc<|m2 (aK ((C.byteV==6)) 9 D) fun a3 E e=>?_
 refine ab E fun fA F G=>?_
 refine ng<|L0<|bz #[.int .u16 0,.int .u16 0,.int .u16 0,.slice none 0 0] fun a4 a5 f H h=>ng<|Pl 1<|?_
 refine L0<|Oc<|m3 (bi (ae.old G h)) fun a6 I i a7=>Pl 1<|?_
 have a:=nb (ae.lt hC) (le (le b.size d.size) e.size) f
 have j:=aO i (Ne.symm a) H
 refine L0<|bO j 0 #[.int .u16 fA.wordV,.int .u16 0,.int .u16 0,.slice none 0 0] fun a8 k l=>ng<|Pl 2<|L0<|aR k 0<|Pl 1<|?_
 refine L0<|Oc<|m2 (aK ((fA.wordV != 0)) 6 (ae.upd I l (aa a ay) (ah (aD j (by decide)) az))) fun a9 J K=>?_
 refine ab J fun fJ L M=>?_
 refine ng<|Pl 1<|L0<|Oc<|m3 (bi M) fun ac N O ad=>Pl 1<|?_
 have m:=u1 K O im
 have n:=aO m (Ne.symm a) k
 refine L0<|bO n 1 #[.int .u16 fA.wordV,.int .u16 fJ.wordV,.int .u16 0,.slice none 0 0] fun af o p=>ng<|Pl 2<|L0<|aR o 1<|Pl 1<|?_
 refine L0<|Oc<|m2 (aK ((decide (fJ.wordV≤9999))) 7 (ae.upd N p (aa a ay) (ah (aD n (by decide)) az))) fun ag P Q=>?_
 refine ab P fun x61 R S=>?_
 refine ng<|Pl 1<|L0<|Oc<|m3 (bi S) fun ai T U aj=>Pl 1<|?_
 have q:=u1 Q U im
 have r:=aO q (Ne.symm a) o
 refine L0<|bO r 2 #[.int .u16 fA.wordV,.int .u16 fJ.wordV,.int .u16 x61.wordV,.slice none 0 0] fun al s t=>ng<|Pl 2<|L0<|aR s 2<|Pl 1<|?_
 refine L0<|Oc<|m2 (aK ((x61.wordV != 0)) 5 (ae.upd T t (aa a ay) (ah (aD r (by decide)) az))) fun am V u=>?_
 refine ab V fun x77 W X=>?_
 refine ng<|?_
 refine L0<|c5 (aO u (Ne.symm a) s)<|?_
 have v:=u1 d (u1 e (ud h (ui i (ui l (ui m (ui p (ui q (us t u)))))) f) im) im
 have y:=nb (ae.lt hC) lr c
 have z:=aO v (Ne.symm y) B
 refine L0<|b6 z #[.int .u16 fA.wordV,.int .u16 fJ.wordV,.int .u16 x61.wordV,.slice none 0 0] fun an Y A=>nt<|rt<|t6 Y<|?_
 subst W R L F
 exact⟨_,_,rfl,aG.nil ..,aB (x:=((C.bytesC 1).need (C.byteV==6) 9).wordV) (by omega),aB (x:=((((C.bytesC 1).need (C.byteV==6) 9).wordsC 1).need (((C.bytesC 1).need (C.byteV==6) 9).wordV != 0) 6).wordV) (by omega),aB (x:=((((((C.bytesC 1).need (C.byteV==6) 9).wordsC 1).need (((C.bytesC 1).need (C.byteV==6) 9).wordV != 0) 6).wordsC 1).need (decide (((((C.bytesC 1).need (C.byteV==6) 9).wordsC 1).need (((C.bytesC 1).need (C.byteV==6) 9).wordV != 0) 6).wordV≤9999)) 7).wordV) (by omega),(ae.upd X A (aa y ay) (ah (aD z (by decide)) az)),(ue b (us v A) c)⟩
theorem n8{g:Nat}{C:ak}{w:World}(hC:ae w g C) : Calls Tryz.prog 128 #[.pointer (some ⟨g,0,none⟩)] w (s8 g (eZ C) (el C) w):=by
 have hlen:=hC.len
 refine en 33 Tryz.func128 rfl<|sg<|L0<|bz #[.int .u16 0,.int .u16 0,.int .u16 0,.slice none 0 0] fun R S f i j=>ng<|Pl 1<|?_
 refine L0<|Oc<|m3 (bh (ae.old hC j)) fun T c k U=>L0<|Oi C.byteV<|Pl 1<|ng<|Pl 2<|L0<|Oe (.int .i64 (Int.tmod C.byteV 2)) (.int .i64 (C.byteV%2)) (congrArg (Value.int .i64) (Int.tmod_eq_emod_of_nonneg (by omega)))<|Pl 2<|cu 3 [11] 14 ((((C.byteV%2)==1)&&(decide (3≤C.byteV)))) (fun K m=>?_) ?_
 refine bl 11 (((C.byteV%2)==1)) (fun a=>?_) (fun a=>?_)
 have y:=aA a
 exact Pl 3<|ce m (decide (3≤C.byteV)) (by rw[a];rfl)
 have y:=aH a
 exact Pl 3<|ce m false (by rw[a];rfl)
 refine Pl 1<|cu 5 [15] 20 (((((C.byteV%2)==1)&&(decide (3≤C.byteV)))&&(decide (C.byteV≤(((C.bytesC 1).l.length:Nat) : Int))))) (fun K o=>?_) ?_
 refine bl 15 ((((C.byteV%2)==1)&&(decide (3≤C.byteV)))) (fun b=>?_) (fun b=>?_)
 have z:=(bM b).1
 have A:=(bM b).2
 have V:=aA z
 have W:=of_decide_eq_true A
 refine Pl 2<|L1<|Oc<|mq (cv c)<|?_
 have X:=ae.len c
 exact Pl 2<|ce o (decide (C.byteV≤(((C.bytesC 1).l.length:Nat) : Int))) (by rw[b];rfl)
 exact Pl 5<|ce o false (by rw[b];rfl)
 refine L0<|Oc<|m2 (aK (((((C.byteV%2)==1)&&(decide (3≤C.byteV)))&&(decide (C.byteV≤(((C.bytesC 1).l.length:Nat) : Int))))) 5 c) fun Y B p=>?_
 refine ab B fun x28 D E=>?_
 refine ng<|Pl 2<|L0<|Oc<|m3 (bh E) fun Z F q a0=>Pl 1<|L0<|Oc<|m2 (aK ((x28.byteV==6)) 9 F) fun a1 G r=>?_
 refine ab G fun x38 H I=>?_
 refine ng<|Pl 2<|L0<|Oi (C.byteV-1)<|L0<|Oe (.int .i64 (IntKind.i64.wrap (Int.tdiv (C.byteV-1) 2))) (.int .i64 (Int.tdiv (C.byteV-1) 2)) (congrArg (Value.int .i64) (oS (by omega) (by omega)))<|L0<|Oc<|mr (cC (n:=(Int.tdiv (C.byteV-1) 2)) I) fun J L a2 s a3 a4 M N=>?_
 refine ab M fun x48 O P=>?_
 refine Pl 1<|?_
 have t:=u1 k (u1 p (u1 q (u1 r N im) im) im) im
 have u:=nb (ae.lt hC) lr f
 have v:=aO t (Ne.symm u) i
 refine L0<|b6 v #[.int .u16 0,.int .u16 0,.int .u16 0,.slice J ((x38.wordsR (Int.tdiv (C.byteV-1) 2)).length) L] fun a5 Q d=>nt<|rt<|t6 Q<|?_
 subst O H D
 exact⟨_,_,rfl,((am s d (fun x hx=>(aa (fun e=>(ap (aj i) (le (le (le k.size p.size) q.size) r.size) s) (e▸hx)) ay)) (fun _ _ h=>h))).rd,aB (x:=0) (by omega),aB (x:=0) (by omega),aB (x:=0) (by omega),(ae.upd P d (aa u ay) (ah (aD v (by decide)) az)),(ue j (us t d) f)⟩
theorem rb{g:Nat}{C:ak}{w:World}(hC:ae w g C) : Calls Tryz.prog 130 #[.pointer (some ⟨g,0,none⟩)] w (s8 g (ie C) (gj C) w):=by
 have hlen:=hC.len
 refine en 22 Tryz.func130 rfl<|sg<|L0<|bz #[.int .u16 0,.int .u16 0,.int .u16 0,.slice none 0 0] fun X Y v f i=>ng<|Pl 1<|?_
 refine L0<|Oc<|t0 (kc (ae.old hC i)) fun I J Z a0 K L M N c=>?_
 obtain⟨a1,a2⟩:=K
 obtain⟨a3,a4⟩:=L
 obtain⟨a5,a6⟩:=M
 refine L0<|bz #[.int .u16 0,.int .u16 0,.int .u16 0,.slice none 0 0] fun O a7 j y z=>L0<|b6 y #[.int .u16 ((b7 C).file),.int .u16 ((b7 C).record),.int .u16 ((b7 C).count),.slice I ((b7 C).words.length) J] fun a8 P k=>nt<|sq<|Rg 9 (fun w'=>w'.cell? ⟨O,2,none⟩=some (.int .u16 ((b7 C).count))) fun a9 d=>?_
 have m:=ub d P
 refine b9 (ai m rfl) fun a=>Rt 0 a<|Rt 1 a<|Rl 2 a (fun _ hs=>hs)<|Rr 3 a (.int .i64 ((b7 C).count)) (fun _ _=>bU (.int .i64 (IntKind.i64.wrap ((b7 C).count))) (by kernel_rfl) (congrArg (Value.int .i64) (i64_in (by omega))))<|Rr 4 a (.int .i64 (2*((b7 C).count))) (fun _ _=>bU (.int .i64 (IntKind.i64.wrap (2*((b7 C).count)))) (by kernel_rfl) (congrArg (Value.int .i64) (IntWalk.i64_in _ (by omega))))<|Rt 5 a<|?_
 have o:=ud z (aE k d) j
 have p:=ae.old N o
 refine R0 6 rfl<|Oc<|mq (cv p)<|?_
 have ac:=ae.len p
 refine b9 (ai m rfl) fun Q=>Rt 7 Q<|R0 8 rfl<|Oc<|m2 (aK ((decide ((2*((b7 C).count))≤(((fE C).l.length:Nat) : Int)))) 5 p) fun ad R b=>?_
 refine ab R fun x54 S T=>?_
 have q:=nb (ae.lt hC) (le i.size c.size) j
 have r:=aO b (Ne.symm q) m
 refine b9 (ai r rfl) fun af=>re<|tn<|sg<|Pl 2<|L0<|aR r 2<|L0<|Oi ((b7 C).count)<|L0<|Oc<|mr (cC (n:=(b7 C).count) T) fun A B ag s al an U t=>Pl 1<|?_
 have D:=aO t (Ne.symm q) r
 refine L0<|bO D 3 #[.int .u16 ((b7 C).file),.int .u16 ((b7 C).record),.int .u16 ((b7 C).count),.slice A ((x54.wordsR ((b7 C).count)).length) B] fun ao V E=>ng<|L0<|c5 V<|?_
 have F:=u1 c (ue o (ui b (us t E)) j) im
 have u:=nb (ae.lt hC) lr v
 refine L0<|b6 (aO F (Ne.symm u) f) #[.int .u16 ((b7 C).file),.int .u16 ((b7 C).record),.int .u16 ((b7 C).count),.slice A ((x54.wordsR ((b7 C).count)).length) B] fun aq W G=>nt<|rt<|t6 W<|?_
 subst S
 have H:=us E G
 exact⟨_,_,rfl,((am s H (fun x hx=>(aa (fun e=>(ap (aj y) (le (le k.size d.size) b.size) s) (e▸hx)) (aa (fun e=>(ap (aj f) (le (le (le (le c.size z.size) k.size) d.size) b.size) s) (e▸hx)) ay))) (fun _ _ h=>h))).rd,aB (x:=(b7 C).file) (by omega),aB (x:=(b7 C).record) (by omega),aB (x:=(b7 C).count) (by omega),(ae.upd U H (aa q (aa u ay)) (ah (aD D (by decide)) (ah (aD (aO (u1 c (uz o (u1 b t im)) im) (Ne.symm u) f) (by decide)) az))),(ue i (us F G) v)⟩
theorem lH{n:Int}{w:World}(hn:0≤n∧n<256) : Calls Tryz.prog 126 #[.int .i64 n] w (bg (.bool ((decide (7≤n)&&decide (n≤245))&&n%7==0)) w):=by
 refine en 14 Tryz.func126 rfl<|sg<|Pl 1<|ng<|Pl 3<|cu 3 [5] 8 (((decide (7≤n))&&(decide (n≤245)))) (fun K c=>?_) ?_
 refine bl 5 ((decide (7≤n))) (fun a=>?_) (fun a=>?_)
 have e:=of_decide_eq_true a
 exact Pl 3<|ce c (decide (n≤245)) (by rw[a];rfl)
 have e:=of_decide_eq_false a
 exact Pl 3<|ce c false (by rw[a];rfl)
 refine Pl 1<|cu 4 [9] 13 ((((decide (7≤n))&&(decide (n≤245)))&&((n%7)==0))) (fun K d=>?_) ?_
 refine bl 9 (((decide (7≤n))&&(decide (n≤245)))) (fun b=>?_) (fun b=>?_)
 have f:=(bM b).1
 have g:=(bM b).2
 have h:=of_decide_eq_true f
 have i:=of_decide_eq_true g
 exact Pl 1<|L1<|Oe (.int .i64 (Int.tmod n 7)) (.int .i64 (n%7)) (congrArg (Value.int .i64) (Int.tmod_eq_emod_of_nonneg (by omega)))<|Pl 2<|ce d ((n%7)==0) (by rw[b];rfl)
 exact Pl 4<|ce d false (by rw[b];rfl)
 refine Pl 1<|nt<|rt<|rr (.bool (((decide (7≤n))&&(decide (n≤245)))&&((n%7)==0)))<|?_
 exact⟨rfl,(aq.refl [] _)⟩
theorem mb{n:Int}{w:World}(hn:0≤n∧n<256) : Calls Tryz.prog 127 #[.int .i64 n] w (bg (.bool (decide (4≤n)&&decide (n≤245))) w):=by
 refine en 9 Tryz.func127 rfl<|sg<|Pl 1<|ng<|Pl 3<|cu 3 [5] 8 (((decide (4≤n))&&(decide (n≤245)))) (fun K b=>?_) ?_
 refine bl 5 ((decide (4≤n))) (fun a=>?_) (fun a=>?_)
 have c:=of_decide_eq_true a
 exact Pl 3<|ce b (decide (n≤245)) (by rw[a];rfl)
 have c:=of_decide_eq_false a
 exact Pl 3<|ce b false (by rw[a];rfl)
 refine Pl 1<|nt<|rt<|rr (.bool ((decide (4≤n))&&(decide (n≤245))))<|?_
 exact⟨rfl,(aq.refl [] _)⟩
theorem kX{n:Int}{w:World}(hn:0≤n∧n<256) : Calls Tryz.prog 129 #[.int .i64 n] w (bg (.bool (decide (9≤n)&&decide (n≤251))) w):=by
 refine en 9 Tryz.func129 rfl<|sg<|Pl 1<|ng<|Pl 3<|cu 3 [5] 8 (((decide (9≤n))&&(decide (n≤251)))) (fun K b=>?_) ?_
 refine bl 5 ((decide (9≤n))) (fun a=>?_) (fun a=>?_)
 have c:=of_decide_eq_true a
 exact Pl 3<|ce b (decide (n≤251)) (by rw[a];rfl)
 have c:=of_decide_eq_false a
 exact Pl 3<|ce b false (by rw[a];rfl)
 refine Pl 1<|nt<|rt<|rr (.bool ((decide (9≤n))&&(decide (n≤251))))<|?_
 exact⟨rfl,(aq.refl [] _)⟩
theorem f6{e:Int}{w:World}:Calls Tryz.prog 96 #[.int .i64 e] w (bg (.int .i64 (if e==2 then 5 else e)) w):=by
 refine en 6 Tryz.func96 rfl<|sg<|Pl 1<|nt<|sq<|sg<|Pl 2<|nt<|cb ((e==2)) (fun a=>?_) (fun a=>?_)
 have b:=aA a
 refine sg<|Pl 1<|nt<|rt<|tr<|rr (.int .i64 5)<|?_
 have hs:(if e==2 then (5:Int) else e)=5:=by simp only[a,bs,if_true,if_false,decide_true,decide_false,reduceIte]
 rw[hs]
 exact⟨rfl,(aq.refl [] _)⟩
 have b:=aH a
 refine bD<|sg<|Pl 2<|nt<|rt<|rr (.int .i64 e)<|?_
 have hs:(if e==2 then (5:Int) else e)=e:=by simp only[a,bs,if_true,if_false,decide_true,decide_false,reduceIte]
 rw[hs]
 exact⟨rfl,(aq.refl [] _)⟩
open Go.RowKit
structure WF (F:Fence) (n:Nat) (P:Program) (ops:Array Oper) (Q:Exit→Act→World→Prop) (l:List Oper) (a:Act) (w:World) : Prop where
  out:wpListIn F n P ops Q l a w
def cZ (F:Fence) : Prop:=F=Fence.wide∨∃ l,F=Fence.wide.inRound l
theorem i3:cZ Fence.wide:=.inl rfl
theorem ga(l:Nat) : cZ (Fence.wide.inRound l):=.inr ⟨l,rfl⟩
theorem cZ.fn{F:Fence}(h:cZ F)(f:FuncId) : F.fn f:=by
  rcases h with rfl|⟨l,rfl⟩<;>trivial
theorem cZ.depth{F:Fence}(h:cZ F) : F.depth=none:=by
  rcases h with rfl|⟨l,rfl⟩<;>rfl
section
variable {F:Fence}{n:Nat}{P:Program}{Q:Exit→Act→World→Prop}{a:Act}{w:World}{K:Act→World→Prop}{ops:Array Oper}{rest:List Oper}{o:Oper}{N:Option Tmp}
theorem t1{f:FuncId}{args:Array Value}{R:Ending→World→Prop}(hF:cZ F)(h:Calls P f args w R) : CallsIn F n P f args w R:=by
  rcases hF with rfl|⟨l,rfl⟩
  · exact callsIn_wide.2 h
  · exact CallsIn.inRound l (callsIn_wide.2 h)
theorem tk{row:String}{args:Array Value}{R:Value→World→Prop}(hF:cZ F)(h:Rows P row args w R) : RowsIn F n P row args w R:=by
  have h0:RowsIn Fence.wide n P row args w R:=fun c cs _=>let ⟨v,w',r,s⟩:=h c cs; ⟨v,w',r,stepsIn_wide.2 s⟩
  rcases hF with rfl|⟨l,rfl⟩
  · exact h0
  · exact h0
def dM:Op→Bool
  | .defer _=>false
  | _=>true
theorem vJ(hF:cZ F)(hd:dM o.op=true)(h:o.wp P a w K Q) : o.wpIn F n P a w K Q:=by
  refine⟨fun f _=>hF.fn f,?_⟩
  rw[Oper.semAt_eq _ _ _ (fun c hc=>by rw[hc] at hd;cases hd)]
  unfold Oper.wp at h
  have hdep:∀ {p:Prop},F.depth.isSome=true→p:=fun h=>by rw[hF.depth] at h;cases h
  generalize (execOp a.eval o).run P w=r at h ⊢
  cases r with
  | ok x w' =>
    cases x<;>simp only[Oper.upon,Oper.uponIn] at h ⊢
    case value u=>exact h
    case skip=>exact h
    case defer d=>exact h
    case enter f args=>exact⟨hdep,t1 hF h⟩
    case row row args=>exact⟨hdep,tk hF h⟩
  | halt x w' =>
    cases x<;>simp only[Oper.upon,Oper.uponIn] at h ⊢
    case panic u=>exact h
theorem vU{id:Nat}{l:List Oper}(n:Nat)(h:WF Fence.wide n P l.toArray Q l a w) : (Code.region id l.toArray false).wp P Q a w:=wpIn_wide.1 (wpIn_region_lit h.out)
theorem vg{id:Nat}{l:List Oper}(h:WF F n P l.toArray Q l a w) : (Code.region id l.toArray false).wpIn F n P Q a w:=wpIn_region_lit h.out
theorem uG(h:Q .normal a w) : WF F n P ops Q [] a w:=⟨h⟩
theorem vv(hF:cZ F)(hd:dM o.op=true)(hw:Region.wanted o (yielded ops a.tmps)=true)(h:OW P o a w (WF F n P ops Q rest) Q) : WF F n P ops Q (o :: rest) a w:=by
  refine⟨?_⟩
  unfold wpListIn
  rw[if_pos hw]
  exact vJ hF hd (eN h fun _ _ h=>h.out)
theorem uR(hF:cZ F)(hw:Region.wanted o (yielded ops a.tmps)=false)(hN:o.dst=N)(h:WF F n P ops Q rest (a.put N undef) w) : WF F n P ops Q (o :: rest) a w:=by
  subst hN
  refine⟨?_⟩
  unfold wpListIn
  rw[if_neg (by simp[hw])]
  exact⟨fun f _=>hF.fn f,h.out⟩
theorem s9{x:Operand}{opds:Array Operand}{ts:Array TypeId}{l:Nat}{r:Loop}(args:Array Value)(hw:Region.wanted o (yielded ops a.tmps)=true)(hN:o.dst=N)(hop:o.op = .call { callee:=.value x,args:=opds,argTypes:=ts })
    (hx:a.eval x = .func (.yield l) #[] #[]) (hargs:opds.map a.eval=args) (hl:w.heap[l]? = some (.loop r)) (hs:args.size=r.params.size)
    (h:RoundIn Fence.wide (n-1) P l r.fn ((r.params.zip args).foldl (fun tmps (t,a)=>tmps.setIfInBounds t a) r.tmps) r.assign r.body w (fun e w'=>∃ v,e = .returned v∧WF Fence.wide n P ops Q rest (a.put N v) w')) : WF Fence.wide n P ops Q (o :: rest) a w:=by
  subst hN
  refine⟨?_⟩
  unfold wpListIn
  rw[if_pos hw]
  refine⟨fun f _=>trivial,?_⟩
  have hrun:(o.semAt Fence.wide.round a.eval).run P w = .ok (.round l r.fn ((r.params.zip args).foldl (fun tmps (t,a)=>tmps.setIfInBounds t a) r.tmps) r.assign r.body) w:=by
    show(execOp a.eval o).run P w=_
    unfold execOp
    simp only[hop,resolve,hx,Deferred.ofValue,Sem.run_bind,Sem.run_pure,Result.andThen_ok,invoke,hargs]
    have:=run_yield (P:=P) (args:=args) hl hs
    simpa using this
  rw[hrun,Oper.uponIn_round]
  refine⟨(by simp[Fence.wide]),h.mono fun e w' hh=>?_⟩
  obtain⟨v,rfl,h2⟩:=hh
  exact h2.out
end
theorem qg{P:Program}{n:Nat}{ops:Array Oper}{Q:Exit→Act→World→Prop}{rest:List Oper}{o:Oper}{a:Act}{w:World}{N:Option Tmp}{x:Operand}{opds:Array Operand}{ts:Array TypeId}{l:Nat}{r:Loop}(v:Value)(p:Tmp)(hw:Region.wanted o (yielded ops a.tmps)=true)(hN:o.dst=N)(hop:o.op = .call { callee:=.value x,args:=opds,argTypes:=ts })
    (hx:a.eval x = .func (.yield l) #[] #[]) (hargs:opds.map a.eval = #[v]) (hl:w.heap[l]? = some (.loop r)) (hp:r.params = #[p])
    (h:RoundIn Fence.wide (n-1) P l r.fn (r.tmps.setIfInBounds p v) r.assign r.body w (fun e w'=>∃ u,e = .returned u∧WF Fence.wide n P ops Q rest (a.put N u) w')) : WF Fence.wide n P ops Q (o :: rest) a w:=by
  refine s9 #[v] hw hN hop hx hargs hl (by rw[hp];rfl) ?_
  have:((r.params.zip #[v]).foldl (fun tmps (t,a)=>tmps.setIfInBounds t a) r.tmps)=r.tmps.setIfInBounds p v:=by rw[hp];simp
  rw[this]
  exact h
theorem e8{w:World}{l:Nat}(o:Go.Obj) : aq [l] w (w.putObj l o) :=
  ⟨rfl,rfl,rfl,by simp[World.putObj],fun k hk hn=>World.putObj_heap_other (by simpa using hn)⟩
theorem gU{w:World}{l:Nat}{o:Go.Obj}(o':Go.Obj)(h:w.heap[l]? = some o) : (w.putObj l o').heap[l]? = some o':=World.putObj_heap_same (aj h)
def fw:Go.Obj→Bool
  | .cells ..=>false
  | _=>true
theorem aG.updl{α:Type}{m:Bool}{e:TypeId}{sz:Nat}{R:World→α→List Value→Prop}{w w':World}{v:Value}{xs:List α}{l:Nat}{o:Go.Obj}
    (h:aG m e sz R w v xs) (hu:aq [l] w w') (hl:w.heap[l]? = some o) (ho:fw o=true) (hR:∀ x cs,R w x cs→R w' x cs) : aG m e sz R w' v xs:=by
  obtain⟨A,c,rfl,h1,h2,h0,h3⟩:=h
  refine⟨A,c,rfl,h1,h2,h0,fun hp=>?_⟩
  obtain⟨b,off,cells,t,fr,rfl,hb,ht,hx⟩:=h3 hp
  refine⟨b,off,cells,t,fr,rfl,?_,ht,fun j x hj=>?_⟩
  · refine hu.blk (fun hbs=>?_) hb
    simp at hbs
    subst hbs
    rw[hl] at hb
    injection hb with hb
    subst hb
    cases ho
  · obtain⟨cs,hl,hr,hc⟩:=hx j x hj
    exact⟨cs,hl,hR _ _ hr,hc⟩
theorem aL.updl{m:Bool}{w w':World}{v:Value}{xs:List Int}{l:Nat}{o:Go.Obj}(h:aL m w v xs)(hu:aq [l] w w')(hl:w.heap[l]? = some o)(ho:fw o=true) : aL m w' v xs:=aG.updl h hu hl ho fun _ _ h=>h
theorem dr.updl{m:Bool}{w w':World}{v:Value}{xs:List Int}{l:Nat}{o:Go.Obj}(h:dr m w v xs)(hu:aq [l] w w')(hl:w.heap[l]? = some o)(ho:fw o=true) : dr m w' v xs:=aG.updl h hu hl ho fun _ _ h=>h
theorem bj.updl{m:Bool}{w w':World}{l:Nat}{o:Go.Obj}(hu:aq [l] w w')(hl:w.heap[l]? = some o)(ho:fw o=true)(r:dJ)(cs:List Value)(h:bj m w r cs) : bj m w' r cs:=by
  obtain⟨v,h1,h2,h3⟩:=h
  exact⟨v,h1,dr.updl h2 hu hl ho,h3⟩
theorem ae.updl{w w':World}{g:Nat}{c:ak}{l:Nat}{o:Go.Obj}(h:ae w g c)(hu:aq [l] w w')(hg:g∉[l])(hl:w.heap[l]? = some o)(ho:fw o=true) : ae w' g c:=by
  obtain⟨v,hb,hr,hn⟩:=h
  exact⟨v,hu.blk hg hb,hr.updl hu hl ho,hn⟩
theorem pJ{n:Nat}{P:Program}{l:Nat}{f:FuncId}{tmps:Array Value}{assign body:Code}{w:World}{r:Loop}{R:Ending→World→Prop}
    (h:assign.wpIn (Fence.wide.inRound l) n P (Exit.then (fun a₁ w₁=>w₁.heap[l]? = some (.loop r)∧r.state = .ready∧∀ w₂,w₂.heap[l]? = some (.loop { r with state:=.busy })→aq [l] w₁ w₂ →
      body.wpIn (Fence.wide.inRound l) n P (Exit.then (fun _ w₃=>∃ r',w₃.heap[l]? = some (.loop r')∧∀ w₄,w₄.heap[l]? = some (.loop { r' with state:=.ready,pending:=none })→aq [l] w₃ w₄→R (.returned (.bool true)) w₄) (fun _ _ _=>False)) a₁ w₂) (fun _ _ _=>False)) { tmps:=tmps,defers:=[] } w) :
    RoundIn Fence.wide n P l f tmps assign body w R:=by
  refine roundIn_of_wpIn trivial (Code.wpIn_mono (fun e a w q=>?_) h)
  cases e with
  | normal =>
    obtain⟨h1,h2,h3⟩:=q
    refine⟨_,run_beginRound h1 h2,Code.wpIn_mono (fun e a w q=>?_) (h3 _ (gU _ h1) (e8 _))⟩
    cases e with
    | normal =>
      obtain⟨r',h4,h5⟩:=q
      exact⟨_,_,run_endRound none h4,h5 _ (gU _ h4) (e8 _)⟩
    | _=>exact q.elim
  | _=>exact q.elim
theorem gY{n:Nat}{P:Program}{l:Nat}{f:FuncId}{tmps:Array Value}{assign body:Code}{w:World}{r:Loop}{R:Ending→World→Prop}
    (hl:w.heap[l]? = some (.loop r))
    (h:assign.wpIn (Fence.wide.inRound l) n P (Exit.then (fun a₁ w₁=>w₁.heap[l]? = some (.loop r)∧r.state = .ready∧∀ w₂,w₂.heap[l]? = some (.loop { r with state:=.busy })→aq [l] w₁ w₂ →
      body.wpIn (Fence.wide.inRound l) n P (Exit.then (fun _ w₃=>∃ r',w₃.heap[l]? = some (.loop r')∧∀ w₄,w₄.heap[l]? = some (.loop { r' with state:=.ready,pending:=none })→aq [l] w₃ w₄→R (.returned (.bool true)) w₄) (fun _ _ _=>False)) a₁ w₂) (fun _ _ _=>False)) { tmps:=tmps,defers:=[] } w) :
    RoundIn Fence.wide n P l f tmps assign body w R:=pJ h
theorem pj{P:Program}{Q:Exit→Act→World→Prop}{a:Act}{w:World}{g:Operand}{ps:Array Tmp}{assign body:Code}{f:FuncId}{fn:Func}(cap:Array Value)
    (hx : a.eval g = .func (.func f) #[] cap) (hf : P.funcs[f]? = some fn) (hname : (fn.name == "runtime.NumGoroutine") = false) (hb : fn.body.isSome = true)
    (h:∀ fn0 D l w₂,w.heap.size≤D→w.heap.size≤l→D≠l→w₂.heap[D]? = some (.deferred (some []))→w₂.heap[l]? = some (.loop { state:=.ready,pending:=none,fn:=fn0,tmps:=a.tmps,params:=ps,assign:=assign,body:=body,defers:=D })→aq [] w w₂ →
      Calls P f (#[.func (.yield l) #[] #[]]++cap) w₂ (fun e w₃=>∃ v r',e = .returned v∧w₃.heap[l]? = some (.loop r')∧r'.state≠.busy∧r'.pending=none∧∀ w₄,aq [l] w₃ w₄→Q .normal { a with defers:={ target:=.collected D,args:=#[] } :: a.defers } w₄)) :
    (Code.rangeFunc g ps assign body).wp P Q a w:=by
  refine(wpIn_wide (n:=9)).1 (wpIn_rangeFunc fun fn0 _=>?_)
  have h1 : fn.name ≠ "runtime.NumGoroutine" := by simpa using hname
  obtain⟨cd,hcd⟩:=Option.isSome_iff_exists.1 hb
  refine⟨w.heap.size+1,[{ target:=.collected w.heap.size,args:=#[] }],((w.alloc (.deferred (some []))).alloc (.loop { state:=.ready,pending:=none,fn:=fn0,tmps:=a.tmps,params:=ps,assign:=assign,body:=body,defers:=w.heap.size })),
    { target:=.fn (.func f) cap,args:=#[]++#[.func (.yield (w.heap.size+1)) #[] #[]] },((w.alloc (.deferred (some []))).alloc (.loop { state:=.ready,pending:=none,fn:=fn0,tmps:=a.tmps,params:=ps,assign:=assign,body:=body,defers:=w.heap.size })),
    f,#[.func (.yield (w.heap.size+1)) #[] #[]]++cap,((w.alloc (.deferred (some []))).alloc (.loop { state:=.ready,pending:=none,fn:=fn0,tmps:=a.tmps,params:=ps,assign:=assign,body:=body,defers:=w.heap.size })),run_enterLoop_outer fn0 a.tmps ps assign body,?_,fun _ _=>trivial,?_,by simp[Fence.wide],?_⟩
  · unfold resolve
    simp only[rangeCall,hx,Deferred.ofValue,Sem.run_pure,List.map_toArray,List.map_cons,List.map_nil]
    rfl
  · simp[invoke,callFunc,hf,h1,hcd]
  · have hD:((w.alloc (.deferred (some []))).alloc (.loop { state:=.ready,pending:=none,fn:=fn0,tmps:=a.tmps,params:=ps,assign:=assign,body:=body,defers:=w.heap.size })).heap[w.heap.size]? = some (.deferred (some [])):=r8 (cO w _) _
    have hl:((w.alloc (.deferred (some []))).alloc (.loop { state:=.ready,pending:=none,fn:=fn0,tmps:=a.tmps,params:=ps,assign:=assign,body:=body,defers:=w.heap.size })).heap[w.heap.size+1]? = some (.loop { state:=.ready,pending:=none,fn:=fn0,tmps:=a.tmps,params:=ps,assign:=assign,body:=body,defers:=w.heap.size }):=by
      have:=cO (w.alloc (.deferred (some []))) (.loop { state:=.ready,pending:=none,fn:=fn0,tmps:=a.tmps,params:=ps,assign:=assign,body:=body,defers:=w.heap.size })
      simpa using this
    refine callsIn_wide.2 ((h fn0 w.heap.size (w.heap.size+1) _ (Nat.le_refl _) (by omega) (by omega) hD hl (((aq.refl [] w).alloc _).alloc _)).mono ?_)
    rintro e w₃ ⟨v,r',rfl,h3,h4,h5,h6⟩
    refine⟨_,_,run_endLoop h3 h4,?_⟩
    rw[h5]
    exact h6 _ (e8 _)
theorem kv{P:Program}{f:FuncId}{fn:Func}{c:Code}{args:Array Value}{w:World}{R:Ending→World→Prop}(hf:P.funcs[f]? = some fn)(hb:fn.body=some c)
    (h:c.wp P (bodyPostM Fence.wide 9 P fn R) { tmps:=args++Array.replicate (fn.ntmps-args.size) undef,defers:=[] } w) : Calls P f args w R :=
  callsIn_wide.1 (callsIn_of_wp_marks hf hb trivial (wpIn_wide.2 h) rfl)
theorem sa{P:Program}{fn:Func}{R:Ending→World→Prop}{a:Act}{w:World}{D:Nat}(hd:a.defers=[{ target:=.collected D,args:=#[] }])(hD:w.heap[D]? = some (.deferred (some [])))
    (h:∀ w',aq [D] w w'→∃ v,(results fn a.tmps).run P w' = .ok v w'∧R (.returned v) w') : bodyPostM Fence.wide 9 P fn R .ret a w:=by
  show LeavesInM Fence.wide 9 P fn a.tmps R a.defers .returning w
  rw[hd]
  exact⟨by simp,.inl ⟨D,_,rfl,run_takeDeferred hD,h _ (e8 _)⟩⟩
theorem rN{P:Program}{fn:Func}{R:Ending→World→Prop}{a:Act}{w:World}(hd:a.defers=[])(h:∃ v,(results fn a.tmps).run P w = .ok v w∧R (.returned v) w) : bodyPostM Fence.wide 9 P fn R .ret a w:=by
  show LeavesInM Fence.wide 9 P fn a.tmps R a.defers .returning w
  rw[hd]
  exact h
open Go.RowKit
structure GF (E:Fence) (m:Nat) (P:Program) (ops:Array Oper) (Q:Exit→Act→World→Prop) (l:List Oper) (n:Nat) (D:List Deferred) (F:Fr) (w:World) : Prop where
  out:∀ a,Ag n D F a→WF E m P ops Q l a w
structure GI (E:Fence) (m:Nat) (P:Program) (c:Code) (Q:Exit→Act→World→Prop) (n:Nat) (D:List Deferred) (F:Fr) (w:World) : Prop where
  out:∀ a,Ag n D F a→c.wpIn E m P Q a w
section
variable {E:Fence}{m:Nat}{P:Program}{Q:Exit→Act→World→Prop}{n:Nat}{D:List Deferred}{F:Fr}{w:World}{ops:Array Oper}{rest l:List Oper}{d:Option Tmp}{op:Op}{t:TypeId}{s:String}{af:Array Edge}{gu:Option (Nat × Bool)}{x y c:Code}{id:Nat}
theorem uq(m:Nat)(h:GF Fence.wide m P l.toArray Q l n D F w) : GC P (.region id l.toArray false) Q n D F w:=⟨fun a ha=>vU m (h.out a ha)⟩
theorem tf(h:GF E m P l.toArray Q l n D F w) : GI E m P (.region id l.toArray false) Q n D F w:=⟨fun a ha=>vg (h.out a ha)⟩
theorem uQ(h:GI E m P c (Exit.inBlock id Q) n D F w) : GI E m P (.block id c) Q n D F w:=⟨fun a ha=>wpIn_block (h.out a ha)⟩
theorem ou(h:GQ Q .normal n D F w) : GF E m P ops Q [] n D F w:=⟨fun a ha=>uG (h.out a ha)⟩
theorem vm(hE:cZ E)(h:OG P ⟨d,op,t,s,af,gu⟩ n D F w (GF E m P ops Q rest n D) Q)(hw:gQ ops F gu=(true,true))(hd:dM op=true) : GF E m P ops Q (⟨d,op,t,s,af,gu⟩ :: rest) n D F w :=
  ⟨fun a ha=>vv hE hd (dH ha hw) (h.out a ha _ fun F' w' a' k ha'=>k.out a' ha')⟩
theorem vl(hE:cZ E){o:Oper}(h:GF E m P ops Q rest n D (l3 P ops w F o) w)(hc:rS P ops w n 1 (o :: rest) F=rP P ops w 1 (o :: rest) F)(hd:dM o.op=true) : GF E m P ops Q (o :: rest) n D F w:=by
  simp only[rS,rP,List.cons.injEq,Prod.mk.injEq,Bool.and_eq_true] at hc
  obtain⟨⟨⟨h1,h2,h3⟩,h4⟩,h5⟩:=hc
  refine⟨fun a ha=>?_⟩
  cases hon:(gQ ops F o.guard).2 with
  | true =>
    rw[hon] at h3 h4
    simp only[cond_true] at h3 h4
    have hst:l3 P ops w F o=pt o.dst (vo P w F o) F:=by simp[l3,hon]
    rw[hst] at h
    exact vv hE hd (dH ha (Prod.ext h1 hon)) (dG (N:=o.dst) (vo P w F o) rfl (by rw[← eO ha h3];exact h4) (h.out _ (ha.put h2)))
  | false =>
    have hst:l3 P ops w F o=pt o.dst undef F:=by simp[l3,hon]
    rw[hst] at h
    exact uR (N:=o.dst) hE (dH ha (Prod.ext h1 hon)) rfl (h.out _ (ha.put h2))
theorem F0(h:OG P ⟨d,op,t,s,af,gu⟩ n D F w (GF Fence.wide m P ops Q rest n D) Q)(hw:gQ ops F gu=(true,true):=by kernel_rfl)(hd:dM op=true:=by kernel_rfl) : GF Fence.wide m P ops Q (⟨d,op,t,s,af,gu⟩ :: rest) n D F w:=vm i3 h hw hd
theorem ig{q:Nat}(h:OG P ⟨d,op,t,s,af,gu⟩ n D F w (GF (Fence.wide.inRound q) m P ops Q rest n D) Q)(hw:gQ ops F gu=(true,true):=by kernel_rfl)(hd:dM op=true:=by kernel_rfl) : GF (Fence.wide.inRound q) m P ops Q (⟨d,op,t,s,af,gu⟩ :: rest) n D F w:=vm (ga _) h hw hd
theorem Fp{o:Oper}(h:GF Fence.wide m P ops Q rest n D (l3 P ops w F o) w)(hc:rS P ops w n 1 (o :: rest) F=rP P ops w 1 (o :: rest) F:=by kernel_rfl)(hd:dM o.op=true:=by kernel_rfl) : GF Fence.wide m P ops Q (o :: rest) n D F w:=vl i3 h hc hd
theorem tc{q:Nat}{o:Oper}(h:GF (Fence.wide.inRound q) m P ops Q rest n D (l3 P ops w F o) w)(hc:rS P ops w n 1 (o :: rest) F=rP P ops w 1 (o :: rest) F:=by kernel_rfl)(hd:dM o.op=true:=by kernel_rfl) : GF (Fence.wide.inRound q) m P ops Q (o :: rest) n D F w:=vl (ga _) h hc hd
theorem uT(j:Nat)(e:Bool)(ht:e=true→GF E m P ops Q l n D ((j,.bool true) :: F) w)(hf:e=false→GF E m P ops Q l n D ((j,.bool false) :: F) w)(hv:lk F j=some (.bool e):=by kernel_rfl) : GF E m P ops Q l n D F w:=by
  refine⟨fun a ha=>?_⟩
  have key:∀ b,e=b→Ag n D ((j,.bool b) :: F) a:=fun b hb=>⟨ha.sz,ha.df,fun i v hi=>by
    rcases e4 hi with⟨rfl,rfl⟩|⟨_,h2⟩
    · rw[← hb];exact ha.at_ _ _ hv
    · exact ha.at_ _ _ h2⟩
  rcases dT e with q|q
  · exact(ht q).out a (key _ q)
  · exact(hf q).out a (key _ q)
theorem Fy{x:Operand}{opds:Array Operand}{ts:Array TypeId}{q:Nat}{r:Loop}(v:Value)(p:Tmp)(hl:w.heap[q]? = some (.loop r))(hp:r.params = #[p])
    (h:RoundIn Fence.wide (m-1) P q r.fn (r.tmps.setIfInBounds p v) r.assign r.body w (fun e w'=>∃ u,e = .returned u∧GF Fence.wide m P ops Q rest n D (pt d u F) w'))
    (hw:gQ ops F gu=(true,true):=by kernel_rfl) (hx:cU F x=some (.func (.yield q) #[] #[]):=by kernel_rfl) (ha:opds.toList.map (cU F)=[some v]:=by kernel_rfl) (hd:dq n d=true:=by kernel_rfl) :
    GF Fence.wide m P ops Q (⟨d,.call { callee:=.value x,args:=opds,argTypes:=ts },t,s,af,gu⟩ :: rest) n D F w :=
  ⟨fun a hag=>qg v p (dH hag hw) rfl rfl (hag.ev hx) (by apply Array.toList_inj.1;rw[Array.toList_map];exact gn (vs:=[v]) hag ha) hl hp (h.mono fun e w' hh=>by
    obtain⟨u,rfl,hk⟩:=hh
    exact⟨u,rfl,hk.out _ (hag.put hd)⟩)⟩
theorem l5{g:Operand}{ps:Array Tmp}{assign body:Code}{f:FuncId}(cap:Array Value)
    (h:∀ a,Ag n D F a→∀ fn0 D' q w₂,w.heap.size≤D'→w.heap.size≤q→D'≠q→w₂.heap[D']? = some (.deferred (some []))→w₂.heap[q]? = some (.loop { state:=.ready,pending:=none,fn:=fn0,tmps:=a.tmps,params:=ps,assign:=assign,body:=body,defers:=D' })→aq [] w w₂ →
      Calls P f (#[.func (.yield q) #[] #[]]++cap) w₂ (fun e w₃=>∃ v r',e = .returned v∧w₃.heap[q]? = some (.loop r')∧r'.state≠.busy∧r'.pending=none∧∀ w₄,aq [q] w₃ w₄→GQ Q .normal n ({ target:=.collected D',args:=#[] } :: D) F w₄))
    (hx:cU F g=some (.func (.func f) #[] cap):=by kernel_rfl) (hf:td P f=some (false,true):=by kernel_rfl) : GC P (.rangeFunc g ps assign body) Q n D F w:=by
  obtain⟨fn,h1,h2,h3⟩:=fz hf
  refine⟨fun a ha=>pj cap (ha.ev hx) h1 h2 h3 fun fn0 D' q w₂ g1 g2 g3 g4 g5 g6=>(h a ha fn0 D' q w₂ g1 g2 g3 g4 g5 g6).mono fun e w₃ hh=>?_⟩
  obtain⟨v,r',k1,k2,k3,k4,k5⟩:=hh
  exact⟨v,r',k1,k2,k3,k4,fun w₄ hu=>(k5 w₄ hu).out _ ⟨ha.sz,by rw[ha.df],ha.at_⟩⟩
theorem uD{a:Act}(ha:Ag n D F a)(p:Tmp){v:Value}(h:GI E m P c Q n [] ((p,v) :: F) w)(hp:Nat.blt p n=true:=by kernel_rfl) : c.wpIn E m P Q { tmps:=a.tmps.setIfInBounds p v,defers:=[] } w:=by
  have h0:Ag n [] F { tmps:=a.tmps,defers:=[] }:=⟨ha.sz,rfl,ha.at_⟩
  exact h.out _ (h0.put (d:=some p) hp)
theorem uw{r:Loop}{q:Nat}{c:Code}{Qb:Exit→Act→World→Prop}(h1:w.heap[q]? = some (.loop r))(h2:r.state = .ready)(h:∀ w₂,w₂.heap[q]? = some (.loop { r with state:=.busy })→aq [q] w w₂→GI E m P c Qb n D F w₂) :
    GQ (Exit.then (fun a₁ w₁=>w₁.heap[q]? = some (.loop r)∧r.state = .ready∧∀ w₂,w₂.heap[q]? = some (.loop { r with state:=.busy })→aq [q] w₁ w₂→c.wpIn E m P Qb a₁ w₂) Q) .normal n D F w:=⟨fun a ha=>⟨h1,h2,fun w₂ k1 k2=>(h w₂ k1 k2).out a ha⟩⟩
theorem uo{r:Loop}{q:Nat}{Z:World→Prop}(h1:w.heap[q]? = some (.loop r))(h:∀ w₄,w₄.heap[q]? = some (.loop { r with state:=.ready,pending:=none })→aq [q] w w₄→Z w₄) :
    GQ (Exit.then (fun _ w₃=>∃ r',w₃.heap[q]? = some (.loop r')∧∀ w₄,w₄.heap[q]? = some (.loop { r' with state:=.ready,pending:=none })→aq [q] w₃ w₄→Z w₄) Q) .normal n D F w:=⟨fun a ha=>⟨r,h1,h⟩⟩
end
section
variable {P:Program}{n:Nat}{F:Fr}{w:World}{fn:Func}{R:Ending→World→Prop}
theorem t9{f:FuncId}{c:Code}{args:List Value}{w:World}(n:Nat)(hf:P.funcs[f]? = some fn)(hb:fn.body=some c)
    (h:GC P c (bodyPostM Fence.wide 9 P fn R) n [] (oE 0 args) w) (hn:args.length+(fn.ntmps-args.length)=n:=by kernel_rfl) : Calls P f args.toArray w R:=by
  subst hn
  exact kv hf hb (by simpa using h.out _ (vj (args:=args) (m:=fn.ntmps-args.length)))
theorem ta{D:Nat}(hD:w.heap[D]? = some (.deferred (some [])))(h:∀ w',aq [D] w w'→GQ (fun _ a w'=>∃ v,(results fn a.tmps).run P w' = .ok v w'∧R (.returned v) w') .ret n [{ target:=.collected D,args:=#[] }] F w') : GQ (bodyPostM Fence.wide 9 P fn R) .ret n [{ target:=.collected D,args:=#[] }] F w :=
  ⟨fun a ha=>sa ha.df hD fun w' hu=>(h w' hu).out a ha⟩
theorem rx{D:List Deferred}{g:Nat}{cs:Array Value}{t:TypeId}{fr:Nat × Nat}(B:w.heap[g]? = some (.cells cs t fr))(u:Value)(h:R (.returned (.tuple #[.agg cs,u])) w)(hc:tg P fn.results F=some (some (.pointer (some ⟨g,0,none⟩)),some u,some true,some cs.size):=by kernel_rfl) : GQ (fun _ a w'=>∃ v,(results fn a.tmps).run P w' = .ok v w'∧R (.returned v) w') .ret n D F w :=
  ⟨fun a ha=>⟨_,gv ha B rfl hc,h⟩⟩
theorem ry{g:Nat}{cs:Array Value}{t:TypeId}{fr:Nat × Nat}(B:w.heap[g]? = some (.cells cs t fr))(u:Value)(h:R (.returned (.tuple #[.agg cs,u])) w)(hc:tg P fn.results F=some (some (.pointer (some ⟨g,0,none⟩)),some u,some true,some cs.size):=by kernel_rfl) : GQ (bodyPostM Fence.wide 9 P fn R) .ret n [] F w :=
  ⟨fun a ha=>rN ha.df ⟨_,gv ha B rfl hc,h⟩⟩
end
open Go.RowKit
def t5 (mk:Nat→Value)(w:World)(e:Ending)(w':World) : Prop:=∃ gs,e = .returned (.tuple #[mk gs,.bool true])∧w.heap.size≤gs∧w'.heap[gs]? = some (.cells #[.int .i64 0] 3 (0,0))∧aq [] w w'
def v7 (gs:Nat) : Value:=.agg #[.func (.func 126) #[] #[],.func (.func 124) #[] #[.pointer (some ⟨gs,0,none⟩)]]
def un (gs:Nat) : Value:=.agg #[.func (.func 127) #[] #[],.func (.func 128) #[] #[]]
def uN (gs:Nat) : Value:=.agg #[.func (.func 129) #[] #[],.func (.func 130) #[] #[]]
theorem qj{w:World}:Calls Tryz.prog 91 #[.int .i64 0,.int .u8 20] w (t5 v7 w):=by
 refine en 27 Tryz.func91 rfl<|sg<|L0<|bz #[.nilFunc,.nilFunc] fun m n g b c=>Pl 1<|ng<|L0<|bz #[.int .i64 0] fun d o a h i=>L0<|bO h 0 #[.int .i64 0] fun p j k=>nt<|sq<|?_
 refine go<|Pl 2<|nt<|sq<|bk<|sg<|Pl 7<|nt<|c1<|sg<|?_
 refine Pl 2<|?_
 have e:=ud i k a
 refine L0<|b6 (ub e b) #[.func (.func 126) #[] #[],.func (.func 124) #[] #[.pointer (some ⟨d,0,none⟩)]] fun q l f=>Pl 1<|nt<|rt<|br<|tr<|c7 l (.bool true)<|?_
 exact⟨d,rfl,(Nat.le_trans c.size a),(aO f (Ne.symm (nb (aj b) lr a)) j),(ud c (uz e f) g)⟩
theorem ro{w:World}:Calls Tryz.prog 91 #[.int .i64 1,.int .u8 20] w (t5 un w):=by
 refine en 27 Tryz.func91 rfl<|sg<|L0<|bz #[.nilFunc,.nilFunc] fun m n f b c=>Pl 1<|ng<|L0<|bz #[.int .i64 0] fun g o a h i=>L0<|bO h 0 #[.int .i64 0] fun p j k=>nt<|sq<|?_
 refine go<|Pl 2<|nt<|sq<|bk<|sg<|Pl 7<|nt<|c0<|sg<|?_
 refine Pl 3<|nt<|c1<|sg<|Pl 1<|?_
 have d:=ud i k a
 refine L0<|b6 (ub d b) #[.func (.func 127) #[] #[],.func (.func 128) #[] #[]] fun q l e=>Pl 1<|nt<|rt<|br<|tr<|c7 l (.bool true)<|?_
 exact⟨g,rfl,(Nat.le_trans c.size a),(aO e (Ne.symm (nb (aj b) lr a)) j),(ud c (uz d e) f)⟩
theorem qs{dir:Int}{w:World}:Calls Tryz.prog 91 #[.int .i64 dir,.int .u8 21] w (t5 uN w):=by
 refine en 27 Tryz.func91 rfl<|sg<|L0<|bz #[.nilFunc,.nilFunc] fun m n f b c=>Pl 1<|ng<|L0<|bz #[.int .i64 0] fun g o a h i=>L0<|bO h 0 #[.int .i64 0] fun p j k=>nt<|sq<|?_
 refine go<|Pl 2<|nt<|sq<|bk<|sg<|Pl 7<|nt<|c0<|sg<|?_
 refine Pl 3<|nt<|c0<|sg<|Pl 3<|nt<|c1<|sg<|Pl 1<|?_
 have d:=ud i k a
 refine L0<|b6 (ub d b) #[.func (.func 129) #[] #[],.func (.func 130) #[] #[]] fun q l e=>Pl 1<|nt<|rt<|br<|tr<|c7 l (.bool true)<|?_
 exact⟨g,rfl,(Nat.le_trans c.size a),(aO e (Ne.symm (nb (aj b) lr a)) j),(ud c (uz d e) f)⟩
theorem jZ{dir x:Int}{w:World}(n1:(x==20)=false)(n2:(x==21)=false) : Calls Tryz.prog 91 #[.int .i64 dir,.int .u8 x] w (bg (.tuple #[.agg #[.nilFunc,.nilFunc],.bool false]) w):=by
 refine en 27 Tryz.func91 rfl<|sg<|L0<|bz #[.nilFunc,.nilFunc] fun k l b c d=>Pl 1<|ng<|L0<|bz #[.int .i64 0] fun m n e f g=>L0<|bO f 0 #[.int .i64 0] fun o p h=>nt<|sq<|?_
 refine go<|Pl 2<|nt<|sq<|bk<|sg<|Pl 3<|sy 12 n1<|Pl 4<|nt<|c0<|?_
 refine sg<|Pl 3<|nt<|cf n1<|sg<|Pl 3<|nt<|cf n2<|sk<|bn<|?_
 refine tn<|sg<|Pl 1<|?_
 have a:=ud g h e
 refine L0<|b6 (ub a c) #[.nilFunc,.nilFunc] fun q i j=>Pl 1<|nt<|rt<|c7 i (.bool false)<|?_
 exact⟨rfl,(ud d (uz a j) b)⟩
theorem gS{gb:Nat}{f:Fn}{x y:Array Value}{w:World}:Calls Tryz.prog 95 #[.pointer (some ⟨gb,0,none⟩),.func f x y] w (fun e w'=>∃ b1 b2,e = .returned (.func (.func 131) #[] #[.pointer (some ⟨b1,0,none⟩),.pointer (some ⟨b2,0,none⟩)])∧w.heap.size≤b1∧w.heap.size≤b2∧b1≠b2 ∧
      w'.heap[b1]? = some (.cells #[.pointer (some ⟨gb,0,none⟩)] 143 (0,0))∧w'.heap[b2]? = some (.cells #[.func f x y] 158 (0,0))∧aq [] w w'):=by
 refine en 6 Tryz.func95 rfl<|sg<|L0<|cP #[.pointer (some ⟨gb,0,none⟩)] fun a k i b c=>L0<|cP #[.func f x y] fun d l g j h=>Pl 1<|ng<|Pl 2<|nt<|rt<|?_
 refine rr (.func (.func 131) #[] #[.pointer (some ⟨a,0,none⟩),.pointer (some ⟨d,0,none⟩)])<|?_
 exact⟨a,d,rfl,i,(Nat.le_trans c.size g),(nb (aj b) lr g),(ub h b),j,(aE c h)⟩
theorem nV{g gs:Nat}{s:Int}{C:ak}{w:World}(hC:ae w g C)(hS:w.heap[gs]? = some (.cells #[.int .i64 s] 3 (0,0)))(hne:g≠gs)(hs:0≤s∧s≤1000000000000) :
    Calls Tryz.prog 124 #[.pointer (some ⟨g,0,none⟩),.pointer (some ⟨gs,0,none⟩)] w (fun e w'=>∃ A c,e = .returned (.agg #[.int .u16 (b7 C).file,.int .u16 (b7 C).record,.int .u16 (b7 C).count,.slice A (b7 C).words.length c])∧dr true w' (.slice A (b7 C).words.length c) (b7 C).words∧dj (b7 C).file∧dj (b7 C).record∧dj (b7 C).count∧ae w' g (ee s C)∧w'.heap[gs]? = some (.cells #[.int .i64 (f5 s C)] 3 (0,0))∧aq [g,gs] w w'):=by
 refine en 19 Tryz.func124 rfl<|sg<|L0<|bz #[.int .u16 0,.int .u16 0,.int .u16 0,.slice none 0 0] fun S T b j d=>ng<|Pl 1<|?_
 refine L0<|Oc<|t0 (kc (ae.old hC d)) fun k l U H I J K m f=>?_
 obtain⟨V,W⟩:=I
 obtain⟨X,Y⟩:=J
 obtain⟨Z,a0⟩:=K
 refine L0<|bz #[.int .u16 0,.int .u16 0,.int .u16 0,.slice none 0 0] fun a1 a2 h L M=>L0<|b6 L #[.int .u16 ((b7 C).file),.int .u16 ((b7 C).record),.int .u16 ((b7 C).count),.slice k ((b7 C).words.length) l] fun a3 n N=>ng<|?_
 have o:=ud M N h
 have p:=aE f o
 have q:=aO (uz d p) (Ne.symm hne) hS
 refine L0<|aR q 0<|Pl 1<|L0<|aR n 2<|L0<|Oi ((b7 C).count)<|L0<|Oi (2*((b7 C).count))<|L0<|Oi (2+(2*((b7 C).count)))<|L0<|Oi (s+(2+(2*((b7 C).count))))<|L0<|bO q 0 #[.int .i64 (s+(2+(2*((b7 C).count))))] fun a4 r t=>ng<|Pl 1<|L0<|aR r 0<|?_
 refine Pl 1<|?_
 have u:=uz o t
 have a:=uz d f
 have v:=aO a (Ne.symm hne) hS
 refine L0<|Oc<|m2 (aK ((decide ((s+(2+(2*((b7 C).count))))≤245))) 5 (ae.upd m u (aa hne ay) (ah (aD v (by decide)) az))) fun a5 O y=>?_
 refine ab O fun x47 P Q=>?_
 refine ng<|?_
 have z:=us t y
 refine L0<|c5 (aq.blk z (aa (Ne.symm (nb (aj hS) a.size h)) (aa (Ne.symm (nb (ae.lt hC) a.size h)) ay)) n)<|?_
 have i:=nb (ae.lt hC) lr b
 have B:=nb (aj hS) lr b
 have D:=aq.blk (ui p z) (aa (Ne.symm B) (aa (Ne.symm i) ay)) j
 refine L0<|b6 D #[.int .u16 ((b7 C).file),.int .u16 ((b7 C).record),.int .u16 ((b7 C).count),.slice k ((b7 C).words.length) l] fun a6 R E=>nt<|rt<|t6 R<|?_
 subst P
 have F:=us y E
 have G:=us u F
 exact⟨_,_,rfl,(dr.upd' H G (ah (aD v (by decide)) (ah (ae.safe m _ (by decide)) (ah (aD (aO f (Ne.symm i) j) (by decide)) az)))),aB (x:=(b7 C).file) (by omega),aB (x:=(b7 C).record) (by omega),aB (x:=(b7 C).count) (by omega),(ae.upd Q E (aa i ay) (ah (aD D (by decide)) az)),(aq.blk F (aa (Ne.symm hne) (aa B ay)) r),(ut (aq.mono (S':=[g,gs]) a (ac im av)) G (ac im (ac im (ac (nr b) av))))⟩
def dO (c:Int)(v:Value) : Array Value:=#[.int .u8 c,.int .u8 0,.int .u16 0,.int .u16 0,.int .u16 0,.int .u16 0,.int .u16 0,.int .u16 0,.int .u16 0,.int .u16 0,.int .u16 0,.int .u16 0,ey,ey,ey,v,.int .u8 0,.int .u8 0,.int .u8 0,.int .u8 0,.int .u8 0,ey]
structure JR (w0:World) (gb gs gm l:Nat) (c:Int) (r:Loop) (C:ak) (s:Int) (L:List dJ) (A:Option Addr) (cp:Nat) (W:World) : Prop where
  u:aq [gb,gs,gm,l] w0 W
  hC:ae W gb C
  hS:W.heap[gs]? = some (.cells #[.int .i64 s] 3 (0,0))
  hm:W.heap[gm]? = some (.cells (dO c (.slice A L.length cp)) 31 (0,0))
  ho:aN w0.heap.size 83 4 (bj true) W (.slice A L.length cp) L
  hl:W.heap[l]? = some (.loop r)
def dt (s:Int)(C:ak) : Int × ak × dJ:=(f5 s C,ee s C,b7 C)
def cw (s:Int)(C:ak) : Int × ak × dJ:=(s,eZ C,el C)
def dx (s:Int)(C:ak) : Int × ak × dJ:=(s,ie C,gj C)
def aW (one:Int→ak→Int × ak × dJ) : Nat→Int→ak→List dJ→ak × List dJ
  | 0,_,C,L=>(C,L)
  | n+1,s,C,L =>
    if decide (0<(C.l.length:Int))&&C.e==0 then
      (if (one s C).2.1.e != 0 then ((one s C).2.1,L) else aW one n (one s C).1 (one s C).2.1 (L++[(one s C).2.2]))
    else (C,L)
theorem gW(C:ak)(n:Int) : (C.bytesC n).l.length≤C.l.length:=by
  unfold ak.bytesC
  split
  · unfold ak.need
    split<;>simp
  · simp
theorem gX(C:ak)(h:0<C.l.length) : (C.bytesC 1).l.length<C.l.length:=by
  unfold ak.bytesC
  split
  · unfold ak.need
    split<;>simpa using h
  · simp
    omega
theorem dc(C:ak)(b:Bool)(e:Int) : (C.need b e).l.length=C.l.length:=by
  unfold ak.need
  split<;>rfl
theorem dF(C:ak)(n:Int) : (C.wordsC n).l.length≤C.l.length:=by
  unfold ak.wordsC
  split<;>exact gW ..
theorem jS(C:ak)(h:0<C.l.length) : (fE C).l.length<C.l.length:=by
  have h1:(sj C).l.length<C.l.length:=by unfold sj;rw[dc];exact gX C h
  have h2:(q9 C).l.length≤(sj C).l.length:=by unfold q9;rw[dc];exact dF ..
  have h3:(q5 C).l.length≤(q9 C).l.length:=by unfold q5;rw[dc];exact dF ..
  have h4:(fE C).l.length≤(q5 C).l.length:=by unfold fE;rw[dc];exact dF ..
  omega
theorem ru(s:Int)(C:ak)(h:0<C.l.length) : (dt s C).2.1.l.length<C.l.length:=by
  show(ee s C).l.length<_
  unfold ee
  rw[dc]
  exact jS C h
theorem pq(s:Int)(C:ak)(h:0<C.l.length) : (cw s C).2.1.l.length<C.l.length:=by
  show(eZ C).l.length<_
  have h1:(jv C).l.length<C.l.length:=by unfold jv;rw[dc];exact gX C h
  have h2:(kD C).l.length≤(jv C).l.length:=by unfold kD;rw[dc];exact gW ..
  have h3:(eZ C).l.length≤(kD C).l.length:=by unfold eZ;exact dF ..
  omega
theorem qq(s:Int)(C:ak)(h:0<C.l.length) : (dx s C).2.1.l.length<C.l.length:=by
  show(ie C).l.length<_
  have h1:=jS C h
  have h2:(oH C).l.length=(fE C).l.length:=by unfold oH;rw[dc]
  have h3:(ie C).l.length≤(oH C).l.length:=by unfold ie;exact dF ..
  omega
theorem fg(one:Int→ak→Int × ak × dJ)(n:Nat)(s:Int)(C:ak)(L:List dJ)(h:(decide (0<(C.l.length:Int))&&C.e==0)=false) : aW one n s C L=(C,L):=by
  cases n with
  | zero=>rfl
  | succ n=>simp only[aW,h,Bool.false_eq_true,if_false]
open Go.RowKit
def cl (fn0:FuncId)(tm:Array Value)(asg bdy:Code)(D:Nat) : Loop:={ state:=.ready,pending:=none,fn:=fn0,tmps:=tm,params:=#[53],assign:=asg,body:=bdy,defers:=D }
def lC (w:World)(gb gs gm l:Nat)(c:Int)(R:Loop) : Prop:=∀ (W:World)(C:ak)(s:Int)(L:List dJ)(A:Option Addr)(cp:Nat)(x:dJ)(Ax:Option Addr)(cx:Nat),JR w gb gs gm l c R C s L A cp W→dr true W (.slice Ax x.words.length cx) x.words→dj x.file→dj x.record→dj x.count→L.length≤1048576 →
    RoundIn Fence.wide 8 Tryz.prog l R.fn (R.tmps.setIfInBounds 53 (.agg #[.int .u16 x.file,.int .u16 x.record,.int .u16 x.count,.slice Ax x.words.length cx])) R.assign R.body W (fun e W'=>e = .returned (.bool true)∧W.heap.size≤W'.heap.size∧∃ A2 c2,JR w gb gs gm l c R C s (L++[x]) A2 c2 W')
theorem sY{w:World}{gb gs gm l b1 b2 fn0 D:Nat}{tm:Array Value}{asg bdy:Code}{c:Int}{C0:ak}(hC:ae w gb C0)(hS:w.heap[gs]? = some (.cells #[.int .i64 0] 3 (0,0)))(hm:w.heap[gm]? = some (.cells (dO c ey) 31 (0,0)))
    (hl:w.heap[l]? = some (.loop (cl fn0 tm asg bdy D))) (hb1:w.heap[b1]? = some (.cells #[.pointer (some ⟨gb,0,none⟩)] 143 (0,0))) (hb2:w.heap[b2]? = some (.cells #[.func (.func 124) #[] #[.pointer (some ⟨gs,0,none⟩)]] 158 (0,0)))
    (n1:gb≠gs) (n2:gb≠gm) (n3:gb≠l) (n4:gs≠gm) (n5:gs≠l) (n6:gm≠l) (m1:b1≠gb) (m2:b1≠gs) (m3:b1≠gm) (m4:b1≠l) (k1:b2≠gb) (k2:b2≠gs) (k3:b2≠gm) (k4:b2≠l) (hround:lC w gb gs gm l c (cl fn0 tm asg bdy D)) :
    Calls Tryz.prog 131 #[.func (.yield l) #[] #[],.pointer (some ⟨b1,0,none⟩),.pointer (some ⟨b2,0,none⟩)] w (fun e W=>e = .returned (.tuple #[])∧∃ s A cp,JR w gb gs gm l c (cl fn0 tm asg bdy D) (aW dt C0.l.length 0 C0 []).1 s (aW dt C0.l.length 0 C0 []).2 A cp W):=by
 have hlen:=hC.len
 refine en 25 Tryz.func131 rfl<|bk<|?_
 refine g7 (fun x=>[(0,.func (.yield l) #[] #[]),(1,.pointer (some ⟨b1,0,none⟩)),(2,.pointer (some ⟨b2,0,none⟩))]) (fun(x:Nat × ak × Int × List dJ × Option Addr × Nat) w'=>aq [gb,gs,gm,l] w w'∧ae w' gb x.2.1∧w'.heap[gs]? = some (.cells #[.int .i64 x.2.2.1] 3 (0,0))∧w'.heap[gm]? = some (.cells (dO c (.slice x.2.2.2.2.1 x.2.2.2.1.length x.2.2.2.2.2)) 31 (0,0))∧w'.heap[l]? = some (.loop (cl fn0 tm asg bdy D))∧aN w.heap.size 83 4 (bj true) w' (.slice x.2.2.2.2.1 x.2.2.2.1.length x.2.2.2.2.2) x.2.2.2.1∧(aW dt x.1 x.2.2.1 x.2.1 x.2.2.2.1=aW dt C0.l.length 0 C0 [])∧(x.2.1.l.length≤x.1)∧(0≤x.2.2.1∧x.2.2.1≤131074*(x.2.2.2.1.length:Int))∧(x.2.2.2.1.length+x.1≤C0.l.length)) (fun x=>x.1) (C0.l.length,C0,0,[],none,0) ⟨aq.refl _ _,hC,hS,hm,hl,aN.nil ..,rfl,(Nat.le_refl _),(by(try dsimp only);omega),(by(try dsimp only);(try simp only[List.length_nil]);omega)⟩ ?_
 rintro⟨n,C,s,L,A,cp⟩ h ⟨m,J,M,N,O,P,Q,R,S,T⟩
 refine fZ [(0,.func (.yield l) #[] #[]),(1,.pointer (some ⟨b1,0,none⟩)),(2,.pointer (some ⟨b2,0,none⟩))] ?_
 have b:ae h gb C:=J
 have o:h.heap[gs]? = some (.cells #[.int .i64 s] 3 (0,0)):=M
 have t:h.heap[gm]? = some (.cells (dO c (.slice A L.length cp)) 31 (0,0)):=N
 have v:h.heap[l]? = some (.loop (cl fn0 tm asg bdy D)):=O
 have d:aN w.heap.size 83 4 (bj true) h (.slice A L.length cp) L:=P
 have af:aW dt n s C L=aW dt C0.l.length 0 C0 []:=Q
 have ai:C.l.length≤n:=R
 have al:0≤s∧s≤131074*(L.length:Int):=S
 have an:L.length+n≤C0.l.length:=T
 have hrec:aW dt n s C L=aW dt C0.l.length 0 C0 []:=by assumption
 refine sq<|sg<|?_
 have p:=aq.blk m (aa m1 (aa m2 (aa m3 (aa m4 ay)))) hb1
 refine L0<|aR p 0<|L0<|Oc<|mq (cv b)<|?_
 have ao:=ae.len b
 refine Pl 2<|cu 4 [8] 12 (((decide (0<((C.l.length:Nat) : Int)))&&(C.e==0))) (fun K B=>?_) ?_
 refine bl 8 ((decide (0<((C.l.length:Nat) : Int)))) (fun i=>?_) (fun i=>?_)
 have U:=of_decide_eq_true i
 refine L1<|aR p 0<|L1<|Oc<|mq (aX b)<|?_
 have ar:=ae.len b
 exact Pl 2<|ce B (C.e==0) (by rw[i];rfl)
 have U:=of_decide_eq_false i
 exact Pl 4<|ce B false (by rw[i];rfl)
 refine nt<|cb (((decide (0<((C.l.length:Nat) : Int)))&&(C.e==0))) (fun f=>?_) (fun f=>?_)
 have y:=(bM f).1
 have z:=(bM f).2
 have au:=of_decide_eq_true y
 have aw:=aA z
 refine bD<|bk<|sg<|?_
 refine L0<|aR (aq.blk m (aa k1 (aa k2 (aa k3 (aa k4 ay)))) hb2) 0<|L0<|aR p 0<|L0<|eD #[] #[.pointer (some ⟨gs,0,none⟩)] (args:=#[.pointer (some ⟨gb,0,none⟩),.pointer (some ⟨gs,0,none⟩)])<|w6 (nV (s:=s) b o n1 (by omega)) fun E F aC V X Y Z a0 G a1=>?_
 have aF:f5 s C=s+(2+2*(b7 C).count):=rfl
 obtain⟨aG,aH⟩:=X
 obtain⟨aI,aJ⟩:=Y
 obtain⟨aK,aL⟩:=Z
 refine L0<|bz #[.int .u16 0,.int .u16 0,.int .u16 0,.slice none 0 0] fun aM aO a2 a3 a4=>L0<|b6 a3 #[.int .u16 ((b7 C).file),.int .u16 ((b7 C).record),.int .u16 ((b7 C).count),.slice E ((b7 C).words.length) F] fun a5 a6 a7=>nt<|sq<|uq 9<|?_
 have j:=ud a4 a7 a2
 have a:=aE a1 j
 refine F0<|aR (aq.blk a (aa m1 (aa m2 ay)) p) 0<|?_
 have q:=ae.old a0 j
 refine F0<|Oc<|mq (aX q)<|?_
 have aP:=ae.len q
 refine Fp<|Fp<|?_
 have H:=ut m a (ac im (ac im av))
 refine uT 19 ((((ee s C).e)!=0)) (fun k=>?_) (fun k=>?_)
 have a8:=ax k
 refine Fp<|Fp<|Fp<|Fp<|Fp<|ou<|tn<|c1<|rt<|br<|tr<|br<|rr (.tuple #[])<|?_
 have hfin:aW dt C0.l.length 0 C0 []=((ee s C),L):=by
   rw[← hrec]
   rw[show n=(n-1)+1 from by omega]
   simp only[aW,dt,f,y,z,k,bs,if_true,if_false,decide_true,decide_false,reduceIte]
 refine⟨rfl,(f5 s C),A,cp,?_⟩
 rw[hfin]
 exact⟨H,q,(ub j G),(aq.blk a (aa (Ne.symm n2) (aa (Ne.symm n4) ay)) t),(am d a (fun x hx=>(aa (fun e=>(ap (ae.lt hC) lr d) (e▸hx)) (aa (fun e=>(ap (aj hS) lr d) (e▸hx)) ay))) (bj.upd16 a (ah (ae.safe b _ (by decide)) (ah (aD o (by decide)) az)))),(aq.blk a (aa (Ne.symm n3) (aa (Ne.symm n5) ay)) v)⟩
 have a8:=ag k
 refine Fp<|F0<|c5 a6<|?_
 have I:=aq.blk a (aa (Ne.symm n3) (aa (Ne.symm n5) ay)) v
 have a9:JR w gb gs gm l c (cl fn0 tm asg bdy D) (ee s C) (f5 s C) L A cp a5:=⟨H,q,(ub j G),(aq.blk a (aa (Ne.symm n2) (aa (Ne.symm n4) ay)) t),(am d a (fun x hx=>(aa (fun e=>(ap (ae.lt hC) lr d) (e▸hx)) (aa (fun e=>(ap (aj hS) lr d) (e▸hx)) ay))) (bj.upd16 a (ah (ae.safe b _ (by decide)) (ah (aD o (by decide)) az)))),I⟩
 refine Fy (r:=cl fn0 tm asg bdy D) (.agg #[.int .u16 ((b7 C).file),.int .u16 ((b7 C).record),.int .u16 ((b7 C).count),.slice E ((b7 C).words.length) F]) 53 I rfl<|?_
 refine RoundIn.mono (hround _ _ _ _ _ _ (b7 C) _ _ a9 (dr.upd' V j az) (aB (by omega)) (aB (by omega)) (aB (by omega)) (by omega)) ?_
 rintro _ aQ ⟨rfl,aS,ab,ad,g⟩
 refine⟨_,rfl,?_⟩
 exact Fp<|Fp<|ou<|tn<|c0<|sk<|bn<|dY ((n-1),(ee s C),(f5 s C),(L++[(b7 C)]),ab,ad) ⟨g.u,g.hC,g.hS,g.hm,g.hl,g.ho,(by(try dsimp only);rw[← hrec,show n=(n-1)+1 from by omega];simp only[aW,dt,f,y,z,k,bs,if_true,if_false,decide_true,decide_false,Nat.add_sub_cancel,reduceIte]),(by(try dsimp only);have hd:=ru s C (by omega);have q9:(dt s C).2.1.l.length=(ee s C).l.length:=rfl;omega),(by(try dsimp only);simp only[List.length_append,List.length_cons,List.length_nil];omega),(by(try dsimp only);simp only[List.length_append,List.length_cons,List.length_nil];omega)⟩ (by omega)
 refine xt<|tx<|tx<|bx<|rm (.tuple #[])<|?_
 have hfin:aW dt C0.l.length 0 C0 []=(C,L):=by
   rw[← hrec]
   exact fg _ _ _ _ _ (by simp only[f,bs,if_true,if_false,decide_true,decide_false])
 refine⟨rfl,s,A,cp,?_⟩
 rw[hfin]
 exact⟨m,b,o,t,d,v⟩
theorem sT{w:World}{gb gs gm l b1 b2 fn0 D:Nat}{tm:Array Value}{asg bdy:Code}{c:Int}{C0:ak}(hC:ae w gb C0)(hS:w.heap[gs]? = some (.cells #[.int .i64 0] 3 (0,0)))(hm:w.heap[gm]? = some (.cells (dO c ey) 31 (0,0)))
    (hl:w.heap[l]? = some (.loop (cl fn0 tm asg bdy D))) (hb1:w.heap[b1]? = some (.cells #[.pointer (some ⟨gb,0,none⟩)] 143 (0,0))) (hb2:w.heap[b2]? = some (.cells #[.func (.func 128) #[] #[]] 158 (0,0)))
    (n1:gb≠gs) (n2:gb≠gm) (n3:gb≠l) (n4:gs≠gm) (n5:gs≠l) (n6:gm≠l) (m1:b1≠gb) (m2:b1≠gs) (m3:b1≠gm) (m4:b1≠l) (k1:b2≠gb) (k2:b2≠gs) (k3:b2≠gm) (k4:b2≠l) (hround:lC w gb gs gm l c (cl fn0 tm asg bdy D)) :
    Calls Tryz.prog 131 #[.func (.yield l) #[] #[],.pointer (some ⟨b1,0,none⟩),.pointer (some ⟨b2,0,none⟩)] w (fun e W=>e = .returned (.tuple #[])∧∃ s A cp,JR w gb gs gm l c (cl fn0 tm asg bdy D) (aW cw C0.l.length 0 C0 []).1 s (aW cw C0.l.length 0 C0 []).2 A cp W):=by
 have hlen:=hC.len
 refine en 25 Tryz.func131 rfl<|bk<|?_
 refine g7 (fun x=>[(0,.func (.yield l) #[] #[]),(1,.pointer (some ⟨b1,0,none⟩)),(2,.pointer (some ⟨b2,0,none⟩))]) (fun(x:Nat × ak × Int × List dJ × Option Addr × Nat) w'=>aq [gb,gs,gm,l] w w'∧ae w' gb x.2.1∧w'.heap[gs]? = some (.cells #[.int .i64 x.2.2.1] 3 (0,0))∧w'.heap[gm]? = some (.cells (dO c (.slice x.2.2.2.2.1 x.2.2.2.1.length x.2.2.2.2.2)) 31 (0,0))∧w'.heap[l]? = some (.loop (cl fn0 tm asg bdy D))∧aN w.heap.size 83 4 (bj true) w' (.slice x.2.2.2.2.1 x.2.2.2.1.length x.2.2.2.2.2) x.2.2.2.1∧(aW cw x.1 x.2.2.1 x.2.1 x.2.2.2.1=aW cw C0.l.length 0 C0 [])∧(x.2.1.l.length≤x.1)∧(0≤x.2.2.1∧x.2.2.1≤131074*(x.2.2.2.1.length:Int))∧(x.2.2.2.1.length+x.1≤C0.l.length)) (fun x=>x.1) (C0.l.length,C0,0,[],none,0) ⟨aq.refl _ _,hC,hS,hm,hl,aN.nil ..,rfl,(Nat.le_refl _),(by(try dsimp only);omega),(by(try dsimp only);(try simp only[List.length_nil]);omega)⟩ ?_
 rintro⟨n,C,s,L,A,cp⟩ g ⟨k,I,J,M,N,O,P,Q,R,S⟩
 refine fZ [(0,.func (.yield l) #[] #[]),(1,.pointer (some ⟨b1,0,none⟩)),(2,.pointer (some ⟨b2,0,none⟩))] ?_
 have b:ae g gb C:=I
 have p:g.heap[gs]? = some (.cells #[.int .i64 s] 3 (0,0)):=J
 have q:g.heap[gm]? = some (.cells (dO c (.slice A L.length cp)) 31 (0,0)):=M
 have t:g.heap[l]? = some (.loop (cl fn0 tm asg bdy D)):=N
 have h:aN w.heap.size 83 4 (bj true) g (.slice A L.length cp) L:=O
 have ac:aW cw n s C L=aW cw C0.l.length 0 C0 []:=P
 have ad:C.l.length≤n:=Q
 have af:0≤s∧s≤131074*(L.length:Int):=R
 have ai:L.length+n≤C0.l.length:=S
 have hrec:aW cw n s C L=aW cw C0.l.length 0 C0 []:=by assumption
 refine sq<|sg<|?_
 have m:=aq.blk k (aa m1 (aa m2 (aa m3 (aa m4 ay)))) hb1
 refine L0<|aR m 0<|L0<|Oc<|mq (cv b)<|?_
 have aj:=ae.len b
 refine Pl 2<|cu 4 [8] 12 (((decide (0<((C.l.length:Nat) : Int)))&&(C.e==0))) (fun K B=>?_) ?_
 refine bl 8 ((decide (0<((C.l.length:Nat) : Int)))) (fun i=>?_) (fun i=>?_)
 have T:=of_decide_eq_true i
 refine L1<|aR m 0<|L1<|Oc<|mq (aX b)<|?_
 have al:=ae.len b
 exact Pl 2<|ce B (C.e==0) (by rw[i];rfl)
 have T:=of_decide_eq_false i
 exact Pl 4<|ce B false (by rw[i];rfl)
 refine nt<|cb (((decide (0<((C.l.length:Nat) : Int)))&&(C.e==0))) (fun d=>?_) (fun d=>?_)
 have v:=(bM d).1
 have y:=(bM d).2
 have an:=of_decide_eq_true v
 have ao:=aA y
 refine bD<|bk<|sg<|?_
 refine L0<|aR (aq.blk k (aa k1 (aa k2 (aa k3 (aa k4 ay)))) hb2) 0<|L0<|aR m 0<|L0<|eD #[] #[] (args:=#[.pointer (some ⟨gb,0,none⟩)])<|t0 (n8 b) fun E F ar U V X Y Z a0=>?_
 obtain⟨au,av⟩:=V
 obtain⟨aw,aC⟩:=X
 obtain⟨aD,aF⟩:=Y
 refine L0<|bz #[.int .u16 0,.int .u16 0,.int .u16 0,.slice none 0 0] fun aG aH a1 a2 a3=>L0<|b6 a2 #[.int .u16 ((el C).file),.int .u16 ((el C).record),.int .u16 ((el C).count),.slice E ((el C).words.length) F] fun a4 a5 a6=>nt<|sq<|uq 9<|?_
 have z:=ud a3 a6 a1
 have a:=aE a0 z
 refine F0<|aR (aO a m1 m) 0<|?_
 have o:=ae.old Z z
 refine F0<|Oc<|mq (aX o)<|?_
 have aI:=ae.len o
 refine Fp<|Fp<|?_
 have G:=u1 k a im
 refine uT 19 ((((eZ C).e)!=0)) (fun j=>?_) (fun j=>?_)
 have a7:=ax j
 refine Fp<|Fp<|Fp<|Fp<|Fp<|ou<|tn<|c1<|rt<|br<|tr<|br<|rr (.tuple #[])<|?_
 have hfin:aW cw C0.l.length 0 C0 []=((eZ C),L):=by
   rw[← hrec]
   rw[show n=(n-1)+1 from by omega]
   simp only[aW,cw,d,v,y,j,bs,if_true,if_false,decide_true,decide_false,reduceIte]
 refine⟨rfl,s,A,cp,?_⟩
 rw[hfin]
 exact⟨G,o,(aO a (Ne.symm n1) p),(aO a (Ne.symm n2) q),(am h a (fun x hx=>(aa (fun e=>(ap (ae.lt hC) lr h) (e▸hx)) ay)) (bj.upd16 a (ah (ae.safe b _ (by decide)) az))),(aO a (Ne.symm n3) t)⟩
 have a7:=ag j
 refine Fp<|F0<|c5 a5<|?_
 have H:=aO a (Ne.symm n3) t
 have a8:JR w gb gs gm l c (cl fn0 tm asg bdy D) (eZ C) s L A cp a4:=⟨G,o,(aO a (Ne.symm n1) p),(aO a (Ne.symm n2) q),(am h a (fun x hx=>(aa (fun e=>(ap (ae.lt hC) lr h) (e▸hx)) ay)) (bj.upd16 a (ah (ae.safe b _ (by decide)) az))),H⟩
 refine Fy (r:=cl fn0 tm asg bdy D) (.agg #[.int .u16 ((el C).file),.int .u16 ((el C).record),.int .u16 ((el C).count),.slice E ((el C).words.length) F]) 53 H rfl<|?_
 refine RoundIn.mono (hround _ _ _ _ _ _ (el C) _ _ a8 (dr.upd' U z az) (aB (by omega)) (aB (by omega)) (aB (by omega)) (by omega)) ?_
 rintro _ aJ ⟨rfl,aK,a9,ab,f⟩
 refine⟨_,rfl,?_⟩
 exact Fp<|Fp<|ou<|tn<|c0<|sk<|bn<|dY ((n-1),(eZ C),s,(L++[(el C)]),a9,ab) ⟨f.u,f.hC,f.hS,f.hm,f.hl,f.ho,(by(try dsimp only);rw[← hrec,show n=(n-1)+1 from by omega];simp only[aW,cw,d,v,y,j,bs,if_true,if_false,decide_true,decide_false,Nat.add_sub_cancel,reduceIte]),(by(try dsimp only);have hd:=pq s C (by omega);have q9:(cw s C).2.1.l.length=(eZ C).l.length:=rfl;omega),(by(try dsimp only);simp only[List.length_append,List.length_cons,List.length_nil];omega),(by(try dsimp only);simp only[List.length_append,List.length_cons,List.length_nil];omega)⟩ (by omega)
 refine xt<|tx<|tx<|bx<|rm (.tuple #[])<|?_
 have hfin:aW cw C0.l.length 0 C0 []=(C,L):=by
   rw[← hrec]
   exact fg _ _ _ _ _ (by simp only[d,bs,if_true,if_false,decide_true,decide_false])
 refine⟨rfl,s,A,cp,?_⟩
 rw[hfin]
 exact⟨k,b,p,q,h,t⟩
theorem sJ{w:World}{gb gs gm l b1 b2 fn0 D:Nat}{tm:Array Value}{asg bdy:Code}{c:Int}{C0:ak}(hC:ae w gb C0)(hS:w.heap[gs]? = some (.cells #[.int .i64 0] 3 (0,0)))(hm:w.heap[gm]? = some (.cells (dO c ey) 31 (0,0)))
    (hl:w.heap[l]? = some (.loop (cl fn0 tm asg bdy D))) (hb1:w.heap[b1]? = some (.cells #[.pointer (some ⟨gb,0,none⟩)] 143 (0,0))) (hb2:w.heap[b2]? = some (.cells #[.func (.func 130) #[] #[]] 158 (0,0)))
    (n1:gb≠gs) (n2:gb≠gm) (n3:gb≠l) (n4:gs≠gm) (n5:gs≠l) (n6:gm≠l) (m1:b1≠gb) (m2:b1≠gs) (m3:b1≠gm) (m4:b1≠l) (k1:b2≠gb) (k2:b2≠gs) (k3:b2≠gm) (k4:b2≠l) (hround:lC w gb gs gm l c (cl fn0 tm asg bdy D)) :
    Calls Tryz.prog 131 #[.func (.yield l) #[] #[],.pointer (some ⟨b1,0,none⟩),.pointer (some ⟨b2,0,none⟩)] w (fun e W=>e = .returned (.tuple #[])∧∃ s A cp,JR w gb gs gm l c (cl fn0 tm asg bdy D) (aW dx C0.l.length 0 C0 []).1 s (aW dx C0.l.length 0 C0 []).2 A cp W):=by
 have hlen:=hC.len
 refine en 25 Tryz.func131 rfl<|bk<|?_
 refine g7 (fun x=>[(0,.func (.yield l) #[] #[]),(1,.pointer (some ⟨b1,0,none⟩)),(2,.pointer (some ⟨b2,0,none⟩))]) (fun(x:Nat × ak × Int × List dJ × Option Addr × Nat) w'=>aq [gb,gs,gm,l] w w'∧ae w' gb x.2.1∧w'.heap[gs]? = some (.cells #[.int .i64 x.2.2.1] 3 (0,0))∧w'.heap[gm]? = some (.cells (dO c (.slice x.2.2.2.2.1 x.2.2.2.1.length x.2.2.2.2.2)) 31 (0,0))∧w'.heap[l]? = some (.loop (cl fn0 tm asg bdy D))∧aN w.heap.size 83 4 (bj true) w' (.slice x.2.2.2.2.1 x.2.2.2.1.length x.2.2.2.2.2) x.2.2.2.1∧(aW dx x.1 x.2.2.1 x.2.1 x.2.2.2.1=aW dx C0.l.length 0 C0 [])∧(x.2.1.l.length≤x.1)∧(0≤x.2.2.1∧x.2.2.1≤131074*(x.2.2.2.1.length:Int))∧(x.2.2.2.1.length+x.1≤C0.l.length)) (fun x=>x.1) (C0.l.length,C0,0,[],none,0) ⟨aq.refl _ _,hC,hS,hm,hl,aN.nil ..,rfl,(Nat.le_refl _),(by(try dsimp only);omega),(by(try dsimp only);(try simp only[List.length_nil]);omega)⟩ ?_
 rintro⟨n,C,s,L,A,cp⟩ g ⟨k,I,J,M,N,O,P,Q,R,S⟩
 refine fZ [(0,.func (.yield l) #[] #[]),(1,.pointer (some ⟨b1,0,none⟩)),(2,.pointer (some ⟨b2,0,none⟩))] ?_
 have b:ae g gb C:=I
 have p:g.heap[gs]? = some (.cells #[.int .i64 s] 3 (0,0)):=J
 have q:g.heap[gm]? = some (.cells (dO c (.slice A L.length cp)) 31 (0,0)):=M
 have t:g.heap[l]? = some (.loop (cl fn0 tm asg bdy D)):=N
 have h:aN w.heap.size 83 4 (bj true) g (.slice A L.length cp) L:=O
 have ac:aW dx n s C L=aW dx C0.l.length 0 C0 []:=P
 have ad:C.l.length≤n:=Q
 have af:0≤s∧s≤131074*(L.length:Int):=R
 have ai:L.length+n≤C0.l.length:=S
 have hrec:aW dx n s C L=aW dx C0.l.length 0 C0 []:=by assumption
 refine sq<|sg<|?_
 have m:=aq.blk k (aa m1 (aa m2 (aa m3 (aa m4 ay)))) hb1
 refine L0<|aR m 0<|L0<|Oc<|mq (cv b)<|?_
 have aj:=ae.len b
 refine Pl 2<|cu 4 [8] 12 (((decide (0<((C.l.length:Nat) : Int)))&&(C.e==0))) (fun K B=>?_) ?_
 refine bl 8 ((decide (0<((C.l.length:Nat) : Int)))) (fun i=>?_) (fun i=>?_)
 have T:=of_decide_eq_true i
 refine L1<|aR m 0<|L1<|Oc<|mq (aX b)<|?_
 have al:=ae.len b
 exact Pl 2<|ce B (C.e==0) (by rw[i];rfl)
 have T:=of_decide_eq_false i
 exact Pl 4<|ce B false (by rw[i];rfl)
 refine nt<|cb (((decide (0<((C.l.length:Nat) : Int)))&&(C.e==0))) (fun d=>?_) (fun d=>?_)
 have v:=(bM d).1
 have y:=(bM d).2
 have an:=of_decide_eq_true v
 have ao:=aA y
 refine bD<|bk<|sg<|?_
 refine L0<|aR (aq.blk k (aa k1 (aa k2 (aa k3 (aa k4 ay)))) hb2) 0<|L0<|aR m 0<|L0<|eD #[] #[] (args:=#[.pointer (some ⟨gb,0,none⟩)])<|t0 (rb b) fun E F ar U V X Y Z a0=>?_
 obtain⟨au,av⟩:=V
 obtain⟨aw,aC⟩:=X
 obtain⟨aD,aF⟩:=Y
 refine L0<|bz #[.int .u16 0,.int .u16 0,.int .u16 0,.slice none 0 0] fun aG aH a1 a2 a3=>L0<|b6 a2 #[.int .u16 ((gj C).file),.int .u16 ((gj C).record),.int .u16 ((gj C).count),.slice E ((gj C).words.length) F] fun a4 a5 a6=>nt<|sq<|uq 9<|?_
 have z:=ud a3 a6 a1
 have a:=aE a0 z
 refine F0<|aR (aO a m1 m) 0<|?_
 have o:=ae.old Z z
 refine F0<|Oc<|mq (aX o)<|?_
 have aI:=ae.len o
 refine Fp<|Fp<|?_
 have G:=u1 k a im
 refine uT 19 ((((ie C).e)!=0)) (fun j=>?_) (fun j=>?_)
 have a7:=ax j
 refine Fp<|Fp<|Fp<|Fp<|Fp<|ou<|tn<|c1<|rt<|br<|tr<|br<|rr (.tuple #[])<|?_
 have hfin:aW dx C0.l.length 0 C0 []=((ie C),L):=by
   rw[← hrec]
   rw[show n=(n-1)+1 from by omega]
   simp only[aW,dx,d,v,y,j,bs,if_true,if_false,decide_true,decide_false,reduceIte]
 refine⟨rfl,s,A,cp,?_⟩
 rw[hfin]
 exact⟨G,o,(aO a (Ne.symm n1) p),(aO a (Ne.symm n2) q),(am h a (fun x hx=>(aa (fun e=>(ap (ae.lt hC) lr h) (e▸hx)) ay)) (bj.upd16 a (ah (ae.safe b _ (by decide)) az))),(aO a (Ne.symm n3) t)⟩
 have a7:=ag j
 refine Fp<|F0<|c5 a5<|?_
 have H:=aO a (Ne.symm n3) t
 have a8:JR w gb gs gm l c (cl fn0 tm asg bdy D) (ie C) s L A cp a4:=⟨G,o,(aO a (Ne.symm n1) p),(aO a (Ne.symm n2) q),(am h a (fun x hx=>(aa (fun e=>(ap (ae.lt hC) lr h) (e▸hx)) ay)) (bj.upd16 a (ah (ae.safe b _ (by decide)) az))),H⟩
 refine Fy (r:=cl fn0 tm asg bdy D) (.agg #[.int .u16 ((gj C).file),.int .u16 ((gj C).record),.int .u16 ((gj C).count),.slice E ((gj C).words.length) F]) 53 H rfl<|?_
 refine RoundIn.mono (hround _ _ _ _ _ _ (gj C) _ _ a8 (dr.upd' U z az) (aB (by omega)) (aB (by omega)) (aB (by omega)) (by omega)) ?_
 rintro _ aJ ⟨rfl,aK,a9,ab,f⟩
 refine⟨_,rfl,?_⟩
 exact Fp<|Fp<|ou<|tn<|c0<|sk<|bn<|dY ((n-1),(ie C),s,(L++[(gj C)]),a9,ab) ⟨f.u,f.hC,f.hS,f.hm,f.hl,f.ho,(by(try dsimp only);rw[← hrec,show n=(n-1)+1 from by omega];simp only[aW,dx,d,v,y,j,bs,if_true,if_false,decide_true,decide_false,Nat.add_sub_cancel,reduceIte]),(by(try dsimp only);have hd:=qq s C (by omega);have q9:(dx s C).2.1.l.length=(ie C).l.length:=rfl;omega),(by(try dsimp only);simp only[List.length_append,List.length_cons,List.length_nil];omega),(by(try dsimp only);simp only[List.length_append,List.length_cons,List.length_nil];omega)⟩ (by omega)
 refine xt<|tx<|tx<|bx<|rm (.tuple #[])<|?_
 have hfin:aW dx C0.l.length 0 C0 []=(C,L):=by
   rw[← hrec]
   exact fg _ _ _ _ _ (by simp only[d,bs,if_true,if_false,decide_true,decide_false])
 refine⟨rfl,s,A,cp,?_⟩
 rw[hfin]
 exact⟨k,b,p,q,h,t⟩
open Go.RowKit
def eT (n:Int) : Bool:=(decide (7≤n)&&decide (n≤245))&&n%7==0
def eV (n:Int) : Bool:=decide (4≤n)&&decide (n≤245)
def eU (n:Int) : Bool:=decide (9≤n)&&decide (n≤251)
def rV (may:Int→Bool)(C:ak) : ak:=(C.bytesC 1).need (may C.byteV) 5
def rO (may:Int→Bool)(C:ak) : ak:=⟨(rV may C).bytesR C.byteV,false,0⟩
def qF (one:Int→ak→Int × ak × dJ)(may:Int→Bool)(C:ak) : ak × List dJ:=aW one (rO may C).l.length 0 (rO may C) []
def da (e:Int) : Int:=if e==2 then 5 else e
def ec (one:Int→ak→Int × ak × dJ)(may:Int→Bool)(c:Int)(C:ak) : ak × bf :=
  (((rV may C).bytesC C.byteV).need ((qF one may C).1.e==0) (da (qF one may C).1.e),{ bf.zero with code:=c,recs:=(qF one may C).2 })
def aV (dir c:Int)(C:ak) : Option (ak × bf) :=
  if c==20 then (if dir==0 then some (ec dt eT c C) else some (ec cw eV c C)) else if c==21 then some (ec dx eU c C) else none
theorem iA:((20:Int)==20)=true:=rfl
theorem iT:((21:Int)==20)=false:=rfl
theorem iz:((21:Int)==21)=true:=rfl
theorem kJ{m:Bool}{A:Option Addr}{cp:Nat}{b:List Int}{w:World}{dir:Int}(hd:dir=0∨dir=1)(hsl:aL m w (.slice A b.length cp) b)(hb:b.length≤1048576) :
    Calls Tryz.prog 64 #[.int .i64 0,.int .u8 20,.slice A b.length cp] w (cM (al aV 0 20 b) w):=by
 have hln:(b.length:Int)≤1048576:=by omega
 have cQ:((dir != 0)&&(dir != 1))=false:=by rcases hd with rfl | rfl<;>rfl
 refine t9 77 Tryz.func64 rfl<|sg<|L0<|bz mZ fun ad cR bp K af=>Pl 1<|nt<|sq<|sg<|Pl 6<|nt<|c0<|?_
 refine bD<|sg<|Pl 2<|L0<|Oc (args:=#[.int .i64 0,.int .u8 20])<|e3 qj fun v cS Z G N=>Pl 3<|L0<|bz #[.nilFunc,.nilFunc] fun cT cU cj bq z=>L0<|b6 bq #[.func (.func 126) #[] #[],.func (.func 124) #[] #[.pointer (some ⟨v,0,none⟩)]] fun cV ck t=>Pl 1<|nt<|sq<|sq<|?_
 refine go<|Pl 2<|nt<|c0<|bD<|sg<|Pl 1<|?_
 have ai:=ud z t cj
 have a0:=aE N ai
 have br:=aE af a0
 refine L0<|Oc<|e3 (cc (aL.old hsl br) (by omega)) fun a1 cW U M r=>Pl 1<|ng<|Pl 1<|L0<|Oc<|m3 (bh M) fun cX cm o cY=>L0<|Oi ((ak.mk b false 0).byteV)<|Pl 1<|ng<|?_
 refine Pl 2<|?_
 have aN:=ud r o U
 have bt:=ub aN ck
 refine L0<|aR bt 0<|Pl 1<|L0<|eD #[] #[] (args:=#[.int .i64 ((ak.mk b false 0).byteV)])<|m1 (lH (n:=(ak.mk b false 0).byteV) (by omega)) fun cZ d=>?_
 refine L0<|Oc<|m2 (aK ((eT ((ak.mk b false 0).byteV))) 5 (ae.old cm d)) fun d0 cn i=>?_
 refine ab cn fun x49 bu bw=>?_
 refine ng<|Pl 2<|L0<|Oc<|nu (bA (n:=(ak.mk b false 0).byteV) bw) fun d1 d2 d3 co d4 d5 cq j=>?_
 have d6:=Nat.le_trans (ak.bytesR_le x49 ((ak.mk b false 0).byteV)) (ae.len bw)
 refine ab cq fun x58 bx aP=>?_
 refine L0<|Oc<|e3 (cc co (by omega)) fun O d7 P Q g=>Pl 1<|ng<|Pl 2<|L0<|bz mZ fun B d8 H V p=>L0<|b6 V (mC 20) fun d9 cs h=>nt<|sq<|sg<|?_
 refine Pl 2<|?_
 have an:=ud p h H
 have ao:=aE g an
 have bB:=uz d (u1 i (aE j ao) im)
 refine L0<|aR (aO bB (nb (aj bq) t.size U) bt) 1<|L0<|Oc<|t0 (gS (gb:=O) (f:=.func 124) (x:=#[]) (y:=#[.pointer (some ⟨v,0,none⟩)])) fun ct cu db aU aZ dc bC bE k=>nt<|bk<|?_
 refine l5 (f:=131) #[.pointer (some ⟨ct,0,none⟩),.pointer (some ⟨cu,0,none⟩)] fun a ha=>?_
 intro dd cv I de D E bF ar S J
 have bG:=nb (ae.lt Q) lr H
 have aw:=nb (ae.lt Q) (le (le p.size h.size) k.size) E
 have bI:=nb (aj G) (le (le (le (le (le (le (le z.size t.size) r.size) o.size) d.size) i.size) j.size) g.size) H
 have bJ:=nb (aj G) (le (le (le (le (le (le (le (le (le (le z.size t.size) r.size) o.size) d.size) i.size) j.size) g.size) p.size) h.size) k.size) E
 have a2:=nb (aj V) (le h.size k.size) E
 have X:=aE k J
 have bK:=ae.old Q (aE an X)
 have aA:=ud aN (aE bB X) U
 have bL:=ub (aE ai aA) G
 have b0:=ub X cs
 refine(sY (c:=20) bK bL b0 S (ub J bC) (ub J bE) (Ne.symm (nb (aj G) (le (le (le (le (le (le z.size t.size) r.size) o.size) d.size) i.size) j.size) P)) bG aw bI bJ a2 (Ne.symm (nb (ae.lt Q) an.size aU)) (Ne.symm (nb (aj G) (le (le (le (le (le (le (le (le (le z.size t.size) r.size) o.size) d.size) i.size) j.size) g.size) p.size) h.size) aU)) (Ne.symm (nb (aj V) h.size aU)) (nb (aj bC) lr E) (Ne.symm (nb (ae.lt Q) an.size aZ)) (Ne.symm (nb (aj G) (le (le (le (le (le (le (le (le (le z.size t.size) r.size) o.size) d.size) i.size) j.size) g.size) p.size) h.size) aZ)) (Ne.symm (nb (aj V) h.size aZ)) (nb (aj bE) lr E) ?_).mono ?_
 intro W C s L Ar cr x Ax cx hJ hrd hx1 hx2 hx3 hL
 simp only[dj] at hx1 hx2 hx3
 have hm2:W.heap[B]? = some (.cells #[.int .u8 20,.int .u8 0,.int .u16 0,.int .u16 0,.int .u16 0,.int .u16 0,.int .u16 0,.int .u16 0,.int .u16 0,.int .u16 0,.int .u16 0,.int .u16 0,.slice none 0 0,.slice none 0 0,.slice none 0 0,.slice Ar L.length cr,.int .u8 0,.int .u8 0,.int .u8 0,.int .u8 0,.int .u8 0,.slice none 0 0] 31 (0,0)):=hJ.hm
 refine gY hJ.hl ?_
 refine uD ha 53<|tf<|ig<|bz #[.int .u16 0,.int .u16 0,.int .u16 0,.slice none 0 0] fun df dg bM cw bN=>ig<|b6 cw #[.int .u16 x.file,.int .u16 x.record,.int .u16 x.count,.slice Ax x.words.length cx] fun dh cy bP=>ou<|?_
 have bQ:=ud bN bP bM
 refine uw (ub bQ hJ.hl) (by trivial) fun di cz b1=>uQ<|tf<|tc<|?_
 have b2:=uz bQ b1
 have bR:=aO b2 a2 hm2
 refine ig<|aR bR 15<|?_
 refine ig<|c5 (aO b1 (Ne.symm (nb (aj S) hJ.u.size bM)) cy)<|ig<|eS (m:=1) (e:=83) #[.int .u16 x.file,.int .u16 x.record,.int .u16 x.count,.slice Ax x.words.length cx] fun dk dl dm cA b3=>?_
 have Y:=aE b2 b3
 have cB:=kU (R:=bj true) (x:=(dJ.mk x.file x.record x.count x.words)) cA rfl ⟨_,rfl,(dr.updl hrd Y hJ.hl rfl),aB (by omega),aB (by omega),aB (by omega)⟩
 have b4:=am hJ.ho Y (fun x hx=>(aa (fun e=>(ap (aj S) lr hJ.ho) (e▸hx)) ay)) (bj.updl Y hJ.hl rfl)
 refine ig<|gK (xs:=L) (ys:=([(dJ.mk x.file x.record x.count x.words)])) (.agg #[.int .u16 0,.int .u16 0,.int .u16 0,.slice none 0 0]) 4 32 b4 cB (by simp) bj.ones (fun w' hv=>bj.upd16 hv (bS (c9 _ b4 (by decide)) az)) (by(try simp only[List.length_append,List.length_cons,List.length_nil,aS]);omega) (le (le (le (le hJ.u.size bN.size) bP.size) b1.size) b3.size) fun bT bU dn b5 aC=>tc<|?_
 have bV:=ut (aq.mono (S':=(ob Ar++[])) b3 av) aC (au il av)
 have b7:=aq.blk bV (aM (ap (aj b0) lr hJ.ho) ay) bR
 refine ig<|bO b7 15 (mG 20 0 0 0 0 0 0 0 0 0 0 0 nS nS nS (.slice bT ((L++[(dJ.mk x.file x.record x.count x.words)]).length) bU) 0 0 0 0 0 nS) fun dp cC a3=>ou<|bn<|?_
 have bW:=u1 (aq.mono (S':=(ob Ar++(B :: []))) bV (au il av)) a3 im
 have b9:=aq.blk bW (aM (ap (aj S) lr hJ.ho) (aa (Ne.symm a2) ay)) cz
 refine uo b9 fun dq cH a4=>?_
 have ba:=ut (aq.mono (S':=(I :: (ob Ar++(B :: [])))) Y (ac im av)) (ut (aq.mono (S':=(ob Ar++(B :: (I :: [])))) aC (au il av)) (us a3 a4) (ac im (ac im av))) (au il (ac im (ac im av)))
 have ds:=ut hJ.u (ut (aq.mono (S':=(I :: (ob Ar++(B :: [])))) b2 (ac im av)) bW (au il (ac im av))) (ac im (au (bH hJ.ho lr) (ac im av)))
 have du:=ut hJ.u (ut (aq.mono (S':=(I :: (ob Ar++[]))) Y (ac im av)) aC (au il av)) (ac im (au (bH hJ.ho lr) av))
 exact⟨by trivial,ba.size,bT,bU,⟨(ut hJ.u ba (ac im (au (bH hJ.ho lr) (ac im av)))),(ae.updl (ae.upd (ae.upd (ae.updl hJ.hC Y (aa aw ay) hJ.hl rfl) aC (aM (ap (ae.lt bK) lr hJ.ho) ay) (bS (c9 _ b4 (by decide)) az)) a3 (aa bG ay) (ah (aD b7 (by decide)) az)) a4 (aa aw ay) b9 rfl),(aq.blk ba (aa bJ (aM (ap (aj bL) lr hJ.ho) (aa bI ay))) hJ.hS),(aO a4 a2 cC),(am (am b5 a3 (fun x hx=>(aa (fun e=>(ap (aj b0) lr b5) (e▸hx)) ay)) (bj.upd16 a3 (ah (aD b7 (by decide)) az))) a4 (fun x hx=>(aa (fun e=>(ap (aj S) lr b5) (e▸hx)) ay)) (bj.updl a4 b9 rfl)),cH⟩⟩
 rintro _ cI ⟨rfl,dv,bX,bY,q⟩
 refine⟨_,_,rfl,q.hl,by simp[cl],by trivial,fun dw bZ=>?_⟩
 refine ab q.hC fun bb c1 cJ=>?_
 have cK:cI.heap[B]? = some (.cells #[.int .u8 20,.int .u8 0,.int .u16 0,.int .u16 0,.int .u16 0,.int .u16 0,.int .u16 0,.int .u16 0,.int .u16 0,.int .u16 0,.int .u16 0,.int .u16 0,.slice none 0 0,.slice none 0 0,.slice none 0 0,.slice bX ((aW dt (ak.mk (x49.bytesR ((ak.mk b false 0).byteV)) false 0).l.length 0 (ak.mk (x49.bytesR ((ak.mk b false 0).byteV)) false 0) []).2.length) bY,.int .u8 0,.int .u8 0,.int .u8 0,.int .u8 0,.int .u8 0,.slice none 0 0] 31 (0,0)):=q.hm
 refine bn<|tn<|sg<|Pl 2<|?_
 have aF:=ae.updl cJ bZ (aa aw ay) q.hl rfl
 refine L0<|Oc<|mq (aX aF)<|?_
 have dx:=ae.len aF
 refine Pl 2<|L0<|Oc<|mq (aX aF)<|?_
 have dy:=ae.len aF
 refine L0<|Oc<|m1 (f6 (e:=bb.e)) fun dz cL=>?_
 have F:=aE bZ cL
 have c2:=u1 q.u F im
 have bc:=nb (aj G) ai.size U
 have aH:=ud aN (uz d (u1 i j im)) U
 have bd:=ub (aE ai aH) G
 have be:=ae.upd aP (ut (aq.mono (S':=[v]) ao av) (ut (aq.mono (S':=[O,v,B]) X av) c2 (ac im (ac im (ac im (ac (ni k.size E) av))))) (ac (nr P) (ac im (ac (ni g.size H) av)))) (aa (Ne.symm bc) ay) (ah (aD bd (by decide)) az)
 refine L0<|Oc<|m2 (aK ((bb.e==0)) (da bb.e) be) fun dA cN T=>?_
 refine ab cN fun c3 c4 bg=>?_
 refine ng<|Pl 1<|L0<|Oc<|m2 (bv bg) fun dB c6 a5=>nt<|sq<|sg<|Pl 1<|L0<|Oc<|mq (aX c6)<|?_
 have dC:=ae.len c6
 refine Pl 1<|ng<|Pl 2<|nt<|?_
 have a6:=u1 T a5 im
 have bi:=u1 (aq.mono (S':=[O,v,B,I,a1]) c2 (ac im (ac im (ac im (ac im av))))) a6 im
 have bl:=ut (aq.mono (S':=[v]) aA av) bi (ac (ni aH.size P) (ac im (ac (ni (le (le (le (le (le r.size o.size) d.size) i.size) j.size) g.size) H) (ac (ni (le (le (le (le (le (le (le (le r.size o.size) d.size) i.size) j.size) g.size) p.size) h.size) k.size) E) (ac (nr U) av)))))
 have c7:=ud br bl (le af.size Z)
 refine cb ((c3.endC.e != 0)) (fun a7=>?_) (fun a7=>?_)
 have bm:=ax a7
 refine sg<|Pl 2<|?_
 have c8:=ub (ud a0 bl Z) K
 refine L0<|b6 c8 mZ fun dD cO a8=>Pl 1<|nt<|rt<|tr<|?_
 have ca:=nb (aj K) (le (le (le (le (le (le (le (le (le (le (le N.size z.size) t.size) r.size) o.size) d.size) i.size) j.size) g.size) p.size) h.size) k.size) D
 have cd:=aq.blk (u1 (aq.mono (S':=[O,v,B,I,a1,ad]) bi (ac im (ac im (ac im (ac im (ac im av)))))) a8 im) (aa (Ne.symm (nb (ae.lt Q) (le (le p.size h.size) k.size) D)) (aa (Ne.symm (nb (aj G) (le (le (le (le (le (le (le (le (le (le z.size t.size) r.size) o.size) d.size) i.size) j.size) g.size) p.size) h.size) k.size) D)) (aa (Ne.symm (nb (aj V) (le h.size k.size) D)) (aa bF (aa (Ne.symm (nb (ae.lt M) (le (le (le (le (le (le (le o.size d.size) i.size) j.size) g.size) p.size) h.size) k.size) D)) (aa (Ne.symm ca) ay)))))) ar
 refine ta cd fun dE aI=>?_
 refine rx (aO aI ca cO) (.int .i64 c3.endC.e)<|?_
 subst c4 c1 bx bu
 have ce:=us a8 aI
 have dF:=us F (us a6 ce)
 have dG:=us F (us a6 a8)
 have dH:=ub (ud a0 (ut (aq.mono (S':=[v]) aA av) q.u (ac (ni aH.size P) (ac im (ac (ni (le (le (le (le (le r.size o.size) d.size) i.size) j.size) g.size) H) (ac (ni (le (le (le (le (le (le (le (le r.size o.size) d.size) i.size) j.size) g.size) p.size) h.size) k.size) E) av))))) Z) K
 have dI:=ae.upd aP (ut (aq.mono (S':=[v]) ao av) (ut (aq.mono (S':=[O,v,B]) X av) q.u (ac im (ac im (ac im (ac (ni k.size E) av))))) (ac (nr P) (ac im (ac (ni g.size H) av)))) (aa (Ne.symm bc) ay) (ah (aD bd (by decide)) az)
 have dK:=us F a6
 have dL:=us F T
 have dM:=am (am (am (am (am q.ho F (fun x hx=>(aa (fun e=>(ap (aj S) lr q.ho) (e▸hx)) ay)) (bj.updl F q.hl rfl)) T (fun x hx=>(aa (fun e=>(ap (ae.lt M) (le (le (le (le (le (le (le (le o.size d.size) i.size) j.size) g.size) p.size) h.size) k.size) J.size) q.ho) (e▸hx)) ay)) (bj.upd16 T (ah (ae.safe be _ (by decide)) az))) a5 (fun x hx=>(aa (fun e=>(ap (ae.lt M) (le (le (le (le (le (le (le (le o.size d.size) i.size) j.size) g.size) p.size) h.size) k.size) J.size) q.ho) (e▸hx)) ay)) (bj.upd16 a5 (ah (ae.safe bg _ (by decide)) az))) a8 (fun x hx=>(aa (fun e=>(ap (aj K) (le (le (le (le (le (le (le (le (le (le (le (le N.size z.size) t.size) r.size) o.size) d.size) i.size) j.size) g.size) p.size) h.size) k.size) J.size) q.ho) (e▸hx)) ay)) (bj.upd16 a8 (ah (aD c8 (by decide)) az))) aI (fun x hx=>(aa (fun e=>(ap (aj ar) lr q.ho) (e▸hx)) ay)) (bj.updl aI cd rfl)
 have hs:al aV 0 20 b=aQ (bf.mk 20 0 0 0 0 0 0 0 0 0 0 0 [] [] [] (aW dt (ak.mk ((((ak.mk b false 0).bytesC 1).need (eT ((ak.mk b false 0).byteV)) 5).bytesR ((ak.mk b false 0).byteV)) false 0).l.length 0 (ak.mk ((((ak.mk b false 0).bytesC 1).need (eT ((ak.mk b false 0).byteV)) 5).bytesR ((ak.mk b false 0).byteV)) false 0) []).2 0 0 0 0 0 []) (((((ak.mk b false 0).bytesC 1).need (eT ((ak.mk b false 0).byteV)) 5).bytesC ((ak.mk b false 0).byteV)).need (((aW dt (ak.mk ((((ak.mk b false 0).bytesC 1).need (eT ((ak.mk b false 0).byteV)) 5).bytesR ((ak.mk b false 0).byteV)) false 0).l.length 0 (ak.mk ((((ak.mk b false 0).bytesC 1).need (eT ((ak.mk b false 0).byteV)) 5).bytesR ((ak.mk b false 0).byteV)) false 0) []).1).e==0) (da ((aW dt (ak.mk ((((ak.mk b false 0).bytesC 1).need (eT ((ak.mk b false 0).byteV)) 5).bytesR ((ak.mk b false 0).byteV)) false 0).l.length 0 (ak.mk ((((ak.mk b false 0).bytesC 1).need (eT ((ak.mk b false 0).byteV)) 5).bytesR ((ak.mk b false 0).byteV)) false 0) []).1).e)):=by
   unfold al aV ec qF rO rV
   (try simp only[a7,bs,if_true,if_false,decide_true,decide_false,eq_self,true_or,or_true,or_false,false_or,if_true,if_false,cE,cF,cD,cG,reduceIte,iA,iT,iz])
   all_goals rfl
 rw[hs]
 exact aT bm (ut c7 ce (ac (nr bp) (ac (ni (le (le (le (le (le (le (le (le (le (le (le (le af.size N.size) z.size) t.size) r.size) o.size) d.size) i.size) j.size) g.size) p.size) h.size) k.size) D) av)))
 have bm:=ag a7
 refine bD<|sg<|?_
 have bo:=us F a6
 refine L0<|c5 (aq.blk bo (aa a2 (aa (Ne.symm (nb (ae.lt M) (le (le (le (le o.size d.size) i.size) j.size) g.size) H)) ay)) cK)<|?_
 have cf:=ub (ud a0 bl Z) K
 refine L0<|b6 cf (mG 20 0 0 0 0 0 0 0 0 0 0 0 nS nS nS (.slice bX ((aW dt (ak.mk (x49.bytesR ((ak.mk b false 0).byteV)) false 0).l.length 0 (ak.mk (x49.bytesR ((ak.mk b false 0).byteV)) false 0) []).2.length) bY) 0 0 0 0 0 nS) fun dN cP a9=>Pl 1<|nt<|rt<|?_
 have cg:=nb (aj K) (le (le (le (le (le (le (le (le (le (le (le N.size z.size) t.size) r.size) o.size) d.size) i.size) j.size) g.size) p.size) h.size) k.size) D
 have ch:=aq.blk (u1 (aq.mono (S':=[O,v,B,I,a1,ad]) bi (ac im (ac im (ac im (ac im (ac im av)))))) a9 im) (aa (Ne.symm (nb (ae.lt Q) (le (le p.size h.size) k.size) D)) (aa (Ne.symm (nb (aj G) (le (le (le (le (le (le (le (le (le (le z.size t.size) r.size) o.size) d.size) i.size) j.size) g.size) p.size) h.size) k.size) D)) (aa (Ne.symm (nb (aj V) (le h.size k.size) D)) (aa bF (aa (Ne.symm (nb (ae.lt M) (le (le (le (le (le (le (le o.size d.size) i.size) j.size) g.size) p.size) h.size) k.size) D)) (aa (Ne.symm cg) ay)))))) ar
 refine ta ch fun dO aJ=>?_
 refine rx (aO aJ cg cP) (.int .i64 0)<|?_
 subst c4 c1 bx bu
 have ci:=us a9 aJ
 have dP:=ut (aq.mono (S':=[I,a1,ad,cv]) bo (ac im (ac im av))) ci (ac im (ac im av))
 have dQ:=u1 (aq.mono (S':=[I,a1,ad]) bo (ac im (ac im av))) a9 im
 have dR:=ub (ud a0 (ut (aq.mono (S':=[v]) aA av) q.u (ac (ni aH.size P) (ac im (ac (ni (le (le (le (le (le r.size o.size) d.size) i.size) j.size) g.size) H) (ac (ni (le (le (le (le (le (le (le (le r.size o.size) d.size) i.size) j.size) g.size) p.size) h.size) k.size) E) av))))) Z) K
 have dS:=ae.upd aP (ut (aq.mono (S':=[v]) ao av) (ut (aq.mono (S':=[O,v,B]) X av) q.u (ac im (ac im (ac im (ac (ni k.size E) av))))) (ac (nr P) (ac im (ac (ni g.size H) av)))) (aa (Ne.symm bc) ay) (ah (aD bd (by decide)) az)
 have dT:=us F T
 have hs:al aV 0 20 b=aQ (bf.mk 20 0 0 0 0 0 0 0 0 0 0 0 [] [] [] (aW dt (ak.mk ((((ak.mk b false 0).bytesC 1).need (eT ((ak.mk b false 0).byteV)) 5).bytesR ((ak.mk b false 0).byteV)) false 0).l.length 0 (ak.mk ((((ak.mk b false 0).bytesC 1).need (eT ((ak.mk b false 0).byteV)) 5).bytesR ((ak.mk b false 0).byteV)) false 0) []).2 0 0 0 0 0 []) (((((ak.mk b false 0).bytesC 1).need (eT ((ak.mk b false 0).byteV)) 5).bytesC ((ak.mk b false 0).byteV)).need (((aW dt (ak.mk ((((ak.mk b false 0).bytesC 1).need (eT ((ak.mk b false 0).byteV)) 5).bytesR ((ak.mk b false 0).byteV)) false 0).l.length 0 (ak.mk ((((ak.mk b false 0).bytesC 1).need (eT ((ak.mk b false 0).byteV)) 5).bytesR ((ak.mk b false 0).byteV)) false 0) []).1).e==0) (da ((aW dt (ak.mk ((((ak.mk b false 0).bytesC 1).need (eT ((ak.mk b false 0).byteV)) 5).bytesR ((ak.mk b false 0).byteV)) false 0).l.length 0 (ak.mk ((((ak.mk b false 0).bytesC 1).need (eT ((ak.mk b false 0).byteV)) 5).bytesR ((ak.mk b false 0).byteV)) false 0) []).1).e)):=by
   unfold al aV ec qF rO rV
   (try simp only[a7,bs,if_true,if_false,decide_true,decide_false,eq_self,true_or,or_true,or_false,false_or,if_true,if_false,cE,cF,cD,cG,reduceIte,iA,iT,iz])
   all_goals rfl
 rw[hs]
 exact aY bm ⟨_,_,_,_,_,rfl,aG.nil ..,aG.nil ..,aG.nil ..,((am (am (am (am (am q.ho F (fun x hx=>(aa (fun e=>(ap (aj S) lr q.ho) (e▸hx)) ay)) (bj.updl F q.hl rfl)) T (fun x hx=>(aa (fun e=>(ap (ae.lt M) (le (le (le (le (le (le (le (le o.size d.size) i.size) j.size) g.size) p.size) h.size) k.size) J.size) q.ho) (e▸hx)) ay)) (bj.upd16 T (ah (ae.safe be _ (by decide)) az))) a5 (fun x hx=>(aa (fun e=>(ap (ae.lt M) (le (le (le (le (le (le (le (le o.size d.size) i.size) j.size) g.size) p.size) h.size) k.size) J.size) q.ho) (e▸hx)) ay)) (bj.upd16 a5 (ah (ae.safe bg _ (by decide)) az))) a9 (fun x hx=>(aa (fun e=>(ap (aj K) (le (le (le (le (le (le (le (le (le (le (le (le N.size z.size) t.size) r.size) o.size) d.size) i.size) j.size) g.size) p.size) h.size) k.size) J.size) q.ho) (e▸hx)) ay)) (bj.upd16 a9 (ah (aD cf (by decide)) az))) aJ (fun x hx=>(aa (fun e=>(ap (aj ar) lr q.ho) (e▸hx)) ay)) (bj.updl aJ ch rfl))).rd,aG.nil ..,⟨(b8 (x:=20) (by omega)),(b8 (x:=0) (by omega)),(aB (x:=0) (by omega)),(aB (x:=0) (by omega)),(aB (x:=0) (by omega)),(aB (x:=0) (by omega)),(aB (x:=0) (by omega)),(aB (x:=0) (by omega)),(aB (x:=0) (by omega)),(aB (x:=0) (by omega)),(aB (x:=0) (by omega)),(aB (x:=0) (by omega)),(b8 (x:=0) (by omega)),(b8 (x:=0) (by omega)),(b8 (x:=0) (by omega)),(b8 (x:=0) (by omega)),(b8 (x:=0) (by omega))⟩⟩ (ut c7 ci (ac (nr bp) (ac (ni (le (le (le (le (le (le (le (le (le (le (le (le af.size N.size) z.size) t.size) r.size) o.size) d.size) i.size) j.size) g.size) p.size) h.size) k.size) D) av)))
theorem kK{m:Bool}{A:Option Addr}{cp:Nat}{b:List Int}{w:World}{dir:Int}(hd:dir=0∨dir=1)(hsl:aL m w (.slice A b.length cp) b)(hb:b.length≤1048576) :
    Calls Tryz.prog 64 #[.int .i64 1,.int .u8 20,.slice A b.length cp] w (cM (al aV 1 20 b) w):=by
 have hln:(b.length:Int)≤1048576:=by omega
 have cR:((dir != 0)&&(dir != 1))=false:=by rcases hd with rfl | rfl<;>rfl
 refine t9 77 Tryz.func64 rfl<|sg<|L0<|bz mZ fun ad cS bp K af=>Pl 1<|nt<|sq<|sg<|Pl 6<|nt<|c0<|?_
 refine bD<|sg<|Pl 2<|L0<|Oc (args:=#[.int .i64 1,.int .u8 20])<|e3 ro fun z cT Z G N=>Pl 3<|L0<|bz #[.nilFunc,.nilFunc] fun cU cV cj bq v=>L0<|b6 bq #[.func (.func 127) #[] #[],.func (.func 128) #[] #[]] fun cW ck t=>Pl 1<|nt<|sq<|sq<|?_
 refine go<|Pl 2<|nt<|c0<|bD<|sg<|Pl 1<|?_
 have ai:=ud v t cj
 have a0:=aE N ai
 have br:=aE af a0
 refine L0<|Oc<|e3 (cc (aL.old hsl br) (by omega)) fun a1 cX U M r=>Pl 1<|ng<|Pl 1<|L0<|Oc<|m3 (bh M) fun cY cm o cZ=>L0<|Oi ((ak.mk b false 0).byteV)<|Pl 1<|ng<|?_
 refine Pl 2<|?_
 have aN:=ud r o U
 have bt:=ub aN ck
 refine L0<|aR bt 0<|Pl 1<|L0<|eD #[] #[] (args:=#[.int .i64 ((ak.mk b false 0).byteV)])<|m1 (mb (n:=(ak.mk b false 0).byteV) (by omega)) fun d0 d=>?_
 refine L0<|Oc<|m2 (aK ((eV ((ak.mk b false 0).byteV))) 5 (ae.old cm d)) fun d1 cn i=>?_
 refine ab cn fun x49 bu bw=>?_
 refine ng<|Pl 2<|L0<|Oc<|nu (bA (n:=(ak.mk b false 0).byteV) bw) fun d2 d3 d4 co d5 d6 cq j=>?_
 have d7:=Nat.le_trans (ak.bytesR_le x49 ((ak.mk b false 0).byteV)) (ae.len bw)
 refine ab cq fun x58 bx aP=>?_
 refine L0<|Oc<|e3 (cc co (by omega)) fun O d8 P Q g=>Pl 1<|ng<|Pl 2<|L0<|bz mZ fun B d9 H V p=>L0<|b6 V (mC 20) fun db cs h=>nt<|sq<|sg<|?_
 refine Pl 2<|?_
 have an:=ud p h H
 have ao:=aE g an
 have bB:=uz d (u1 i (aE j ao) im)
 refine L0<|aR (aO bB (nb (aj bq) t.size U) bt) 1<|L0<|Oc<|t0 (gS (gb:=O) (f:=.func 128) (x:=#[]) (y:=#[])) fun ct cu dc aU aZ dd bC bE k=>nt<|bk<|?_
 refine l5 (f:=131) #[.pointer (some ⟨ct,0,none⟩),.pointer (some ⟨cu,0,none⟩)] fun a ha=>?_
 intro de cv I df D E bF ar S J
 have bG:=nb (ae.lt Q) lr H
 have aw:=nb (ae.lt Q) (le (le p.size h.size) k.size) E
 have bI:=nb (aj G) (le (le (le (le (le (le (le v.size t.size) r.size) o.size) d.size) i.size) j.size) g.size) H
 have bJ:=nb (aj G) (le (le (le (le (le (le (le (le (le (le v.size t.size) r.size) o.size) d.size) i.size) j.size) g.size) p.size) h.size) k.size) E
 have a2:=nb (aj V) (le h.size k.size) E
 have X:=aE k J
 have bK:=ae.old Q (aE an X)
 have aA:=ud aN (aE bB X) U
 have bL:=ub (aE ai aA) G
 have b0:=ub X cs
 refine(sT (c:=20) bK bL b0 S (ub J bC) (ub J bE) (Ne.symm (nb (aj G) (le (le (le (le (le (le v.size t.size) r.size) o.size) d.size) i.size) j.size) P)) bG aw bI bJ a2 (Ne.symm (nb (ae.lt Q) an.size aU)) (Ne.symm (nb (aj G) (le (le (le (le (le (le (le (le (le v.size t.size) r.size) o.size) d.size) i.size) j.size) g.size) p.size) h.size) aU)) (Ne.symm (nb (aj V) h.size aU)) (nb (aj bC) lr E) (Ne.symm (nb (ae.lt Q) an.size aZ)) (Ne.symm (nb (aj G) (le (le (le (le (le (le (le (le (le v.size t.size) r.size) o.size) d.size) i.size) j.size) g.size) p.size) h.size) aZ)) (Ne.symm (nb (aj V) h.size aZ)) (nb (aj bE) lr E) ?_).mono ?_
 intro W C s L Ar cr x Ax cx hJ hrd hx1 hx2 hx3 hL
 simp only[dj] at hx1 hx2 hx3
 have hm2:W.heap[B]? = some (.cells #[.int .u8 20,.int .u8 0,.int .u16 0,.int .u16 0,.int .u16 0,.int .u16 0,.int .u16 0,.int .u16 0,.int .u16 0,.int .u16 0,.int .u16 0,.int .u16 0,.slice none 0 0,.slice none 0 0,.slice none 0 0,.slice Ar L.length cr,.int .u8 0,.int .u8 0,.int .u8 0,.int .u8 0,.int .u8 0,.slice none 0 0] 31 (0,0)):=hJ.hm
 refine gY hJ.hl ?_
 refine uD ha 53<|tf<|ig<|bz #[.int .u16 0,.int .u16 0,.int .u16 0,.slice none 0 0] fun dg dh bM cy bN=>ig<|b6 cy #[.int .u16 x.file,.int .u16 x.record,.int .u16 x.count,.slice Ax x.words.length cx] fun di cz bP=>ou<|?_
 have bQ:=ud bN bP bM
 refine uw (ub bQ hJ.hl) (by trivial) fun dk cA b1=>uQ<|tf<|tc<|?_
 have b2:=uz bQ b1
 have bR:=aO b2 a2 hm2
 refine ig<|aR bR 15<|?_
 refine ig<|c5 (aO b1 (Ne.symm (nb (aj S) hJ.u.size bM)) cz)<|ig<|eS (m:=1) (e:=83) #[.int .u16 x.file,.int .u16 x.record,.int .u16 x.count,.slice Ax x.words.length cx] fun dl dm dn cB b3=>?_
 have Y:=aE b2 b3
 have cC:=kU (R:=bj true) (x:=(dJ.mk x.file x.record x.count x.words)) cB rfl ⟨_,rfl,(dr.updl hrd Y hJ.hl rfl),aB (by omega),aB (by omega),aB (by omega)⟩
 have b4:=am hJ.ho Y (fun x hx=>(aa (fun e=>(ap (aj S) lr hJ.ho) (e▸hx)) ay)) (bj.updl Y hJ.hl rfl)
 refine ig<|gK (xs:=L) (ys:=([(dJ.mk x.file x.record x.count x.words)])) (.agg #[.int .u16 0,.int .u16 0,.int .u16 0,.slice none 0 0]) 4 32 b4 cC (by simp) bj.ones (fun w' hv=>bj.upd16 hv (bS (c9 _ b4 (by decide)) az)) (by(try simp only[List.length_append,List.length_cons,List.length_nil,aS]);omega) (le (le (le (le hJ.u.size bN.size) bP.size) b1.size) b3.size) fun bT bU dp b5 aC=>tc<|?_
 have bV:=ut (aq.mono (S':=(ob Ar++[])) b3 av) aC (au il av)
 have b7:=aq.blk bV (aM (ap (aj b0) lr hJ.ho) ay) bR
 refine ig<|bO b7 15 (mG 20 0 0 0 0 0 0 0 0 0 0 0 nS nS nS (.slice bT ((L++[(dJ.mk x.file x.record x.count x.words)]).length) bU) 0 0 0 0 0 nS) fun dq cH a3=>ou<|bn<|?_
 have bW:=u1 (aq.mono (S':=(ob Ar++(B :: []))) bV (au il av)) a3 im
 have b9:=aq.blk bW (aM (ap (aj S) lr hJ.ho) (aa (Ne.symm a2) ay)) cA
 refine uo b9 fun ds cI a4=>?_
 have ba:=ut (aq.mono (S':=(I :: (ob Ar++(B :: [])))) Y (ac im av)) (ut (aq.mono (S':=(ob Ar++(B :: (I :: [])))) aC (au il av)) (us a3 a4) (ac im (ac im av))) (au il (ac im (ac im av)))
 have dt:=ut hJ.u (ut (aq.mono (S':=(I :: (ob Ar++(B :: [])))) b2 (ac im av)) bW (au il (ac im av))) (ac im (au (bH hJ.ho lr) (ac im av)))
 have du:=ut hJ.u (ut (aq.mono (S':=(I :: (ob Ar++[]))) Y (ac im av)) aC (au il av)) (ac im (au (bH hJ.ho lr) av))
 exact⟨by trivial,ba.size,bT,bU,⟨(ut hJ.u ba (ac im (au (bH hJ.ho lr) (ac im av)))),(ae.updl (ae.upd (ae.upd (ae.updl hJ.hC Y (aa aw ay) hJ.hl rfl) aC (aM (ap (ae.lt bK) lr hJ.ho) ay) (bS (c9 _ b4 (by decide)) az)) a3 (aa bG ay) (ah (aD b7 (by decide)) az)) a4 (aa aw ay) b9 rfl),(aq.blk ba (aa bJ (aM (ap (aj bL) lr hJ.ho) (aa bI ay))) hJ.hS),(aO a4 a2 cH),(am (am b5 a3 (fun x hx=>(aa (fun e=>(ap (aj b0) lr b5) (e▸hx)) ay)) (bj.upd16 a3 (ah (aD b7 (by decide)) az))) a4 (fun x hx=>(aa (fun e=>(ap (aj S) lr b5) (e▸hx)) ay)) (bj.updl a4 b9 rfl)),cI⟩⟩
 rintro _ cJ ⟨rfl,dv,bX,bY,q⟩
 refine⟨_,_,rfl,q.hl,by simp[cl],by trivial,fun dw bZ=>?_⟩
 refine ab q.hC fun bb c1 cK=>?_
 have cL:cJ.heap[B]? = some (.cells #[.int .u8 20,.int .u8 0,.int .u16 0,.int .u16 0,.int .u16 0,.int .u16 0,.int .u16 0,.int .u16 0,.int .u16 0,.int .u16 0,.int .u16 0,.int .u16 0,.slice none 0 0,.slice none 0 0,.slice none 0 0,.slice bX ((aW cw (ak.mk (x49.bytesR ((ak.mk b false 0).byteV)) false 0).l.length 0 (ak.mk (x49.bytesR ((ak.mk b false 0).byteV)) false 0) []).2.length) bY,.int .u8 0,.int .u8 0,.int .u8 0,.int .u8 0,.int .u8 0,.slice none 0 0] 31 (0,0)):=q.hm
 refine bn<|tn<|sg<|Pl 2<|?_
 have aF:=ae.updl cK bZ (aa aw ay) q.hl rfl
 refine L0<|Oc<|mq (aX aF)<|?_
 have dx:=ae.len aF
 refine Pl 2<|L0<|Oc<|mq (aX aF)<|?_
 have dy:=ae.len aF
 refine L0<|Oc<|m1 (f6 (e:=bb.e)) fun dz cN=>?_
 have F:=aE bZ cN
 have c2:=u1 q.u F im
 have bc:=nb (aj G) ai.size U
 have aH:=ud aN (uz d (u1 i j im)) U
 have bd:=ub (aE ai aH) G
 have be:=ae.upd aP (ut (aq.mono (S':=[z]) ao av) (ut (aq.mono (S':=[O,z,B]) X av) c2 (ac im (ac im (ac im (ac (ni k.size E) av))))) (ac (nr P) (ac im (ac (ni g.size H) av)))) (aa (Ne.symm bc) ay) (ah (aD bd (by decide)) az)
 refine L0<|Oc<|m2 (aK ((bb.e==0)) (da bb.e) be) fun dA cO T=>?_
 refine ab cO fun c3 c4 bg=>?_
 refine ng<|Pl 1<|L0<|Oc<|m2 (bv bg) fun dB c6 a5=>nt<|sq<|sg<|Pl 1<|L0<|Oc<|mq (aX c6)<|?_
 have dC:=ae.len c6
 refine Pl 1<|ng<|Pl 2<|nt<|?_
 have a6:=u1 T a5 im
 have bi:=u1 (aq.mono (S':=[O,z,B,I,a1]) c2 (ac im (ac im (ac im (ac im av))))) a6 im
 have bl:=ut (aq.mono (S':=[z]) aA av) bi (ac (ni aH.size P) (ac im (ac (ni (le (le (le (le (le r.size o.size) d.size) i.size) j.size) g.size) H) (ac (ni (le (le (le (le (le (le (le (le r.size o.size) d.size) i.size) j.size) g.size) p.size) h.size) k.size) E) (ac (nr U) av)))))
 have c7:=ud br bl (le af.size Z)
 refine cb ((c3.endC.e != 0)) (fun a7=>?_) (fun a7=>?_)
 have bm:=ax a7
 refine sg<|Pl 2<|?_
 have c8:=ub (ud a0 bl Z) K
 refine L0<|b6 c8 mZ fun dD cP a8=>Pl 1<|nt<|rt<|tr<|?_
 have ca:=nb (aj K) (le (le (le (le (le (le (le (le (le (le (le N.size v.size) t.size) r.size) o.size) d.size) i.size) j.size) g.size) p.size) h.size) k.size) D
 have cd:=aq.blk (u1 (aq.mono (S':=[O,z,B,I,a1,ad]) bi (ac im (ac im (ac im (ac im (ac im av)))))) a8 im) (aa (Ne.symm (nb (ae.lt Q) (le (le p.size h.size) k.size) D)) (aa (Ne.symm (nb (aj G) (le (le (le (le (le (le (le (le (le (le v.size t.size) r.size) o.size) d.size) i.size) j.size) g.size) p.size) h.size) k.size) D)) (aa (Ne.symm (nb (aj V) (le h.size k.size) D)) (aa bF (aa (Ne.symm (nb (ae.lt M) (le (le (le (le (le (le (le o.size d.size) i.size) j.size) g.size) p.size) h.size) k.size) D)) (aa (Ne.symm ca) ay)))))) ar
 refine ta cd fun dE aI=>?_
 refine rx (aO aI ca cP) (.int .i64 c3.endC.e)<|?_
 subst c4 c1 bx bu
 have ce:=us a8 aI
 have dF:=us F (us a6 ce)
 have dG:=us F (us a6 a8)
 have dH:=ub (ud a0 (ut (aq.mono (S':=[z]) aA av) q.u (ac (ni aH.size P) (ac im (ac (ni (le (le (le (le (le r.size o.size) d.size) i.size) j.size) g.size) H) (ac (ni (le (le (le (le (le (le (le (le r.size o.size) d.size) i.size) j.size) g.size) p.size) h.size) k.size) E) av))))) Z) K
 have dI:=ae.upd aP (ut (aq.mono (S':=[z]) ao av) (ut (aq.mono (S':=[O,z,B]) X av) q.u (ac im (ac im (ac im (ac (ni k.size E) av))))) (ac (nr P) (ac im (ac (ni g.size H) av)))) (aa (Ne.symm bc) ay) (ah (aD bd (by decide)) az)
 have dK:=us F a6
 have dL:=us F T
 have dM:=am (am (am (am (am q.ho F (fun x hx=>(aa (fun e=>(ap (aj S) lr q.ho) (e▸hx)) ay)) (bj.updl F q.hl rfl)) T (fun x hx=>(aa (fun e=>(ap (ae.lt M) (le (le (le (le (le (le (le (le o.size d.size) i.size) j.size) g.size) p.size) h.size) k.size) J.size) q.ho) (e▸hx)) ay)) (bj.upd16 T (ah (ae.safe be _ (by decide)) az))) a5 (fun x hx=>(aa (fun e=>(ap (ae.lt M) (le (le (le (le (le (le (le (le o.size d.size) i.size) j.size) g.size) p.size) h.size) k.size) J.size) q.ho) (e▸hx)) ay)) (bj.upd16 a5 (ah (ae.safe bg _ (by decide)) az))) a8 (fun x hx=>(aa (fun e=>(ap (aj K) (le (le (le (le (le (le (le (le (le (le (le (le N.size v.size) t.size) r.size) o.size) d.size) i.size) j.size) g.size) p.size) h.size) k.size) J.size) q.ho) (e▸hx)) ay)) (bj.upd16 a8 (ah (aD c8 (by decide)) az))) aI (fun x hx=>(aa (fun e=>(ap (aj ar) lr q.ho) (e▸hx)) ay)) (bj.updl aI cd rfl)
 have hs:al aV 1 20 b=aQ (bf.mk 20 0 0 0 0 0 0 0 0 0 0 0 [] [] [] (aW cw (ak.mk ((((ak.mk b false 0).bytesC 1).need (eV ((ak.mk b false 0).byteV)) 5).bytesR ((ak.mk b false 0).byteV)) false 0).l.length 0 (ak.mk ((((ak.mk b false 0).bytesC 1).need (eV ((ak.mk b false 0).byteV)) 5).bytesR ((ak.mk b false 0).byteV)) false 0) []).2 0 0 0 0 0 []) (((((ak.mk b false 0).bytesC 1).need (eV ((ak.mk b false 0).byteV)) 5).bytesC ((ak.mk b false 0).byteV)).need (((aW cw (ak.mk ((((ak.mk b false 0).bytesC 1).need (eV ((ak.mk b false 0).byteV)) 5).bytesR ((ak.mk b false 0).byteV)) false 0).l.length 0 (ak.mk ((((ak.mk b false 0).bytesC 1).need (eV ((ak.mk b false 0).byteV)) 5).bytesR ((ak.mk b false 0).byteV)) false 0) []).1).e==0) (da ((aW cw (ak.mk ((((ak.mk b false 0).bytesC 1).need (eV ((ak.mk b false 0).byteV)) 5).bytesR ((ak.mk b false 0).byteV)) false 0).l.length 0 (ak.mk ((((ak.mk b false 0).bytesC 1).need (eV ((ak.mk b false 0).byteV)) 5).bytesR ((ak.mk b false 0).byteV)) false 0) []).1).e)):=by
   unfold al aV ec qF rO rV
   (try simp only[a7,bs,if_true,if_false,decide_true,decide_false,eq_self,true_or,or_true,or_false,false_or,if_true,if_false,cE,cF,cD,cG,reduceIte,iA,iT,iz])
   all_goals rfl
 rw[hs]
 exact aT bm (ut c7 ce (ac (nr bp) (ac (ni (le (le (le (le (le (le (le (le (le (le (le (le af.size N.size) v.size) t.size) r.size) o.size) d.size) i.size) j.size) g.size) p.size) h.size) k.size) D) av)))
 have bm:=ag a7
 refine bD<|sg<|?_
 have bo:=us F a6
 refine L0<|c5 (aq.blk bo (aa a2 (aa (Ne.symm (nb (ae.lt M) (le (le (le (le o.size d.size) i.size) j.size) g.size) H)) ay)) cL)<|?_
 have cf:=ub (ud a0 bl Z) K
 refine L0<|b6 cf (mG 20 0 0 0 0 0 0 0 0 0 0 0 nS nS nS (.slice bX ((aW cw (ak.mk (x49.bytesR ((ak.mk b false 0).byteV)) false 0).l.length 0 (ak.mk (x49.bytesR ((ak.mk b false 0).byteV)) false 0) []).2.length) bY) 0 0 0 0 0 nS) fun dN cQ a9=>Pl 1<|nt<|rt<|?_
 have cg:=nb (aj K) (le (le (le (le (le (le (le (le (le (le (le N.size v.size) t.size) r.size) o.size) d.size) i.size) j.size) g.size) p.size) h.size) k.size) D
 have ch:=aq.blk (u1 (aq.mono (S':=[O,z,B,I,a1,ad]) bi (ac im (ac im (ac im (ac im (ac im av)))))) a9 im) (aa (Ne.symm (nb (ae.lt Q) (le (le p.size h.size) k.size) D)) (aa (Ne.symm (nb (aj G) (le (le (le (le (le (le (le (le (le (le v.size t.size) r.size) o.size) d.size) i.size) j.size) g.size) p.size) h.size) k.size) D)) (aa (Ne.symm (nb (aj V) (le h.size k.size) D)) (aa bF (aa (Ne.symm (nb (ae.lt M) (le (le (le (le (le (le (le o.size d.size) i.size) j.size) g.size) p.size) h.size) k.size) D)) (aa (Ne.symm cg) ay)))))) ar
 refine ta ch fun dO aJ=>?_
 refine rx (aO aJ cg cQ) (.int .i64 0)<|?_
 subst c4 c1 bx bu
 have ci:=us a9 aJ
 have dP:=ut (aq.mono (S':=[I,a1,ad,cv]) bo (ac im (ac im av))) ci (ac im (ac im av))
 have dQ:=u1 (aq.mono (S':=[I,a1,ad]) bo (ac im (ac im av))) a9 im
 have dR:=ub (ud a0 (ut (aq.mono (S':=[z]) aA av) q.u (ac (ni aH.size P) (ac im (ac (ni (le (le (le (le (le r.size o.size) d.size) i.size) j.size) g.size) H) (ac (ni (le (le (le (le (le (le (le (le r.size o.size) d.size) i.size) j.size) g.size) p.size) h.size) k.size) E) av))))) Z) K
 have dS:=ae.upd aP (ut (aq.mono (S':=[z]) ao av) (ut (aq.mono (S':=[O,z,B]) X av) q.u (ac im (ac im (ac im (ac (ni k.size E) av))))) (ac (nr P) (ac im (ac (ni g.size H) av)))) (aa (Ne.symm bc) ay) (ah (aD bd (by decide)) az)
 have dT:=us F T
 have hs:al aV 1 20 b=aQ (bf.mk 20 0 0 0 0 0 0 0 0 0 0 0 [] [] [] (aW cw (ak.mk ((((ak.mk b false 0).bytesC 1).need (eV ((ak.mk b false 0).byteV)) 5).bytesR ((ak.mk b false 0).byteV)) false 0).l.length 0 (ak.mk ((((ak.mk b false 0).bytesC 1).need (eV ((ak.mk b false 0).byteV)) 5).bytesR ((ak.mk b false 0).byteV)) false 0) []).2 0 0 0 0 0 []) (((((ak.mk b false 0).bytesC 1).need (eV ((ak.mk b false 0).byteV)) 5).bytesC ((ak.mk b false 0).byteV)).need (((aW cw (ak.mk ((((ak.mk b false 0).bytesC 1).need (eV ((ak.mk b false 0).byteV)) 5).bytesR ((ak.mk b false 0).byteV)) false 0).l.length 0 (ak.mk ((((ak.mk b false 0).bytesC 1).need (eV ((ak.mk b false 0).byteV)) 5).bytesR ((ak.mk b false 0).byteV)) false 0) []).1).e==0) (da ((aW cw (ak.mk ((((ak.mk b false 0).bytesC 1).need (eV ((ak.mk b false 0).byteV)) 5).bytesR ((ak.mk b false 0).byteV)) false 0).l.length 0 (ak.mk ((((ak.mk b false 0).bytesC 1).need (eV ((ak.mk b false 0).byteV)) 5).bytesR ((ak.mk b false 0).byteV)) false 0) []).1).e)):=by
   unfold al aV ec qF rO rV
   (try simp only[a7,bs,if_true,if_false,decide_true,decide_false,eq_self,true_or,or_true,or_false,false_or,if_true,if_false,cE,cF,cD,cG,reduceIte,iA,iT,iz])
   all_goals rfl
 rw[hs]
 exact aY bm ⟨_,_,_,_,_,rfl,aG.nil ..,aG.nil ..,aG.nil ..,((am (am (am (am (am q.ho F (fun x hx=>(aa (fun e=>(ap (aj S) lr q.ho) (e▸hx)) ay)) (bj.updl F q.hl rfl)) T (fun x hx=>(aa (fun e=>(ap (ae.lt M) (le (le (le (le (le (le (le (le o.size d.size) i.size) j.size) g.size) p.size) h.size) k.size) J.size) q.ho) (e▸hx)) ay)) (bj.upd16 T (ah (ae.safe be _ (by decide)) az))) a5 (fun x hx=>(aa (fun e=>(ap (ae.lt M) (le (le (le (le (le (le (le (le o.size d.size) i.size) j.size) g.size) p.size) h.size) k.size) J.size) q.ho) (e▸hx)) ay)) (bj.upd16 a5 (ah (ae.safe bg _ (by decide)) az))) a9 (fun x hx=>(aa (fun e=>(ap (aj K) (le (le (le (le (le (le (le (le (le (le (le (le N.size v.size) t.size) r.size) o.size) d.size) i.size) j.size) g.size) p.size) h.size) k.size) J.size) q.ho) (e▸hx)) ay)) (bj.upd16 a9 (ah (aD cf (by decide)) az))) aJ (fun x hx=>(aa (fun e=>(ap (aj ar) lr q.ho) (e▸hx)) ay)) (bj.updl aJ ch rfl))).rd,aG.nil ..,⟨(b8 (x:=20) (by omega)),(b8 (x:=0) (by omega)),(aB (x:=0) (by omega)),(aB (x:=0) (by omega)),(aB (x:=0) (by omega)),(aB (x:=0) (by omega)),(aB (x:=0) (by omega)),(aB (x:=0) (by omega)),(aB (x:=0) (by omega)),(aB (x:=0) (by omega)),(aB (x:=0) (by omega)),(aB (x:=0) (by omega)),(b8 (x:=0) (by omega)),(b8 (x:=0) (by omega)),(b8 (x:=0) (by omega)),(b8 (x:=0) (by omega)),(b8 (x:=0) (by omega))⟩⟩ (ut c7 ci (ac (nr bp) (ac (ni (le (le (le (le (le (le (le (le (le (le (le (le af.size N.size) v.size) t.size) r.size) o.size) d.size) i.size) j.size) g.size) p.size) h.size) k.size) D) av)))
theorem iS{m:Bool}{A:Option Addr}{cp:Nat}{b:List Int}{w:World}{dir:Int}(hd:dir=0∨dir=1)(hsl:aL m w (.slice A b.length cp) b)(hb:b.length≤1048576) :
    Calls Tryz.prog 64 #[.int .i64 dir,.int .u8 21,.slice A b.length cp] w (cM (al aV dir 21 b) w):=by
 have hln:(b.length:Int)≤1048576:=by omega
 have aU:((dir != 0)&&(dir != 1))=false:=by rcases hd with rfl | rfl<;>rfl
 refine t9 77 Tryz.func64 rfl<|sg<|L0<|bz mZ fun ai cZ bu M an=>Pl 1<|nt<|sq<|sg<|Pl 3<|cu 3 [18] 21 (((dir != 0)&&(dir != 1))) (fun K bw=>?_) ?_
 refine bl 18 ((dir != 0)) (fun a0=>?_) (fun a0=>?_)
 have ct:=ax a0
 exact Pl 3<|ce bw (dir != 1) (by rw[a0];rfl)
 have ct:=ag a0
 exact Pl 3<|ce bw false (by rw[a0];rfl)
 refine nt<|cf aU<|bD<|sg<|Pl 2<|L0<|Oc (args:=#[.int .i64 dir,.int .u8 21])<|e3 qs fun z d0 a1 G O=>Pl 3<|L0<|bz #[.nilFunc,.nilFunc] fun d1 d2 cv bx v=>L0<|b6 bx #[.func (.func 129) #[] #[],.func (.func 130) #[] #[]] fun d3 cw t=>Pl 1<|nl<|?_
 refine tn<|sq<|sg<|Pl 2<|nt<|c0<|bD<|sg<|Pl 1<|?_
 have ao:=ud v t cv
 have a2:=aE O ao
 have bB:=aE an a2
 refine L0<|Oc<|e3 (cc (aL.old hsl bB) (by omega)) fun a3 d4 V N r=>Pl 1<|ng<|Pl 1<|L0<|Oc<|m3 (bh N) fun d5 cy o d6=>L0<|Oi ((ak.mk b false 0).byteV)<|Pl 1<|ng<|?_
 refine Pl 2<|?_
 have aZ:=ud r o V
 have bC:=ub aZ cw
 refine L0<|aR bC 0<|Pl 1<|L0<|eD #[] #[] (args:=#[.int .i64 ((ak.mk b false 0).byteV)])<|m1 (kX (n:=(ak.mk b false 0).byteV) (by omega)) fun d7 d=>?_
 refine L0<|Oc<|m2 (aK ((eU ((ak.mk b false 0).byteV))) 5 (ae.old cy d)) fun d8 cz i=>?_
 refine ab cz fun x51 bE bF=>?_
 refine ng<|Pl 2<|L0<|Oc<|nu (bA (n:=(ak.mk b false 0).byteV) bF) fun d9 db dc cA dd de cB j=>?_
 have df:=Nat.le_trans (ak.bytesR_le x51 ((ak.mk b false 0).byteV)) (ae.len bF)
 refine ab cB fun x60 bG b0=>?_
 refine L0<|Oc<|e3 (cc cA (by omega)) fun P dg Q S g=>Pl 1<|ng<|Pl 2<|L0<|bz mZ fun B dh H X p=>L0<|b6 X (mC 21) fun di cC h=>nt<|sq<|sg<|?_
 refine Pl 2<|?_
 have ar:=ud p h H
 have aw:=aE g ar
 have bI:=uz d (u1 i (aE j aw) im)
 refine L0<|aR (aO bI (nb (aj bx) t.size V) bC) 1<|L0<|Oc<|t0 (gS (gb:=P) (f:=.func 130) (x:=#[]) (y:=#[])) fun cH cI dk b1 b2 dl bJ bK k=>nt<|bk<|?_
 refine l5 (f:=131) #[.pointer (some ⟨cH,0,none⟩),.pointer (some ⟨cI,0,none⟩)] fun a ha=>?_
 intro dm cJ I dn D E bL aA T J
 have bM:=nb (ae.lt S) lr H
 have aC:=nb (ae.lt S) (le (le p.size h.size) k.size) E
 have bN:=nb (aj G) (le (le (le (le (le (le (le v.size t.size) r.size) o.size) d.size) i.size) j.size) g.size) H
 have bP:=nb (aj G) (le (le (le (le (le (le (le (le (le (le v.size t.size) r.size) o.size) d.size) i.size) j.size) g.size) p.size) h.size) k.size) E
 have a4:=nb (aj X) (le h.size k.size) E
 have Y:=aE k J
 have bQ:=ae.old S (aE ar Y)
 have aF:=ud aZ (aE bI Y) V
 have bR:=ub (aE ao aF) G
 have b3:=ub Y cC
 refine(sJ (c:=21) bQ bR b3 T (ub J bJ) (ub J bK) (Ne.symm (nb (aj G) (le (le (le (le (le (le v.size t.size) r.size) o.size) d.size) i.size) j.size) Q)) bM aC bN bP a4 (Ne.symm (nb (ae.lt S) ar.size b1)) (Ne.symm (nb (aj G) (le (le (le (le (le (le (le (le (le v.size t.size) r.size) o.size) d.size) i.size) j.size) g.size) p.size) h.size) b1)) (Ne.symm (nb (aj X) h.size b1)) (nb (aj bJ) lr E) (Ne.symm (nb (ae.lt S) ar.size b2)) (Ne.symm (nb (aj G) (le (le (le (le (le (le (le (le (le v.size t.size) r.size) o.size) d.size) i.size) j.size) g.size) p.size) h.size) b2)) (Ne.symm (nb (aj X) h.size b2)) (nb (aj bK) lr E) ?_).mono ?_
 intro W C s L Ar cr x Ax cx hJ hrd hx1 hx2 hx3 hL
 simp only[dj] at hx1 hx2 hx3
 have hm2:W.heap[B]? = some (.cells #[.int .u8 21,.int .u8 0,.int .u16 0,.int .u16 0,.int .u16 0,.int .u16 0,.int .u16 0,.int .u16 0,.int .u16 0,.int .u16 0,.int .u16 0,.int .u16 0,.slice none 0 0,.slice none 0 0,.slice none 0 0,.slice Ar L.length cr,.int .u8 0,.int .u8 0,.int .u8 0,.int .u8 0,.int .u8 0,.slice none 0 0] 31 (0,0)):=hJ.hm
 refine gY hJ.hl ?_
 refine uD ha 53<|tf<|ig<|bz #[.int .u16 0,.int .u16 0,.int .u16 0,.slice none 0 0] fun dp dq bT cK bU=>ig<|b6 cK #[.int .u16 x.file,.int .u16 x.record,.int .u16 x.count,.slice Ax x.words.length cx] fun ds cL bV=>ou<|?_
 have bW:=ud bU bV bT
 refine uw (ub bW hJ.hl) (by trivial) fun dt cN b4=>uQ<|tf<|tc<|?_
 have b5:=uz bW b4
 have bX:=aO b5 a4 hm2
 refine ig<|aR bX 15<|?_
 refine ig<|c5 (aO b4 (Ne.symm (nb (aj T) hJ.u.size bT)) cL)<|ig<|eS (m:=1) (e:=83) #[.int .u16 x.file,.int .u16 x.record,.int .u16 x.count,.slice Ax x.words.length cx] fun du dv dw cO b7=>?_
 have Z:=aE b5 b7
 have cP:=kU (R:=bj true) (x:=(dJ.mk x.file x.record x.count x.words)) cO rfl ⟨_,rfl,(dr.updl hrd Z hJ.hl rfl),aB (by omega),aB (by omega),aB (by omega)⟩
 have b9:=am hJ.ho Z (fun x hx=>(aa (fun e=>(ap (aj T) lr hJ.ho) (e▸hx)) ay)) (bj.updl Z hJ.hl rfl)
 refine ig<|gK (xs:=L) (ys:=([(dJ.mk x.file x.record x.count x.words)])) (.agg #[.int .u16 0,.int .u16 0,.int .u16 0,.slice none 0 0]) 4 32 b9 cP (by simp) bj.ones (fun w' hv=>bj.upd16 hv (bS (c9 _ b9 (by decide)) az)) (by(try simp only[List.length_append,List.length_cons,List.length_nil,aS]);omega) (le (le (le (le hJ.u.size bU.size) bV.size) b4.size) b7.size) fun bY bZ dy ba aH=>tc<|?_
 have c1:=ut (aq.mono (S':=(ob Ar++[])) b7 av) aH (au il av)
 have bb:=aq.blk c1 (aM (ap (aj b3) lr hJ.ho) ay) bX
 refine ig<|bO bb 15 (mG 21 0 0 0 0 0 0 0 0 0 0 0 nS nS nS (.slice bY ((L++[(dJ.mk x.file x.record x.count x.words)]).length) bZ) 0 0 0 0 0 nS) fun dz cQ a5=>ou<|bn<|?_
 have c2:=u1 (aq.mono (S':=(ob Ar++(B :: []))) c1 (au il av)) a5 im
 have bc:=aq.blk c2 (aM (ap (aj T) lr hJ.ho) (aa (Ne.symm a4) ay)) cN
 refine uo bc fun dA cR a6=>?_
 have bd:=ut (aq.mono (S':=(I :: (ob Ar++(B :: [])))) Z (ac im av)) (ut (aq.mono (S':=(ob Ar++(B :: (I :: [])))) aH (au il av)) (us a5 a6) (ac im (ac im av))) (au il (ac im (ac im av)))
 have dB:=ut hJ.u (ut (aq.mono (S':=(I :: (ob Ar++(B :: [])))) b5 (ac im av)) c2 (au il (ac im av))) (ac im (au (bH hJ.ho lr) (ac im av)))
 have dC:=ut hJ.u (ut (aq.mono (S':=(I :: (ob Ar++[]))) Z (ac im av)) aH (au il av)) (ac im (au (bH hJ.ho lr) av))
 exact⟨by trivial,bd.size,bY,bZ,⟨(ut hJ.u bd (ac im (au (bH hJ.ho lr) (ac im av)))),(ae.updl (ae.upd (ae.upd (ae.updl hJ.hC Z (aa aC ay) hJ.hl rfl) aH (aM (ap (ae.lt bQ) lr hJ.ho) ay) (bS (c9 _ b9 (by decide)) az)) a5 (aa bM ay) (ah (aD bb (by decide)) az)) a6 (aa aC ay) bc rfl),(aq.blk bd (aa bP (aM (ap (aj bR) lr hJ.ho) (aa bN ay))) hJ.hS),(aO a6 a4 cQ),(am (am ba a5 (fun x hx=>(aa (fun e=>(ap (aj b3) lr ba) (e▸hx)) ay)) (bj.upd16 a5 (ah (aD bb (by decide)) az))) a6 (fun x hx=>(aa (fun e=>(ap (aj T) lr ba) (e▸hx)) ay)) (bj.updl a6 bc rfl)),cR⟩⟩
 rintro _ cS ⟨rfl,dD,c3,c4,q⟩
 refine⟨_,_,rfl,q.hl,by simp[cl],by trivial,fun dE c6=>?_⟩
 refine ab q.hC fun be c7 cT=>?_
 have cU:cS.heap[B]? = some (.cells #[.int .u8 21,.int .u8 0,.int .u16 0,.int .u16 0,.int .u16 0,.int .u16 0,.int .u16 0,.int .u16 0,.int .u16 0,.int .u16 0,.int .u16 0,.int .u16 0,.slice none 0 0,.slice none 0 0,.slice none 0 0,.slice c3 ((aW dx (ak.mk (x51.bytesR ((ak.mk b false 0).byteV)) false 0).l.length 0 (ak.mk (x51.bytesR ((ak.mk b false 0).byteV)) false 0) []).2.length) c4,.int .u8 0,.int .u8 0,.int .u8 0,.int .u8 0,.int .u8 0,.slice none 0 0] 31 (0,0)):=q.hm
 refine bn<|tn<|sg<|Pl 2<|?_
 have aI:=ae.updl cT c6 (aa aC ay) q.hl rfl
 refine L0<|Oc<|mq (aX aI)<|?_
 have dF:=ae.len aI
 refine Pl 2<|L0<|Oc<|mq (aX aI)<|?_
 have dG:=ae.len aI
 refine L0<|Oc<|m1 (f6 (e:=be.e)) fun dH cV=>?_
 have F:=aE c6 cV
 have c8:=u1 q.u F im
 have bg:=nb (aj G) ao.size V
 have aJ:=ud aZ (uz d (u1 i j im)) V
 have bi:=ub (aE ao aJ) G
 have bm:=ae.upd b0 (ut (aq.mono (S':=[z]) aw av) (ut (aq.mono (S':=[P,z,B]) Y av) c8 (ac im (ac im (ac im (ac (ni k.size E) av))))) (ac (nr Q) (ac im (ac (ni g.size H) av)))) (aa (Ne.symm bg) ay) (ah (aD bi (by decide)) az)
 refine L0<|Oc<|m2 (aK ((be.e==0)) (da be.e) bm) fun dI cW U=>?_
 refine ab cW fun ca cd bo=>?_
 refine ng<|Pl 1<|L0<|Oc<|m2 (bv bo) fun dK cg a7=>nt<|sq<|sg<|Pl 1<|L0<|Oc<|mq (aX cg)<|?_
 have dL:=ae.len cg
 refine Pl 1<|ng<|Pl 2<|nt<|?_
 have a8:=u1 U a7 im
 have bp:=u1 (aq.mono (S':=[P,z,B,I,a3]) c8 (ac im (ac im (ac im (ac im av))))) a8 im
 have bq:=ut (aq.mono (S':=[z]) aF av) bp (ac (ni aJ.size Q) (ac im (ac (ni (le (le (le (le (le r.size o.size) d.size) i.size) j.size) g.size) H) (ac (ni (le (le (le (le (le (le (le (le r.size o.size) d.size) i.size) j.size) g.size) p.size) h.size) k.size) E) (ac (nr V) av)))))
 have ch:=ud bB bq (le an.size a1)
 refine cb ((ca.endC.e != 0)) (fun a9=>?_) (fun a9=>?_)
 have br:=ax a9
 refine sg<|Pl 2<|?_
 have ci:=ub (ud a2 bq a1) M
 refine L0<|b6 ci mZ fun dM cX ad=>Pl 1<|nt<|rt<|tr<|?_
 have cj:=nb (aj M) (le (le (le (le (le (le (le (le (le (le (le O.size v.size) t.size) r.size) o.size) d.size) i.size) j.size) g.size) p.size) h.size) k.size) D
 have ck:=aq.blk (u1 (aq.mono (S':=[P,z,B,I,a3,ai]) bp (ac im (ac im (ac im (ac im (ac im av)))))) ad im) (aa (Ne.symm (nb (ae.lt S) (le (le p.size h.size) k.size) D)) (aa (Ne.symm (nb (aj G) (le (le (le (le (le (le (le (le (le (le v.size t.size) r.size) o.size) d.size) i.size) j.size) g.size) p.size) h.size) k.size) D)) (aa (Ne.symm (nb (aj X) (le h.size k.size) D)) (aa bL (aa (Ne.symm (nb (ae.lt N) (le (le (le (le (le (le (le o.size d.size) i.size) j.size) g.size) p.size) h.size) k.size) D)) (aa (Ne.symm cj) ay)))))) aA
 refine ta ck fun dN aN=>?_
 refine rx (aO aN cj cX) (.int .i64 ca.endC.e)<|?_
 subst cd c7 bG bE
 have cm:=us ad aN
 have dO:=us F (us a8 cm)
 have dP:=us F (us a8 ad)
 have dQ:=ub (ud a2 (ut (aq.mono (S':=[z]) aF av) q.u (ac (ni aJ.size Q) (ac im (ac (ni (le (le (le (le (le r.size o.size) d.size) i.size) j.size) g.size) H) (ac (ni (le (le (le (le (le (le (le (le r.size o.size) d.size) i.size) j.size) g.size) p.size) h.size) k.size) E) av))))) a1) M
 have dR:=ae.upd b0 (ut (aq.mono (S':=[z]) aw av) (ut (aq.mono (S':=[P,z,B]) Y av) q.u (ac im (ac im (ac im (ac (ni k.size E) av))))) (ac (nr Q) (ac im (ac (ni g.size H) av)))) (aa (Ne.symm bg) ay) (ah (aD bi (by decide)) az)
 have dS:=us F a8
 have dT:=us F U
 have dU:=am (am (am (am (am q.ho F (fun x hx=>(aa (fun e=>(ap (aj T) lr q.ho) (e▸hx)) ay)) (bj.updl F q.hl rfl)) U (fun x hx=>(aa (fun e=>(ap (ae.lt N) (le (le (le (le (le (le (le (le o.size d.size) i.size) j.size) g.size) p.size) h.size) k.size) J.size) q.ho) (e▸hx)) ay)) (bj.upd16 U (ah (ae.safe bm _ (by decide)) az))) a7 (fun x hx=>(aa (fun e=>(ap (ae.lt N) (le (le (le (le (le (le (le (le o.size d.size) i.size) j.size) g.size) p.size) h.size) k.size) J.size) q.ho) (e▸hx)) ay)) (bj.upd16 a7 (ah (ae.safe bo _ (by decide)) az))) ad (fun x hx=>(aa (fun e=>(ap (aj M) (le (le (le (le (le (le (le (le (le (le (le (le O.size v.size) t.size) r.size) o.size) d.size) i.size) j.size) g.size) p.size) h.size) k.size) J.size) q.ho) (e▸hx)) ay)) (bj.upd16 ad (ah (aD ci (by decide)) az))) aN (fun x hx=>(aa (fun e=>(ap (aj aA) lr q.ho) (e▸hx)) ay)) (bj.updl aN ck rfl)
 have hs:al aV dir 21 b=aQ (bf.mk 21 0 0 0 0 0 0 0 0 0 0 0 [] [] [] (aW dx (ak.mk ((((ak.mk b false 0).bytesC 1).need (eU ((ak.mk b false 0).byteV)) 5).bytesR ((ak.mk b false 0).byteV)) false 0).l.length 0 (ak.mk ((((ak.mk b false 0).bytesC 1).need (eU ((ak.mk b false 0).byteV)) 5).bytesR ((ak.mk b false 0).byteV)) false 0) []).2 0 0 0 0 0 []) (((((ak.mk b false 0).bytesC 1).need (eU ((ak.mk b false 0).byteV)) 5).bytesC ((ak.mk b false 0).byteV)).need (((aW dx (ak.mk ((((ak.mk b false 0).bytesC 1).need (eU ((ak.mk b false 0).byteV)) 5).bytesR ((ak.mk b false 0).byteV)) false 0).l.length 0 (ak.mk ((((ak.mk b false 0).bytesC 1).need (eU ((ak.mk b false 0).byteV)) 5).bytesR ((ak.mk b false 0).byteV)) false 0) []).1).e==0) (da ((aW dx (ak.mk ((((ak.mk b false 0).bytesC 1).need (eU ((ak.mk b false 0).byteV)) 5).bytesR ((ak.mk b false 0).byteV)) false 0).l.length 0 (ak.mk ((((ak.mk b false 0).bytesC 1).need (eU ((ak.mk b false 0).byteV)) 5).bytesR ((ak.mk b false 0).byteV)) false 0) []).1).e)):=by
   unfold al aV ec qF rO rV
   (try simp only[aU,a9,bs,if_true,if_false,decide_true,decide_false,eq_self,true_or,or_true,or_false,false_or,if_true,if_false,cE,cF,cD,cG,reduceIte,iA,iT,iz,if_pos hd])
   all_goals rfl
 rw[hs]
 exact aT br (ut ch cm (ac (nr bu) (ac (ni (le (le (le (le (le (le (le (le (le (le (le (le an.size O.size) v.size) t.size) r.size) o.size) d.size) i.size) j.size) g.size) p.size) h.size) k.size) D) av)))
 have br:=ag a9
 refine bD<|sg<|?_
 have bt:=us F a8
 refine L0<|c5 (aq.blk bt (aa a4 (aa (Ne.symm (nb (ae.lt N) (le (le (le (le o.size d.size) i.size) j.size) g.size) H)) ay)) cU)<|?_
 have cn:=ub (ud a2 bq a1) M
 refine L0<|b6 cn (mG 21 0 0 0 0 0 0 0 0 0 0 0 nS nS nS (.slice c3 ((aW dx (ak.mk (x51.bytesR ((ak.mk b false 0).byteV)) false 0).l.length 0 (ak.mk (x51.bytesR ((ak.mk b false 0).byteV)) false 0) []).2.length) c4) 0 0 0 0 0 nS) fun dV cY af=>Pl 1<|nt<|rt<|?_
 have co:=nb (aj M) (le (le (le (le (le (le (le (le (le (le (le O.size v.size) t.size) r.size) o.size) d.size) i.size) j.size) g.size) p.size) h.size) k.size) D
 have cq:=aq.blk (u1 (aq.mono (S':=[P,z,B,I,a3,ai]) bp (ac im (ac im (ac im (ac im (ac im av)))))) af im) (aa (Ne.symm (nb (ae.lt S) (le (le p.size h.size) k.size) D)) (aa (Ne.symm (nb (aj G) (le (le (le (le (le (le (le (le (le (le v.size t.size) r.size) o.size) d.size) i.size) j.size) g.size) p.size) h.size) k.size) D)) (aa (Ne.symm (nb (aj X) (le h.size k.size) D)) (aa bL (aa (Ne.symm (nb (ae.lt N) (le (le (le (le (le (le (le o.size d.size) i.size) j.size) g.size) p.size) h.size) k.size) D)) (aa (Ne.symm co) ay)))))) aA
 refine ta cq fun dW aP=>?_
 refine rx (aO aP co cY) (.int .i64 0)<|?_
 subst cd c7 bG bE
 have cs:=us af aP
 have dX:=ut (aq.mono (S':=[I,a3,ai,cJ]) bt (ac im (ac im av))) cs (ac im (ac im av))
 have dY:=u1 (aq.mono (S':=[I,a3,ai]) bt (ac im (ac im av))) af im
 have dZ:=ub (ud a2 (ut (aq.mono (S':=[z]) aF av) q.u (ac (ni aJ.size Q) (ac im (ac (ni (le (le (le (le (le r.size o.size) d.size) i.size) j.size) g.size) H) (ac (ni (le (le (le (le (le (le (le (le r.size o.size) d.size) i.size) j.size) g.size) p.size) h.size) k.size) E) av))))) a1) M
 have e0:=ae.upd b0 (ut (aq.mono (S':=[z]) aw av) (ut (aq.mono (S':=[P,z,B]) Y av) q.u (ac im (ac im (ac im (ac (ni k.size E) av))))) (ac (nr Q) (ac im (ac (ni g.size H) av)))) (aa (Ne.symm bg) ay) (ah (aD bi (by decide)) az)
 have e1:=us F U
 have hs:al aV dir 21 b=aQ (bf.mk 21 0 0 0 0 0 0 0 0 0 0 0 [] [] [] (aW dx (ak.mk ((((ak.mk b false 0).bytesC 1).need (eU ((ak.mk b false 0).byteV)) 5).bytesR ((ak.mk b false 0).byteV)) false 0).l.length 0 (ak.mk ((((ak.mk b false 0).bytesC 1).need (eU ((ak.mk b false 0).byteV)) 5).bytesR ((ak.mk b false 0).byteV)) false 0) []).2 0 0 0 0 0 []) (((((ak.mk b false 0).bytesC 1).need (eU ((ak.mk b false 0).byteV)) 5).bytesC ((ak.mk b false 0).byteV)).need (((aW dx (ak.mk ((((ak.mk b false 0).bytesC 1).need (eU ((ak.mk b false 0).byteV)) 5).bytesR ((ak.mk b false 0).byteV)) false 0).l.length 0 (ak.mk ((((ak.mk b false 0).bytesC 1).need (eU ((ak.mk b false 0).byteV)) 5).bytesR ((ak.mk b false 0).byteV)) false 0) []).1).e==0) (da ((aW dx (ak.mk ((((ak.mk b false 0).bytesC 1).need (eU ((ak.mk b false 0).byteV)) 5).bytesR ((ak.mk b false 0).byteV)) false 0).l.length 0 (ak.mk ((((ak.mk b false 0).bytesC 1).need (eU ((ak.mk b false 0).byteV)) 5).bytesR ((ak.mk b false 0).byteV)) false 0) []).1).e)):=by
   unfold al aV ec qF rO rV
   (try simp only[aU,a9,bs,if_true,if_false,decide_true,decide_false,eq_self,true_or,or_true,or_false,false_or,if_true,if_false,cE,cF,cD,cG,reduceIte,iA,iT,iz,if_pos hd])
   all_goals rfl
 rw[hs]
 exact aY br ⟨_,_,_,_,_,rfl,aG.nil ..,aG.nil ..,aG.nil ..,((am (am (am (am (am q.ho F (fun x hx=>(aa (fun e=>(ap (aj T) lr q.ho) (e▸hx)) ay)) (bj.updl F q.hl rfl)) U (fun x hx=>(aa (fun e=>(ap (ae.lt N) (le (le (le (le (le (le (le (le o.size d.size) i.size) j.size) g.size) p.size) h.size) k.size) J.size) q.ho) (e▸hx)) ay)) (bj.upd16 U (ah (ae.safe bm _ (by decide)) az))) a7 (fun x hx=>(aa (fun e=>(ap (ae.lt N) (le (le (le (le (le (le (le (le o.size d.size) i.size) j.size) g.size) p.size) h.size) k.size) J.size) q.ho) (e▸hx)) ay)) (bj.upd16 a7 (ah (ae.safe bo _ (by decide)) az))) af (fun x hx=>(aa (fun e=>(ap (aj M) (le (le (le (le (le (le (le (le (le (le (le (le O.size v.size) t.size) r.size) o.size) d.size) i.size) j.size) g.size) p.size) h.size) k.size) J.size) q.ho) (e▸hx)) ay)) (bj.upd16 af (ah (aD cn (by decide)) az))) aP (fun x hx=>(aa (fun e=>(ap (aj aA) lr q.ho) (e▸hx)) ay)) (bj.updl aP cq rfl))).rd,aG.nil ..,⟨(b8 (x:=21) (by omega)),(b8 (x:=0) (by omega)),(aB (x:=0) (by omega)),(aB (x:=0) (by omega)),(aB (x:=0) (by omega)),(aB (x:=0) (by omega)),(aB (x:=0) (by omega)),(aB (x:=0) (by omega)),(aB (x:=0) (by omega)),(aB (x:=0) (by omega)),(aB (x:=0) (by omega)),(aB (x:=0) (by omega)),(b8 (x:=0) (by omega)),(b8 (x:=0) (by omega)),(b8 (x:=0) (by omega)),(b8 (x:=0) (by omega)),(b8 (x:=0) (by omega))⟩⟩ (ut ch cs (ac (nr bu) (ac (ni (le (le (le (le (le (le (le (le (le (le (le (le an.size O.size) v.size) t.size) r.size) o.size) d.size) i.size) j.size) g.size) p.size) h.size) k.size) D) av)))
theorem o5{A:Option Addr}{cp:Nat}{b:List Int}{w:World}{c:Int}(n1:(c==20)=false)(n2:(c==21)=false) : Calls Tryz.prog 64 #[.int .i64 0,.int .u8 c,.slice A b.length cp] w (cM (al aV 0 c b) w):=by
 refine t9 77 Tryz.func64 rfl<|sg<|L0<|bz mZ fun n o d e f=>Pl 1<|nt<|sq<|sg<|Pl 6<|nt<|c0<|?_
 refine bD<|sg<|Pl 2<|L0<|Oc (args:=#[.int .i64 0,.int .u8 c])<|m1 (jZ (dir:=0) (x:=c) n1 n2) fun p g=>Pl 3<|L0<|bz #[.nilFunc,.nilFunc] fun q r h i j=>L0<|b6 i #[.nilFunc,.nilFunc] fun s t k=>Pl 1<|nt<|sq<|sq<|?_
 refine go<|Pl 2<|nt<|c1<|sg<|Pl 1<|?_
 have a:=aE g (ud j k h)
 refine L0<|b6 (ub a e) mZ fun u l m=>Pl 1<|nt<|rt<|tr<|ry l (.int .i64 4)<|?_
 have hs:al aV 0 c b=(bf.zero,4):=by
   unfold al aV
   (try simp only[bs,if_true,if_false,decide_true,decide_false,eq_self,true_or,or_true,or_false,false_or,if_true,if_false,cE,cF,cD,cG,reduceIte,n1,n2])
   all_goals rfl
 rw[hs]
 exact bC (ud f (uz a m) d)
theorem nc{A:Option Addr}{cp:Nat}{b:List Int}{w:World}{c:Int}(n1:(c==20)=false)(n2:(c==21)=false) : Calls Tryz.prog 64 #[.int .i64 1,.int .u8 c,.slice A b.length cp] w (cM (al aV 1 c b) w):=by
 refine t9 77 Tryz.func64 rfl<|sg<|L0<|bz mZ fun n o d e f=>Pl 1<|nt<|sq<|sg<|Pl 6<|nt<|c0<|?_
 refine bD<|sg<|Pl 2<|L0<|Oc (args:=#[.int .i64 1,.int .u8 c])<|m1 (jZ (dir:=1) (x:=c) n1 n2) fun p g=>Pl 3<|L0<|bz #[.nilFunc,.nilFunc] fun q r h i j=>L0<|b6 i #[.nilFunc,.nilFunc] fun s t k=>Pl 1<|nt<|sq<|sq<|?_
 refine go<|Pl 2<|nt<|c1<|sg<|Pl 1<|?_
 have a:=aE g (ud j k h)
 refine L0<|b6 (ub a e) mZ fun u l m=>Pl 1<|nt<|rt<|tr<|ry l (.int .i64 4)<|?_
 have hs:al aV 1 c b=(bf.zero,4):=by
   unfold al aV
   (try simp only[bs,if_true,if_false,decide_true,decide_false,eq_self,true_or,or_true,or_false,false_or,if_true,if_false,cE,cF,cD,cG,reduceIte,n1,n2])
   all_goals rfl
 rw[hs]
 exact bC (ud f (uz a m) d)
theorem na{A:Option Addr}{cp:Nat}{b:List Int}{w:World}{dir c:Int}(hd:¬ (dir=0∨dir=1)) : Calls Tryz.prog 64 #[.int .i64 dir,.int .u8 c,.slice A b.length cp] w (cM (al aV dir c b) w):=by
 have e0:(dir != 0)=true:=by simp;omega
 have e1:(dir != 1)=true:=by simp;omega
 refine t9 77 Tryz.func64 rfl<|sg<|L0<|bz mZ fun g h a d e=>Pl 1<|nt<|sq<|sg<|Pl 3<|sy 18 e0<|Pl 3<|nl<|?_
 refine tn<|ct e1<|sg<|Pl 1<|L0<|b6 d mZ fun i dj f=>Pl 1<|nt<|rt<|tr<|ry dj (.int .i64 1)<|?_
 have hs:al aV dir c b=(bf.zero,1):=by
   unfold al aV
   (try simp only[e0,e1,bs,if_true,if_false,decide_true,decide_false,eq_self,true_or,or_true,or_false,false_or,if_true,if_false,cE,cF,cD,cG,reduceIte,hd])
   all_goals rfl
 rw[hs]
 exact bC (ud e f a)
theorem jG{m:Bool}{v:Value}{b:List Int}{w:World}{dir c:Int}(hc:B8 c)(h:aL m w v b)(hb:b.length≤1048576) :
    Calls Tryz.prog 64 #[.int .i64 dir,.int .u8 c,v] w (cM (al aV dir c b) w):=by
  obtain⟨A,cp,rfl,_,_⟩:=h.shape
  by_cases h0:dir=0
  · subst h0
    by_cases a:c=20
    · subst a;exact kJ (Or.inl (rfl:(0:Int)=0)) h hb
    by_cases d:c=21
    · subst d;exact iS (Or.inl rfl) h hb
    exact o5 (by simpa using a) (by simpa using d)
  by_cases h1:dir=1
  · subst h1
    by_cases a:c=20
    · subst a;exact kK (Or.inl (rfl:(0:Int)=0)) h hb
    by_cases d:c=21
    · subst d;exact iS (Or.inr rfl) h hb
    exact nc (by simpa using a) (by simpa using d)
  exact na (by omega)
open Go.RowKit
open Go.RowKit
open Go.RowKit
open Go.RowKit
open Go.RowKit
open Go.RowKit
open Go.RowKit
open Go.RowKit
open Go.RowKit
theorem eW{x y:bf × Int}(h:x=y){w:World}{e:Ending}{w':World}(k:cM y w e w') : cM x w e w':=by rw[h];exact k
def gO:Nat→Int→List Int→bf × Int
  | 1,dir,b=>al aJ dir (b.getD 0 0) (b.drop 1)
  | 2,dir,b=>al bE dir (b.getD 0 0) (b.drop 1)
  | 3,dir,b=>al aI dir (b.getD 0 0) (b.drop 1)
  | 4,dir,b=>al aV dir (b.getD 0 0) (b.drop 1)
  | 5,dir,b=>al bq dir (b.getD 0 0) (b.drop 1)
  | _,_,_=>(bf.zero,4)
def cj (dir:Int)(b:List Int) : bf × Int :=
  if dir != 0&&dir != 1 then (bf.zero,1)
  else if (b.length:Int)==0 then (bf.zero,2)
  else if decide (253<(b.length:Int)) then (bf.zero,3)
  else if decide (128≤b.getD 0 0)&&dir==1 then e6 b
  else gO (j1 (b.getD 0 0)) dir b
theorem mc{m:Bool}{A:Option Addr}{cp:Nat}{b:List Int}{w:World}{dir:Int}(hsl:aL m w (.slice A b.length cp) b)(hb:b.length≤1048576) :
    Calls Tryz.prog 162 #[.int .i64 dir,.slice A b.length cp] w (cM (cj dir b) w):=by
 have hln:(b.length:Int)≤1048576:=by omega
 refine en 60 Tryz.func162 rfl<|sg<|L0<|bz mZ fun dm t h a f=>Pl 1<|nt<|sq<|bk<|sg<|Pl 3<|cu 3 [11] 14 (((dir != 0)&&(dir != 1))) (fun K a2=>?_) ?_
 refine bl 11 ((dir != 0)) (fun u=>?_) (fun u=>?_)
 have bZ:=ax u
 exact Pl 3<|ce a2 (dir != 1) (by rw[u];rfl)
 have bZ:=ag u
 exact Pl 3<|ce a2 false (by rw[u];rfl)
 refine Pl 1<|nt<|cb (((dir != 0)&&(dir != 1))) (fun d=>?_) (fun d=>?_)
 have a3:=(bM d).1
 have a4:=(bM d).2
 have dn:=ax a3
 have dp:=ax a4
 refine sg<|Pl 1<|L0<|b6 a mZ fun dq c2 c3=>Pl 1<|nt<|rt<|br<|tr<|c7 c2 (.int .i64 1)<|?_
 have hs:cj dir b=(bf.zero,1):=by
   unfold cj
   (try simp only[d,a3,a4,bs,if_true,if_false,decide_true,decide_false,gO,reduceIte])
   all_goals rfl
 refine eW hs ?_
 exact bC (ud f c3 h)
 refine sg<|Pl 4<|nt<|cb ((((b.length:Nat) : Int)==0)) (fun e=>?_) (fun e=>?_)
 have c4:=aA e
 refine sg<|Pl 1<|L0<|b6 a mZ fun dr c5 c6=>Pl 1<|nt<|rt<|br<|tr<|c7 c5 (.int .i64 2)<|?_
 have hs:cj dir b=(bf.zero,2):=by
   unfold cj
   (try simp only[d,e,bs,if_true,if_false,decide_true,decide_false,gO,reduceIte])
   all_goals rfl
 refine eW hs ?_
 exact bC (ud f c6 h)
 have c4:=aH e
 refine sg<|Pl 4<|nt<|cb ((decide (253<((b.length:Nat) : Int)))) (fun g=>?_) (fun g=>?_)
 have c8:=of_decide_eq_true g
 refine sg<|Pl 1<|L0<|b6 a mZ fun ds c9 ca=>Pl 1<|nt<|rt<|br<|tr<|c7 c9 (.int .i64 3)<|?_
 have hs:cj dir b=(bf.zero,3):=by
   unfold cj
   (try simp only[d,e,g,bs,if_true,if_false,decide_true,decide_false,gO,reduceIte])
   all_goals rfl
 refine eW hs ?_
 exact bC (ud f ca h)
 have c8:=of_decide_eq_false g
 refine sg<|Pl 1<|?_
 have s:=aL.old hsl f
 refine fA (aL.at_ s 0 (by omega)) fun a5 a6 a7 a8 dt=>L0<|nh b.length 0 a7 (by omega)<|L0<|iX (p:=⟨a5,a6+0,none⟩) (v:=.int .u8 (b.getD 0 0)) a8<|Pl 2<|cu 3 [31] 34 (((decide (128≤(b.getD 0 0)))&&(dir==1))) (fun K a9=>?_) ?_
 refine bl 31 ((decide (128≤(b.getD 0 0)))) (fun y=>?_) (fun y=>?_)
 have cc:=of_decide_eq_true y
 exact Pl 3<|ce a9 (dir==1) (by rw[y];rfl)
 have cc:=of_decide_eq_false y
 exact Pl 3<|ce a9 false (by rw[y];rfl)
 refine Pl 1<|nt<|cb (((decide (128≤(b.getD 0 0)))&&(dir==1))) (fun i=>?_) (fun i=>?_)
 have aa:=(bM i).1
 have ab:=(bM i).2
 have du:=of_decide_eq_true aa
 have dv:=aA ab
 refine sg<|Pl 1<|L0<|Oc<|e2 (nA s (by omega)) fun cd dw z ac=>Pl 2<|?_
 have ad:=ub ac a
 refine L0<|b6 (hz:=(by rw[z.size];exact aP)) (hv:=z.size) (h1:=z.one) ad (cd) fun dx cf ae=>Pl 1<|nt<|rt<|br<|tr<|dB 22 z.size cf (.int .i64 (((e6 b)).2))<|?_
 have hs:cj dir b=(e6 b):=by
   unfold cj
   (try simp only[d,e,g,i,aa,ab,bs,if_true,if_false,decide_true,decide_false,gO,reduceIte])
   all_goals rfl
 refine eW hs ?_
 exact⟨_,rfl,(aU.upd z ae (ah (aD ad (by decide)) az)),(ud f (uz ac ae) h)⟩
 refine sk<|bn<|tn<|sg<|Pl 1<|L0<|nh b.length 0 a7 (by omega)<|L0<|iX (p:=⟨a5,a6+0,none⟩) (v:=.int .u8 (b.getD 0 0)) a8<|?_
 rcases iW (b.getD 0 0) with⟨hk,hkf⟩|⟨hk,hkf⟩|⟨hk,hkf⟩|⟨hk,hkf⟩|⟨hk,hkf⟩|⟨hk,hkf⟩
 have af:=fR (x:=(b.getD 0 0)) (w:=t)
 rw[hkf] at af
 refine L0<|Oc<|m1 af fun dy ak=>Pl 3<|L0<|bz #[.nilFunc,.nilFunc] fun cg dA am ch ci=>L0<|b6 ch #[.func (.func 58) #[] #[],.func (.func 59) #[] #[]] fun dC ck cl=>Pl 1<|nt<|sq<|sg<|Pl 2<|nt<|c0<|?_
 refine bD<|sq<|?_
 have an:=aE ak (ud ci cl am)
 have ao:=aL.old s an
 refine fA (aL.at_ ao 0 (by omega)) fun cm cn ap aq dD=>Rg 13 (fun w'=>w'.cell? ⟨cg,0,none⟩=some (.func (.func 58) #[] #[])∧w'.cell? ⟨cm,cn+0,none⟩=some (.int .u8 (b.getD 0 0))) fun dE M=>?_
 have ar:=ub M ck
 refine b9 ⟨(ai ar rfl),(uc M aq)⟩ fun j=>Rt 0 j<|Rl 1 j (fun _ hs=>hs.1)<|Rt 2 j<|Rt 3 j<|lN 4 j b.length 0 0 rfl ap (by omega)<|Rl 5 j (fun _ hs=>hs.2)<|Rt 6 j<|kV (dz (P:=Tryz.prog) 27 5 1 Tryz.underlying27 rfl rfl A b.length cp 1 (by omega)) fun au hrun108 co=>Rr 7 j (.slice au (b.length-1) (cp-1)) (fun _ _=>cV (kl:=.i64) (k:=((1:Nat) : Int)) (A:=A) (n:=b.length) (c:=cp) rfl Tryz.underlying27 (by kernel_rfl) (by kernel_rfl) (hrun108 _ _))<|?_
 refine R0 8 rfl<|eD #[] #[] (args:=#[.int .i64 dir,.int .u8 (b.getD 0 0),.slice au (b.length-1) (cp-1)])<|e2 (jM (dir:=dir) (c:=(b.getD 0 0)) (b8 (by omega)) (co _ _ _ _ _ (aL.old ao M)) (by(try simp only[List.length_drop]);omega)) fun cq dF B S=>?_
 have av:=ub S ar
 have T:=aE M S
 refine b9 ⟨(ai av rfl),(uc T aq)⟩ fun aw=>Rt 9 aw<|Rt 10 aw<|?_
 have ay:=aE an T
 have aB:=ub ay a
 refine R0 11 rfl<|b6 (hz:=(by rw[B.size];exact aP)) (hv:=B.size) (h1:=B.one) aB (cq) fun dG cr C=>?_
 have dH:=uz T C
 have dI:=uz S C
 have aC:=ud f (uz ay C) h
 refine b9 ⟨(ai (aO C (Ne.symm (nb (aj a) ak.size am)) av) rfl),(cB (aL.old hsl aC) ap 0 (by omega))⟩ fun cs=>Rt 12 cs<|re<|tn<|rt<|dB 22 B.size cr (.int .i64 (((al aJ dir (b.getD 0 0) (b.drop 1))).2))<|?_
 have hs:cj dir b=(al aJ dir (b.getD 0 0) (b.drop 1)):=by
   unfold cj
   (try simp only[d,e,g,i,bs,if_true,if_false,decide_true,decide_false,hkf,gO,reduceIte])
   all_goals rfl
 refine eW hs ?_
 exact⟨_,rfl,(aU.upd B C (ah (aD aB (by decide)) az)),aC⟩
 have aF:=fR (x:=(b.getD 0 0)) (w:=t)
 rw[hkf] at aF
 refine L0<|Oc<|m1 aF fun dJ aG=>Pl 3<|L0<|bz #[.nilFunc,.nilFunc] fun ct dK aK cv cw=>L0<|b6 cv #[.func (.func 60) #[] #[],.func (.func 61) #[] #[]] fun dL cx cy=>Pl 1<|nt<|sq<|sg<|Pl 2<|nt<|c0<|?_
 refine bD<|sq<|?_
 have aM:=aE aG (ud cw cy aK)
 have aN:=aL.old s aM
 refine fA (aL.at_ aN 0 (by omega)) fun cz cA aQ aR dM=>Rg 13 (fun w'=>w'.cell? ⟨ct,0,none⟩=some (.func (.func 60) #[] #[])∧w'.cell? ⟨cz,cA+0,none⟩=some (.int .u8 (b.getD 0 0))) fun dN N=>?_
 have aS:=ub N cx
 refine b9 ⟨(ai aS rfl),(uc N aR)⟩ fun l=>Rt 0 l<|Rl 1 l (fun _ hs=>hs.1)<|Rt 2 l<|Rt 3 l<|lN 4 l b.length 0 0 rfl aQ (by omega)<|Rl 5 l (fun _ hs=>hs.2)<|Rt 6 l<|kV (dz (P:=Tryz.prog) 27 5 1 Tryz.underlying27 rfl rfl A b.length cp 1 (by omega)) fun aT hrun188 cC=>Rr 7 l (.slice aT (b.length-1) (cp-1)) (fun _ _=>cV (kl:=.i64) (k:=((1:Nat) : Int)) (A:=A) (n:=b.length) (c:=cp) rfl Tryz.underlying27 (by kernel_rfl) (by kernel_rfl) (hrun188 _ _))<|?_
 refine R0 8 rfl<|eD #[] #[] (args:=#[.int .i64 dir,.int .u8 (b.getD 0 0),.slice aT (b.length-1) (cp-1)])<|e2 (lE (dir:=dir) (c:=(b.getD 0 0)) (b8 (by omega)) (cC _ _ _ _ _ (aL.old aN N)) (by(try simp only[List.length_drop]);omega)) fun cD dO D U=>?_
 have aW:=ub U aS
 have V:=aE N U
 refine b9 ⟨(ai aW rfl),(uc V aR)⟩ fun aX=>Rt 9 aX<|Rt 10 aX<|?_
 have aY:=aE aM V
 have aZ:=ub aY a
 refine R0 11 rfl<|b6 (hz:=(by rw[D.size];exact aP)) (hv:=D.size) (h1:=D.one) aZ (cD) fun dP cE E=>?_
 have dQ:=uz V E
 have dR:=uz U E
 have b0:=ud f (uz aY E) h
 refine b9 ⟨(ai (aO E (Ne.symm (nb (aj a) aG.size aK)) aW) rfl),(cB (aL.old hsl b0) aQ 0 (by omega))⟩ fun cF=>Rt 12 cF<|re<|tn<|rt<|dB 22 D.size cE (.int .i64 (((al bE dir (b.getD 0 0) (b.drop 1))).2))<|?_
 have hs:cj dir b=(al bE dir (b.getD 0 0) (b.drop 1)):=by
   unfold cj
   (try simp only[d,e,g,i,bs,if_true,if_false,decide_true,decide_false,hkf,gO,reduceIte])
   all_goals rfl
 refine eW hs ?_
 exact⟨_,rfl,(aU.upd D E (ah (aD aZ (by decide)) az)),b0⟩
 have b1:=fR (x:=(b.getD 0 0)) (w:=t)
 rw[hkf] at b1
 refine L0<|Oc<|m1 b1 fun dS b2=>Pl 3<|L0<|bz #[.nilFunc,.nilFunc] fun cG dT b3 cH cI=>L0<|b6 cH #[.func (.func 62) #[] #[],.func (.func 63) #[] #[]] fun dU cJ cK=>Pl 1<|nt<|sq<|sg<|Pl 2<|nt<|c0<|?_
 refine bD<|sq<|?_
 have b4:=aE b2 (ud cI cK b3)
 have b5:=aL.old s b4
 refine fA (aL.at_ b5 0 (by omega)) fun cL cN b7 ba dV=>Rg 13 (fun w'=>w'.cell? ⟨cG,0,none⟩=some (.func (.func 62) #[] #[])∧w'.cell? ⟨cL,cN+0,none⟩=some (.int .u8 (b.getD 0 0))) fun dW O=>?_
 have bb:=ub O cJ
 refine b9 ⟨(ai bb rfl),(uc O ba)⟩ fun o=>Rt 0 o<|Rl 1 o (fun _ hs=>hs.1)<|Rt 2 o<|Rt 3 o<|lN 4 o b.length 0 0 rfl b7 (by omega)<|Rl 5 o (fun _ hs=>hs.2)<|Rt 6 o<|kV (dz (P:=Tryz.prog) 27 5 1 Tryz.underlying27 rfl rfl A b.length cp 1 (by omega)) fun bc hrun268 cO=>Rr 7 o (.slice bc (b.length-1) (cp-1)) (fun _ _=>cV (kl:=.i64) (k:=((1:Nat) : Int)) (A:=A) (n:=b.length) (c:=cp) rfl Tryz.underlying27 (by kernel_rfl) (by kernel_rfl) (hrun268 _ _))<|?_
 refine R0 8 rfl<|eD #[] #[] (args:=#[.int .i64 dir,.int .u8 (b.getD 0 0),.slice bc (b.length-1) (cp-1)])<|e2 (kY (dir:=dir) (c:=(b.getD 0 0)) (b8 (by omega)) (cO _ _ _ _ _ (aL.old b5 O)) (by(try simp only[List.length_drop]);omega)) fun cP dX F W=>?_
 have bd:=ub W bb
 have X:=aE O W
 refine b9 ⟨(ai bd rfl),(uc X ba)⟩ fun be=>Rt 9 be<|Rt 10 be<|?_
 have bg:=aE b4 X
 have bh:=ub bg a
 refine R0 11 rfl<|b6 (hz:=(by rw[F.size];exact aP)) (hv:=F.size) (h1:=F.one) bh (cP) fun dY cQ G=>?_
 have dZ:=uz X G
 have e0:=uz W G
 have bi:=ud f (uz bg G) h
 refine b9 ⟨(ai (aO G (Ne.symm (nb (aj a) b2.size b3)) bd) rfl),(cB (aL.old hsl bi) b7 0 (by omega))⟩ fun cR=>Rt 12 cR<|re<|tn<|rt<|dB 22 F.size cQ (.int .i64 (((al aI dir (b.getD 0 0) (b.drop 1))).2))<|?_
 have hs:cj dir b=(al aI dir (b.getD 0 0) (b.drop 1)):=by
   unfold cj
   (try simp only[d,e,g,i,bs,if_true,if_false,decide_true,decide_false,hkf,gO,reduceIte])
   all_goals rfl
 refine eW hs ?_
 exact⟨_,rfl,(aU.upd F G (ah (aD bh (by decide)) az)),bi⟩
 have bj:=fR (x:=(b.getD 0 0)) (w:=t)
 rw[hkf] at bj
 refine L0<|Oc<|m1 bj fun e1 bm=>Pl 3<|L0<|bz #[.nilFunc,.nilFunc] fun cS e3 bo cT cU=>L0<|b6 cT #[.func (.func 64) #[] #[],.func (.func 65) #[] #[]] fun e4 cW cX=>Pl 1<|nt<|sq<|sg<|Pl 2<|nt<|c0<|?_
 refine bD<|sq<|?_
 have bp:=aE bm (ud cU cX bo)
 have bt:=aL.old s bp
 refine fA (aL.at_ bt 0 (by omega)) fun cY cZ bu bv e5=>Rg 13 (fun w'=>w'.cell? ⟨cS,0,none⟩=some (.func (.func 64) #[] #[])∧w'.cell? ⟨cY,cZ+0,none⟩=some (.int .u8 (b.getD 0 0))) fun e7 Q=>?_
 have bw:=ub Q cW
 refine b9 ⟨(ai bw rfl),(uc Q bv)⟩ fun q=>Rt 0 q<|Rl 1 q (fun _ hs=>hs.1)<|Rt 2 q<|Rt 3 q<|lN 4 q b.length 0 0 rfl bu (by omega)<|Rl 5 q (fun _ hs=>hs.2)<|Rt 6 q<|kV (dz (P:=Tryz.prog) 27 5 1 Tryz.underlying27 rfl rfl A b.length cp 1 (by omega)) fun bx hrun348 d0=>Rr 7 q (.slice bx (b.length-1) (cp-1)) (fun _ _=>cV (kl:=.i64) (k:=((1:Nat) : Int)) (A:=A) (n:=b.length) (c:=cp) rfl Tryz.underlying27 (by kernel_rfl) (by kernel_rfl) (hrun348 _ _))<|?_
 refine R0 8 rfl<|eD #[] #[] (args:=#[.int .i64 dir,.int .u8 (b.getD 0 0),.slice bx (b.length-1) (cp-1)])<|e2 (jG (dir:=dir) (c:=(b.getD 0 0)) (b8 (by omega)) (d0 _ _ _ _ _ (aL.old bt Q)) (by(try simp only[List.length_drop]);omega)) fun d1 e8 H Y=>?_
 have bA:=ub Y bw
 have Z:=aE Q Y
 refine b9 ⟨(ai bA rfl),(uc Z bv)⟩ fun bB=>Rt 9 bB<|Rt 10 bB<|?_
 have bF:=aE bp Z
 have bG:=ub bF a
 refine R0 11 rfl<|b6 (hz:=(by rw[H.size];exact aP)) (hv:=H.size) (h1:=H.one) bG (d1) fun e9 d2 I=>?_
 have ea:=uz Z I
 have eb:=uz Y I
 have bH:=ud f (uz bF I) h
 refine b9 ⟨(ai (aO I (Ne.symm (nb (aj a) bm.size bo)) bA) rfl),(cB (aL.old hsl bH) bu 0 (by omega))⟩ fun d3=>Rt 12 d3<|re<|tn<|rt<|dB 22 H.size d2 (.int .i64 (((al aV dir (b.getD 0 0) (b.drop 1))).2))<|?_
 have hs:cj dir b=(al aV dir (b.getD 0 0) (b.drop 1)):=by
   unfold cj
   (try simp only[d,e,g,i,bs,if_true,if_false,decide_true,decide_false,hkf,gO,reduceIte])
   all_goals rfl
 refine eW hs ?_
 exact⟨_,rfl,(aU.upd H I (ah (aD bG (by decide)) az)),bH⟩
 have bI:=fR (x:=(b.getD 0 0)) (w:=t)
 rw[hkf] at bI
 refine L0<|Oc<|m1 bI fun ec bJ=>Pl 3<|L0<|bz #[.nilFunc,.nilFunc] fun d4 ed bK d5 d6=>L0<|b6 d5 #[.func (.func 66) #[] #[],.func (.func 67) #[] #[]] fun ee d7 d8=>Pl 1<|nt<|sq<|sg<|Pl 2<|nt<|c0<|?_
 refine bD<|sq<|?_
 have bL:=aE bJ (ud d6 d8 bK)
 have bN:=aL.old s bL
 refine fA (aL.at_ bN 0 (by omega)) fun d9 da bO bP ef=>Rg 13 (fun w'=>w'.cell? ⟨d4,0,none⟩=some (.func (.func 66) #[] #[])∧w'.cell? ⟨d9,da+0,none⟩=some (.int .u8 (b.getD 0 0))) fun eg R=>?_
 have bQ:=ub R d7
 refine b9 ⟨(ai bQ rfl),(uc R bP)⟩ fun r=>Rt 0 r<|Rl 1 r (fun _ hs=>hs.1)<|Rt 2 r<|Rt 3 r<|lN 4 r b.length 0 0 rfl bO (by omega)<|Rl 5 r (fun _ hs=>hs.2)<|Rt 6 r<|kV (dz (P:=Tryz.prog) 27 5 1 Tryz.underlying27 rfl rfl A b.length cp 1 (by omega)) fun bR hrun428 db=>Rr 7 r (.slice bR (b.length-1) (cp-1)) (fun _ _=>cV (kl:=.i64) (k:=((1:Nat) : Int)) (A:=A) (n:=b.length) (c:=cp) rfl Tryz.underlying27 (by kernel_rfl) (by kernel_rfl) (hrun428 _ _))<|?_
 refine R0 8 rfl<|eD #[] #[] (args:=#[.int .i64 dir,.int .u8 (b.getD 0 0),.slice bR (b.length-1) (cp-1)])<|e2 (o3 (dir:=dir) (c:=(b.getD 0 0)) (b8 (by omega)) (db _ _ _ _ _ (aL.old bN R)) (by(try simp only[List.length_drop]);omega)) fun dc eh J a0=>?_
 have bS:=ub a0 bQ
 have a1:=aE R a0
 refine b9 ⟨(ai bS rfl),(uc a1 bP)⟩ fun bT=>Rt 9 bT<|Rt 10 bT<|?_
 have bU:=aE bL a1
 have bV:=ub bU a
 refine R0 11 rfl<|b6 (hz:=(by rw[J.size];exact aP)) (hv:=J.size) (h1:=J.one) bV (dc) fun ei dd L=>?_
 have ej:=uz a1 L
 have ek:=uz a0 L
 have bW:=ud f (uz bU L) h
 refine b9 ⟨(ai (aO L (Ne.symm (nb (aj a) bJ.size bK)) bS) rfl),(cB (aL.old hsl bW) bO 0 (by omega))⟩ fun de=>Rt 12 de<|re<|tn<|rt<|dB 22 J.size dd (.int .i64 (((al bq dir (b.getD 0 0) (b.drop 1))).2))<|?_
 have hs:cj dir b=(al bq dir (b.getD 0 0) (b.drop 1)):=by
   unfold cj
   (try simp only[d,e,g,i,bs,if_true,if_false,decide_true,decide_false,hkf,gO,reduceIte])
   all_goals rfl
 refine eW hs ?_
 exact⟨_,rfl,(aU.upd J L (ah (aD bV (by decide)) az)),bW⟩
 have bX:=fR (x:=(b.getD 0 0)) (w:=t)
 rw[hkf] at bX
 refine L0<|Oc<|m1 bX fun el df=>Pl 3<|L0<|bz #[.nilFunc,.nilFunc] fun em eo dg dh di=>L0<|b6 dh #[.nilFunc,.nilFunc] fun ep eq dj=>Pl 1<|nt<|sq<|sg<|Pl 2<|nt<|c1<|?_
 refine sg<|Pl 1<|?_
 have bY:=aE df (ud di dj dg)
 refine L0<|b6 (ub bY a) mZ fun er dk dl=>Pl 1<|nt<|rt<|tr<|c7 dk (.int .i64 4)<|?_
 have hs:cj dir b=(bf.zero,4):=by
   unfold cj
   (try simp only[d,e,g,i,bs,if_true,if_false,decide_true,decide_false,hkf,gO,reduceIte])
   all_goals rfl
 refine eW hs ?_
 exact bC (ud f (uz bY dl) h)
theorem fV{m:Bool}{v:Value}{b:List Int}{w:World}{dir:Int}(h:aL m w v b)(hb:b.length≤1048576) : Calls Tryz.prog 162 #[.int .i64 dir,v] w (cM (cj dir b) w):=by
  obtain⟨A,cp,rfl,_,_⟩:=h.shape
  exact mc h hb
end Go.Proofs.YtpglhicfhppaiaaGreat
namespace Go.Proofs.YtpglhicfhppaiaaGreat
def N1 (C:ak) : Prop:=C.e≠1
theorem N1.need{C:ak}{b:Bool}{x:Int}(hx:x≠1)(h:N1 C) : N1 (C.need b x):=by
  unfold N1 ak.need at *
  split
  · exact hx
  · exact h
theorem N1.bytesC{C:ak}{n:Int}(h:N1 C) : N1 (C.bytesC n):=by
  unfold ak.bytesC
  split
  · exact N1.need (by decide) h
  · exact h
theorem N1.wordsC{C:ak}{n:Int}(h:N1 C) : N1 (C.wordsC n):=by
  unfold ak.wordsC
  split<;>exact N1.bytesC h
theorem N1.recs{one:Int→ak→Int × ak × dJ}(ho:∀ s C,N1 C→N1 (one s C).2.1) : ∀ (n:Nat)(s:Int)(C:ak)(L:List dJ),N1 C→N1 (aW one n s C L).1
  | 0,_,_,_,h=>h
  | n+1,s,C,L,h=>by
    unfold aW
    split
    · split
      · exact ho s C h
      · exact N1.recs ho n _ _ _ (ho s C h)
    · exact h
theorem N1.endC{C:ak}(h:N1 C) : N1 C.endC:=by
  unfold ak.endC
  exact N1.need (by decide) h
end Go.Proofs.YtpglhicfhppaiaaGreat
namespace Go.Proofs.YtpglhicfhppaiaaGreat
end Go.Proofs.YtpglhicfhppaiaaGreat
namespace Go.Proofs.YtpglhicfhppaiaaGreat
open Go.RowKit
theorem nz{w w':World}(h:aq [] w w') : Below w.heap.size w w':=⟨h.os,h.tape,h.output,h.size,fun k hk=>h.block k hk (by simp)⟩
theorem nq{n:Int}(h:(Lit.int .u8 n).wf=true) : 0≤n∧n<256:=by
  have:=bounds_u8 h
  omega
open Go.RowKit
structure SL where
  aw:Option Addr
  kw:Nat
  ab:Option Addr
  kb:Nat
  ad:Option Addr
  kd:Nat
  ar:Option Addr
  kr:Nat
  ao:Option Addr
  ko:Nat
def oy (M:bf)(x:SL) : Array Value:=mG M.code M.fail M.addr M.count M.value M.and_ M.or_ M.addr2 M.sub M.status M.events M.messages (.slice x.aw M.words.length x.kw) (.slice x.ab M.bits.length x.kb) (.slice x.ad M.data.length x.kd) (.slice x.ar M.recs.length x.kr) M.mei M.kind M.level M.more M.next (.slice x.ao M.objects.length x.ko)
theorem kZ{m:Bool}{w:World}{cs:Array Value}{M:bf}(h:aU m w cs.toList M) : ∃ x,cs=oy M x:=by
  obtain⟨vw,vb,vd,vr,vo,h0,hw,hb,hd,hr,ho,hR⟩:=h
  obtain⟨aw,kw,rfl,_,_⟩:=hw.shape
  obtain⟨ab,kb,rfl,_,_⟩:=hb.shape
  obtain⟨ad,kd,rfl,_,_⟩:=hd.shape
  obtain⟨ar,kr,rfl,_,_⟩:=hr.shape
  obtain⟨ao,ko,rfl,_,_⟩:=ho.shape
  refine⟨⟨aw,kw,ab,kb,ad,kd,ar,kr,ao,ko⟩,?_⟩
  apply Array.toList_inj.1
  rw[h0]
  rfl
open Go.RowKit
def nM:bf:={ bf.zero with code:=7 }
open Go.RowKit
structure cK where
  unit:Int
  tid:Int
  msg:bf
def cK.zero:cK:=⟨0,0,bf.zero⟩
def tq (m:Bool)(w:World)(cs:Array Value)(F:cK) : Prop:=∃ c:Array Value,cs = #[.int .u8 F.unit,.int .u16 F.tid]++c∧aU m w c.toList F.msg∧B8 F.unit∧dj F.tid
def j3 (res:cK × Int)(w:World)(e:Ending)(w':World) : Prop:=∃ cs,e = .returned (.tuple #[.agg cs,.int .i64 res.2])∧tq true w' cs res.1∧aq [] w w'
theorem cJ{x y:cK × Int}(h:x=y){w:World}{e:Ending}{w':World}(k:j3 y w e w') : j3 x w e w':=by rw[h];exact k
def tJ:Array Value:=#[.int .u8 0,.int .u16 0,.int .u8 0,.int .u8 0,.int .u16 0,.int .u16 0,.int .u16 0,.int .u16 0,.int .u16 0,.int .u16 0,.int .u16 0,.int .u16 0,.int .u16 0,.int .u16 0,.slice none 0 0,.slice none 0 0,.slice none 0 0,.slice none 0 0,.int .u8 0,.int .u8 0,.int .u8 0,.int .u8 0,.int .u8 0,.slice none 0 0]
theorem bV{x:Int}{w W:World}(hu:aq [] w W) : j3 (cK.zero,x) w (.returned (.tuple #[.agg tJ,.int .i64 x])) W:=⟨_,rfl,⟨pP,(by kernel_rfl),aU.zero ..,(show(0:Int)≤0∧(0:Int)<256 from by decide),(show(0:Int)≤0∧(0:Int)<65536 from by decide)⟩,hu⟩
def cn (u t:Int) : bf × Int→cK × Int
  | (M,E)=>if E != 0 then (cK.zero,E) else (⟨u,t,M⟩,0)
open Go.RowKit
deriving instance DecidableEq for cK
def nK (u t:Int)(M:bf)(x:SL) : Array Value:=#[.int .u8 u,.int .u16 t,.int .u8 M.code,.int .u8 M.fail,.int .u16 M.addr,.int .u16 M.count,.int .u16 M.value,.int .u16 M.and_,.int .u16 M.or_,.int .u16 M.addr2,.int .u16 M.sub,.int .u16 M.status,.int .u16 M.events,.int .u16 M.messages,.slice x.aw M.words.length x.kw,.slice x.ab M.bits.length x.kb,.slice x.ad M.data.length x.kd,.slice x.ar M.recs.length x.kr,.int .u8 M.mei,.int .u8 M.kind,.int .u8 M.level,.int .u8 M.more,.int .u8 M.next,.slice x.ao M.objects.length x.ko]
theorem gP(u t:Int)(M:bf)(x:SL) : nK u t M x = #[.int .u8 u,.int .u16 t]++oy M x:=by kernel_rfl
open Go.RowKit
structure Ev where
  e:Int
  f:cK
def Ev.bad (e:Int) : Ev:=⟨e,cK.zero⟩
def kN (x:Ev)(s:SL) : Array Value:=#[.int .i64 x.e,.int .u8 x.f.unit,.int .u16 x.f.tid,.int .u8 x.f.msg.code,.int .u8 x.f.msg.fail,.int .u16 x.f.msg.addr,.int .u16 x.f.msg.count,.int .u16 x.f.msg.value,.int .u16 x.f.msg.and_,.int .u16 x.f.msg.or_,.int .u16 x.f.msg.addr2,.int .u16 x.f.msg.sub,.int .u16 x.f.msg.status,.int .u16 x.f.msg.events,.int .u16 x.f.msg.messages,.slice s.aw x.f.msg.words.length s.kw,.slice s.ab x.f.msg.bits.length s.kb,.slice s.ad x.f.msg.data.length s.kd,.slice s.ar x.f.msg.recs.length s.kr,.int .u8 x.f.msg.mei,.int .u8 x.f.msg.kind,.int .u8 x.f.msg.level,.int .u8 x.f.msg.more,.int .u8 x.f.msg.next,.slice s.ao x.f.msg.objects.length s.ko]
theorem sc(x:Ev)(s:SL) : kN x s = #[.int .i64 x.e]++nK x.f.unit x.f.tid x.f.msg s:=by kernel_rfl
def kz (m:Bool)(w:World)(x:Ev)(cs:List Value) : Prop:=∃ s,cs=(kN x s).toList∧aU m w (oy x.f.msg s).toList x.f.msg∧(0≤x.f.unit∧x.f.unit<256)∧(0≤x.f.tid∧x.f.tid<65536)
def ju (m:Bool)(w:World)(f:cK)(cs:List Value) : Prop:=∃ s,cs=(nK f.unit f.tid f.msg s).toList∧aU m w (oy f.msg s).toList f.msg∧(0≤f.unit∧f.unit<256)∧(0≤f.tid∧f.tid<65536)
def vQ (m:Bool)(w:World)(b:List Int)(cs:List Value) : Prop:=∃ v,cs=[v]∧aL m w v b
abbrev kP (m:Bool) (w:World) (v:Value) (xs:List Ev) : Prop:=aG m 66 25 (kz m) w v xs
abbrev eR (base:Nat) (w:World) (v:Value) (xs:List Ev) : Prop:=aN base 66 25 (kz true) w v xs
theorem kz.upd{m:Bool}{w w':World}{S:List Nat}(hu:aq S w w')(hs:bN m ek S w)(x:Ev)(cs:List Value)(h:kz m w x cs) : kz m w' x cs:=by
  obtain⟨s,h1,h2,h3⟩:=h
  exact⟨s,h1,h2.upd hu hs,h3⟩
theorem kP.upd'{m:Bool}{w w':World}{v:Value}{xs:List Ev}{S:List Nat}(h:kP m w v xs)(hu:aq S w w')(hs:bN m (66 :: ek) S w) : kP m w' v xs:=aG.upd h hu (hs.sub fun t ht=>by rw[List.mem_singleton] at ht;rw[ht];exact List.mem_cons_self ..) (kz.upd hu (hs.sub fun t ht=>List.mem_cons_of_mem _ ht))
theorem kP.old{m:Bool}{w w':World}{v:Value}{xs:List Ev}(h:kP m w v xs)(hu:aq [] w w') : kP m w' v xs:=h.upd' hu (bN.nil _ _ _)
theorem oV(x:Ev)(s:SL) : (kN x s).toList.length=25:=by kernel_rfl
theorem je{w:World}:aU true w (oy bf.zero ⟨none,0,none,0,none,0,none,0,none,0⟩).toList bf.zero:=aU.zero ..
theorem j2{w0 w:World}{g:Nat}{cs:Array Value}{x:Ev}(hg:w0.heap.size≤g)(hb:w.heap[g]? = some (.cells cs 66 (0,0)))(h:kz true w x cs.toList) : eR w0.heap.size w (.slice (some ⟨g,0,none⟩) 1 1) [x]:=by
  have hh:=h
  obtain⟨s,h1,h2⟩:=hh
  have hl:cs.toList.length=25:=by rw[h1];exact oV x s
  clear h1
  refine⟨cs.toList,⟨hl,.inr ⟨g,1,cs,rfl,hg,hb,Nat.le_refl _,by unfold maxLen;omega,by simpa using hl,by rw[List.take_of_length_le];exact Nat.le_of_eq hl⟩⟩,fun j y hj=>?_⟩
  cases j with
  | succ j=>simp at hj
  | zero =>
    have hj:x=y:=by simpa using hj
    subst hj
    exact⟨cs.toList,hl,h,fun i u hi=>by simpa using hi⟩
theorem ug{α β γ δ ε ζ:Sort _}{C:Prop}{P1 P2 P3 P4:α→β→γ→δ→ε→ζ→Prop}(h:∃ a b c d e f,P1 a b c d e f∧P2 a b c d e f∧P3 a b c d e f∧P4 a b c d e f)(k:∀ a b c d e f,P1 a b c d e f→P2 a b c d e f→P3 a b c d e f→P4 a b c d e f→C) : C :=
  let ⟨a,b,c,d,e,f,h1,h2,h3,h4⟩:=h;k a b c d e f h1 h2 h3 h4
theorem fJ{α β γ δ:Sort _}{C:Prop}{P1 P2 P3 P4 P5:α→β→γ→δ→Prop}(h:∃ a b c d,P1 a b c d∧P2 a b c d∧P3 a b c d∧P4 a b c d∧P5 a b c d)(k:∀ a b c d,P1 a b c d→P2 a b c d→P3 a b c d→P4 a b c d→P5 a b c d→C) : C :=
  let ⟨a,b,c,d,h1,h2,h3,h4,h5⟩:=h;k a b c d h1 h2 h3 h4 h5
theorem kz.ones{m:Bool}{w:World}(x:Ev)(cs:List Value)(h:kz m w x cs) : ∀ v,v∈cs→v.oneCell'=true:=by
  obtain⟨s,h1,h2,_⟩:=h
  have h3:=h2.one
  intro v hv
  rw[h1,sc,gP,Array.toList_append,Array.toList_append,List.mem_append,List.mem_append] at hv
  clear h1
  rw[Array.all_eq_true'] at h3
  rcases hv with hv|hv|hv
  · simp at hv;subst hv;rfl
  · simp at hv;rcases hv with rfl | rfl<;>rfl
  · exact h3 v (by simpa using hv)
theorem kP.elt{m:Bool}{w:World}{A:Option Addr}{n c:Nat}{xs:List Ev}(h:kP m w (.slice A n c) xs)(j:Nat)(hj:j<xs.length)(d:Ev) :
    ∃ b off cells t fr s,A=some ⟨b,off,none⟩∧w.heap[b]? = some (.cells cells t fr)∧(aU m w (oy (xs.getD j d).f.msg s).toList (xs.getD j d).f.msg∧(0≤(xs.getD j d).f.unit∧(xs.getD j d).f.unit<256)∧(0≤(xs.getD j d).f.tid∧(xs.getD j d).f.tid<65536))∧(cells.toList.drop (off+j*25)).take 25=(kN (xs.getD j d) s).toList:=by
  obtain⟨b,off,cells,t,fr,cs,h1,h2,h3,⟨s,h4,h5⟩,h6⟩:=aG.elt h d j hj
  exact⟨b,off,cells,t,fr,s,h1,h2,h5,h6.trans h4⟩
abbrev tP (m:Bool) (w:World) (v:Value) (xs:List cK) : Prop:=aG m 33 24 (ju m) w v xs
abbrev kF (m:Bool) (w:World) (v:Value) (xs:List (List Int)) : Prop:=aG m 27 1 (vQ m) w v xs
theorem ju.upd{m:Bool}{w w':World}{S:List Nat}(hu:aq S w w')(hs:bN m ek S w)(x:cK)(cs:List Value)(h:ju m w x cs) : ju m w' x cs:=by
  obtain⟨s,h1,h2,h3⟩:=h
  exact⟨s,h1,h2.upd hu hs,h3⟩
theorem tP.old{m:Bool}{w w':World}{v:Value}{xs:List cK}(h:tP m w v xs)(hu:aq [] w w') : tP m w' v xs:=aG.upd h hu (bN.nil _ _ _) (ju.upd hu (bN.nil _ _ _))
theorem tP.elt{m:Bool}{w:World}{A:Option Addr}{n c:Nat}{xs:List cK}(h:tP m w (.slice A n c) xs)(j:Nat)(hj:j<xs.length)(d:cK) :
    ∃ b off cells t fr s,A=some ⟨b,off,none⟩∧w.heap[b]? = some (.cells cells t fr)∧(aU m w (oy (xs.getD j d).msg s).toList (xs.getD j d).msg∧(0≤(xs.getD j d).unit∧(xs.getD j d).unit<256)∧(0≤(xs.getD j d).tid∧(xs.getD j d).tid<65536))∧(cells.toList.drop (off+j*24)).take 24=(nK (xs.getD j d).unit (xs.getD j d).tid (xs.getD j d).msg s).toList:=by
  obtain⟨b,off,cells,t,fr,cs,h1,h2,h3,⟨s,h4,h5⟩,h6⟩:=aG.elt h d j hj
  exact⟨b,off,cells,t,fr,s,h1,h2,h5,h6.trans h4⟩
theorem kF.old{m:Bool}{w w':World}{v:Value}{xs:List (List Int)}(h:kF m w v xs)(hu:aq [] w w') : kF m w' v xs:=aG.upd h hu (bN.nil _ _ _) fun x cs ⟨v,h1,h2⟩=>⟨v,h1,h2.old hu⟩
theorem kF.elt{m:Bool}{w:World}{A:Option Addr}{n c:Nat}{xs:List (List Int)}(h:kF m w (.slice A n c) xs)(j:Nat)(hj:j<xs.length) :
    ∃ b off A' c',A=some ⟨b,off,none⟩∧w.cell? ⟨b,off+j,none⟩=some (.slice A' (xs.getD j []).length c')∧aL m w (.slice A' (xs.getD j []).length c') (xs.getD j [])∧(xs.getD j []).length≤c'∧c'≤maxLen:=by
  obtain⟨b,off,cells,t,fr,cs,h1,h2,h3,⟨v,h4,h5⟩,h6⟩:=aG.elt h [] j hj
  obtain⟨A',c',rfl,h7,h8⟩:=h5.shape
  refine⟨b,off,A',c',h1,?_,h5,h7,h8⟩
  rw[bG h2]
  rw[h4] at h6
  have h9:=congrArg (fun z=>z[0]?) h6
  simpa using h9
open Go.RowKit
theorem mE{P:Program}{w:World}{ev:Operand→Value}{o:Oper}{x y:Operand}{t t':TypeId}{k:IntKind}{a b:Int}(ho:o.op = .binOp .rem t x y t')(hx:ev x = .int k a)(hy:ev y = .int k b)(h0:0≤a)(hb:0<b) : (execOp ev o).run P w = .ok (.value (.int k (a%b))) w:=by
  have hg:eqGuard .rem t x y (.int k a) (.int k b)=pure ():=rfl
  have hz:(b==0)=false:=by simpa using Int.ne_of_gt hb
  unfold execOp
  simp only[ho,hx,hy,hg,binOp_rem,Sem.run_bind,Sem.run_pure,Result.andThen,Op.intDiv]
  simp[hz,Int.ne_of_gt hb,Int.tmod_eq_emod_of_nonneg h0,Result.andThen]
theorem mF{x y:Int}(hy:0<y) : 0≤x%y∧x%y<y:=⟨Int.emod_nonneg _ (Int.ne_of_gt hy),Int.emod_lt_of_pos _ hy⟩
theorem mv{P:Program}(t e:TypeId)(sz:Nat){i:TypeInfo}(ht:P.underlying t=some (.slice e))(hi:P.info? e=some i)(hsz:i.size=sz)(A:Option Addr)(n c:Nat){k:Int}(h:Nat)(hk:k=(h:Int))(hh:h≤n)(hc:n≤c) :
    ∃ A':Option Addr,(∀ (kh:IntKind) (W:World),(Instr.slice t (.slice A n c) none (some (.int kh k)) none).run P W = .ok (.slice A' h c) W) ∧
      ∀ {α:Type} (m:Bool) (e':TypeId) (R:World→α→List Value→Prop) (w:World) (xs:List α),aG m e' sz R w (.slice A n c) xs→aG m e' sz R w (.slice A' h c) (xs.take h):=by
  subst hk
  obtain⟨A',h1,h2⟩:=oB (P:=P) t e sz ht hi hsz A n c 0 h (Nat.zero_le _) hh hc
  refine⟨A',fun kh W=>?_,fun m e' R w xs hr=>by simpa using h2 m e' R w xs hr⟩
  have h3:=h1 .i64 kh W
  have hel:P.elem t=e:=by simp[Program.elem,ht]
  have hu:P.underlying t=some (.slice (P.elem t)):=by rw[hel];exact ht
  rw[run_slice_h W t A n c hu kh (h:Int) (Int.natCast_nonneg _) (by omega)]
  rw[run_slice_lh W t A n c hu .i64 kh (((0:Nat) : Int)) (h:Int) (Int.natCast_nonneg _) (by omega) (by omega)] at h3
  simpa using h3
theorem fq{o:Oper}{ev:Operand→Value}{P:Program}{w:World}{t:TypeId}{x y:Operand}{A:Option Addr}{n c:Nat}{kl:IntKind}{k:Int}{v:Value}{e:TypeId}(ho:o.op = .slice t x none (some y) none)(ht:P.underlying t=some (.slice e))(hx:ev x = .slice A n c)(hy:ev y = .int kl k)
    (hr:(Instr.slice t (.slice A n c) none (some (.int kl k)) none).run P w = .ok v w) : (execOp ev o).run P w = .ok (.value v) w:=by
  have hu:(underlying t).run P w = .ok (.slice e) w:=run_underlying ht w
  unfold execOp
  simp only[ho,Option.map_some,Option.map_none,hx,hy,Instr.sliceAt,Sem.run_bind,hu,hr,Result.andThen,Sem.run_pure]
theorem mg{P:Program}(t e:TypeId)(sz:Nat){i:TypeInfo}(ht:P.underlying t=some (.slice e))(hi:P.info? e=some i)(hsz:i.size=sz)(A:Option Addr)(n c:Nat){lo up:Int}(k h:Nat)(hlo:lo=(k:Int))(hup:up=(h:Int))(hk:k≤h)(hh:h≤n)(hc:n≤c) :
    ∃ A':Option Addr,(∀ (kl kh:IntKind) (W:World),(Instr.slice t (.slice A n c) (some (.int kl lo)) (some (.int kh up)) none).run P W = .ok (.slice A' (h-k) (c-k)) W) ∧
      ∀ {α:Type} (m:Bool) (e':TypeId) (R:World→α→List Value→Prop) (w:World) (xs:List α),aG m e' sz R w (.slice A n c) xs→aG m e' sz R w (.slice A' (h-k) (c-k)) ((xs.take h).drop k):=by
  subst hlo hup
  exact oB t e sz ht hi hsz A n c k h hk hh hc
theorem iN{o:Oper}{ev:Operand→Value}{P:Program}{w:World}{t:TypeId}{x y z:Operand}{A:Option Addr}{n c:Nat}{kl kh:IntKind}{lo hi:Int}{v:Value}{e:TypeId}(ho:o.op = .slice t x (some y) (some z) none)(ht:P.underlying t=some (.slice e))(hx:ev x = .slice A n c)(hy:ev y = .int kl lo)(hz:ev z = .int kh hi)
    (hr:(Instr.slice t (.slice A n c) (some (.int kl lo)) (some (.int kh hi)) none).run P w = .ok v w) : (execOp ev o).run P w = .ok (.value v) w:=by
  have hu:(underlying t).run P w = .ok (.slice e) w:=run_underlying ht w
  unfold execOp
  simp only[ho,Option.map_some,Option.map_none,hx,hy,hz,Instr.sliceAt,Sem.run_bind,hu,hr,Result.andThen,Sem.run_pure]
theorem eK{P:Program}(t e:TypeId)(sz:Nat){i:TypeInfo}(ht:P.underlying t=some (.slice e))(hi:P.info? e=some i)(hsz:i.size=sz)(A:Option Addr)(n c:Nat){lo:Int}(k:Nat)(hlo:lo=(k:Int))(hk:k≤n) :
    ∃ A':Option Addr,(∀ (kl:IntKind) (W:World),(Instr.slice t (.slice A n c) (some (.int kl lo)) none none).run P W = .ok (.slice A' (n-k) (c-k)) W) ∧
      ∀ {α:Type} (m:Bool) (e':TypeId) (R:World→α→List Value→Prop) (w:World) (xs:List α),aG m e' sz R w (.slice A n c) xs→aG m e' sz R w (.slice A' (n-k) (c-k)) (xs.drop k):=by
  subst hlo
  exact dz t e sz ht hi hsz A n c k hk
open Go.RowKit
theorem qa{P:Program}{w:World}{ev:Operand→Value}{o:Oper}{x y:Operand}{ts:Array TypeId}{k:IntKind}{a b:Int}(ho:o.op = .call { callee:=.builtin .min,args:=#[x,y],argTypes:=ts })(hx:ev x = .int k a)(hy:ev y = .int k b) : (execOp ev o).run P w = .ok (.value (.int k (min a b))) w:=by
  have h:(Builtin.min_ ts o.type #[.int k a,.int k b]).run P w = .ok (.int k (min a b)) w:=by
    simp[Builtin.min_,Builtin.min2]
    split<;>simp[Int.min_def]<;>omega
  unfold execOp
  simp only[ho,resolve,invoke,builtin,Sem.run_bind,Sem.run_pure,Result.andThen_ok,List.map_toArray,List.map_cons,List.map_nil,hx,hy,h]
theorem aG.adr{α:Type}{m:Bool}{e:TypeId}{sz:Nat}{R:World→α→List Value→Prop}{w:World}{A:Option Addr}{n c:Nat}{xs:List α}(h:aG m e sz R w (.slice A n c) xs) : 0<n→∃ b off,A=some ⟨b,off,none⟩:=fun hn=>by
  obtain⟨A',c',hv,hc1,hc2,h0,h3⟩:=h
  injection hv with e1 e2 e3
  subst e1 e2 e3
  obtain⟨b,off,cells,t,fr,hA,_⟩:=h3 hn
  exact⟨b,off,hA⟩
theorem aG.cap{α:Type}{m:Bool}{e:TypeId}{sz:Nat}{R:World→α→List Value→Prop}{w:World}{A:Option Addr}{n c:Nat}{xs:List α}(h:aG m e sz R w (.slice A n c) xs) : n≤c:=by
  obtain⟨A',c',hv,h1,_⟩:=h
  injection hv with _ e2 e3
  subst e2 e3
  exact h1
theorem pV{P:Program}{w:World}{ev:Operand→Value}{o:Oper}{x y z:Operand}{t e:TypeId}{A:Option Addr}{n c:Nat}{k1 k2:IntKind}{i1 i2:Int}(ho:o.op = .slice t x none (some y) (some z))(ht:P.underlying t=some (.slice e))(hi:(P.info? e).map (·.size)=some 1)
    (hx:ev x = .slice A n c) (hy:ev y = .int k1 i1) (hz:ev z = .int k2 i2) (h1:i1=(n:Int)) (h2:i2=(n:Int)) (hc1:n≤c) (hA:0<n→∃ b off,A=some ⟨b,off,none⟩) : (execOp ev o).run P w = .ok (.value (.slice A n n)) w:=by
  subst h1 h2
  obtain⟨i0,hi0,hs⟩:=Option.map_eq_some_iff.1 hi
  have hel:P.elem t=e:=by simp[Program.elem,ht]
  have hu:P.underlying t=some (.slice (P.elem t)):=by rw[hel];exact ht
  have hr:=run_slice_hm (P:=P) w t A n c hu k1 k2 ((n:Nat) : Int) ((n:Nat) : Int) (by omega) (Int.le_refl _) (by omega)
  have hA:(if n=0 then A else A.map (·.add 0))=A:=by
    split
    · rfl
    · rename_i hne
      obtain⟨b,off,rfl⟩:=hA (by omega)
      rfl
  have hr2:(Instr.slice t (.slice A n c) none (some (.int k1 ((n:Nat) : Int))) (some (.int k2 ((n:Nat) : Int)))).run P w = .ok (.slice A n n) w:=by
    rw[hr,hel]
    simp[sizeOf,typeInfo,hi0,hs,sliced,Result.andThen]
    simpa using hA
  have hu2:(underlying t).run P w = .ok (.slice e) w:=run_underlying ht w
  unfold execOp
  simp only[ho,Option.map_some,Option.map_none,hx,hy,hz,Instr.sliceAt,Sem.run_bind,hu2,hr2,Result.andThen,Sem.run_pure]
theorem aL.full{m:Bool}{w:World}{A:Option Addr}{n c:Nat}{xs:List Int}(h:aL m w (.slice A n c) xs) : aL m w (.slice A n n) xs:=by
  obtain⟨A',c',hv,hc1,hc2,h0,h3⟩:=h
  injection hv with e1 e2 e3
  subst e1 e2 e3
  refine⟨A,xs.length,rfl,Nat.le_refl _,Nat.le_trans hc1 hc2,fun hA=>?_,h3⟩
  have:=h0 hA
  omega
theorem kg{P:Program}{A:Option Addr}{c:Nat}(w:World) : (Builtin.firstCells 1 0 (.slice A 0 c)).run P w = .ok #[] w:=by
  cases A with
  | none=>simp[Builtin.firstCells]
  | some a =>
    have:=run_loadCells_list (P:=P) w a [] (fun j v hj=>by simp at hj)
    simpa [Builtin.firstCells] using this
theorem sH{P:Program}{m:Bool}{w:World}{t e:TypeId}{A:Option Addr}{n c:Nat}{ys:List Int}(ht:P.underlying t=some (.slice e))(h:aL m w (.slice A n c) ys)(h0:ys=[]) : Src P 1 t (.slice A n c) 0 [] w:=by
  subst h0
  obtain⟨A',c',hv,hc1,hc2,h0,h3⟩:=h
  injection hv with e1 e2 e3
  subst e1 e2 e3
  exact⟨.inl ⟨e,ht⟩,fun w'=>by simp[Builtin.lenOf],kg w,kg w.drew,rfl,fun u hu=>by cases hu⟩
section
variable {P:Program}{n:Nat}{D:List Deferred}{F:Fr}{w:World}{K:Fr→World→Prop}{Q:Exit→Act→World→Prop}{d:Option Tmp}{t:TypeId}{s:String}{af:Array Edge}{gu:Option (Nat × Bool)}
end
end Go.Proofs.YtpglhicfhppaiaaGreat
namespace Go.Proofs.YtpglhicfhppaiaaGreat
def pN (x:Nat) : Nat:=(x/2) ^^^ (x%2*40961)
def eH:Nat→Nat→Nat
  | 0,x=>x
  | k+1,x=>pN (eH k x)
def qi (i:Nat) : Nat:=eH 8 i
theorem qU{x:Nat}(h:x<65536) : pN x<65536:=by
  unfold pN
  exact Nat.xor_lt_two_pow (n:=16) (by omega) (by omega)
theorem jj{x:Nat}(h:x<65536) : ∀ k,eH k x<65536
  | 0=>h
  | k+1=>qU (jj h k)
theorem mJ{i:Nat}(h:i<256) : qi i<65536:=jj (by omega) 8
def pn (s c:Nat) : Nat:=(s/256) ^^^ qi ((s%256) ^^^ c)
theorem mi{a b:Nat}(ha:a<256)(hb:b<256) : a ^^^ b<256:=Nat.xor_lt_two_pow (n:=8) ha hb
theorem oK{a b:Nat}(ha:a<65536)(hb:b<65536) : a ^^^ b<65536:=Nat.xor_lt_two_pow (n:=16) ha hb
theorem p4{s c:Nat}(hs:s<65536)(hc:c<256) : pn s c<65536:=oK (by omega) (mJ (mi (by omega) hc))
def xi (a b:Int) : Int:=((a.toNat ^^^ b.toNat:Nat) : Int)
theorem w9{a b:Int}(ha:0≤a∧a<256)(hb:0≤b∧b<256) : 0≤xi a b∧xi a b<256:=by
  have:=mi (a:=a.toNat) (b:=b.toNat) (by omega) (by omega)
  unfold xi
  omega
theorem rE(n:Nat) : xi (((n:Nat) : Int)/2) ((((n:Nat) : Int)%2)*40961%65536)=((pN n:Nat) : Int):=by
  unfold xi pN
  rw[show(((n:Nat) : Int)/2).toNat=n/2 from by omega,show((((n:Nat) : Int)%2)*40961%65536).toNat=n%2*40961 from by omega]
def gk (i:Int) : Int:=((qi i.toNat:Nat) : Int)
theorem jW{i:Int}(h:0≤i∧i<256) : 0≤gk i∧gk i<65536:=by
  have:=mJ (i:=i.toNat) (by omega)
  unfold gk
  omega
def lK (s c:Int) : Int:=xi (s/256) (gk (xi (s%256) c))
theorem oI{s c:Int}(hs:0≤s∧s<65536)(hc:0≤c∧c<256) : lK s c=((pn s.toNat c.toNat:Nat) : Int):=by
  unfold lK gk xi pn
  rw[show(s/256).toNat=s.toNat/256 from by omega,show(s%256).toNat=s.toNat%256 from by omega]
  simp only[Int.toNat_natCast]
theorem kA{s c:Int}(hs:0≤s∧s<65536)(hc:0≤c∧c<256) : 0≤lK s c∧lK s c<65536:=by
  have:=p4 (s:=s.toNat) (c:=c.toNat) (by omega) (by omega)
  rw[oI hs hc]
  omega
def c4 (s:Int)(b:List Int) : Int:=b.foldl lK s
theorem hG:∀ (b:List Int){s:Int},(0≤s∧s<65536)→(∀ x,x∈b→0≤x∧x<256)→0≤c4 s b∧c4 s b<65536
  | [],s,hs,_=>hs
  | c :: b,s,hs,hb=>hG b (kA hs (hb c (List.mem_cons_self ..))) fun x hx=>hb x (List.mem_cons_of_mem _ hx)
theorem pC(s:Int)(a b:List Int) : c4 s (a++b)=c4 (c4 s a) b:=by unfold c4;rw[List.foldl_append]
def bL (s:Int) : List Int:=[s%256,s/256%256]
def dw (b:List Int) : Bool:=decide (2≤b.length)&&decide (bL (c4 65535 (b.take (b.length-2)))=b.drop (b.length-2))
open Go.RowKit
def uf (P:Program)(ty:TypeId) : Option (Nat × TypeId):=match P.underlying ty with | some (.array m e)=>some (m,e) | _=>none
theorem pE{P:Program}{ty e:TypeId}{m:Nat}(h:uf P ty=some (m,e)) : P.underlying ty=some (.array m e):=by
  unfold uf at h
  split at h
  · injection h with h
    injection h with h1 h2
    subst h1 h2
    assumption
  · cases h
theorem mV{P:Program}{w:World}{ev:Operand→Value}{o:Oper}{t e:TypeId}{x ix:Operand}{b off j m:Nat}{k:IntKind}{i:Int}(ho:o.op = .indexAddr t x ix)(ht:P.underlying t=some (.array m e))(hi:(P.info? e).map (·.size)=some 1)
    (hx:ev x = .pointer (some ⟨b,off,none⟩)) (hix:ev ix = .int k i) (hj:i=j) (hlt:j<m) : (execOp ev o).run P w = .ok (.value (.pointer (some ⟨b,off+j,none⟩))) w:=by
  subst hj
  obtain⟨i0,hi0,hs⟩:=Option.map_eq_some_iff.1 hi
  unfold execOp
  have h2:(0:Int)≤(j:Int)∧(j:Int)<(m:Int):=by omega
  simp[ho,hx,hix,Instr.indexAt,Instr.sureAddr,asIntOf,run_underlying ht,Result.andThen,h2,sizeOf,typeInfo,hi0,hs,fc,hlt]
section
variable {P:Program}{n:Nat}{D:List Deferred}{F:Fr}{w:World}{K:Fr→World→Prop}{Q:Exit→Act→World→Prop}{d:Option Tmp}{t:TypeId}{s:String}{af:Array Edge}{gu:Option (Nat × Bool)}
theorem vp{ty:TypeId}{x ix:Operand}{b off:Nat}(m j:Nat)(i:Int)(hj:i=j)(hlt:j<m)(h:K (pt d (.pointer (some ⟨b,off+j,none⟩)) F) w)
    (hx:cU F x=some (.pointer (some ⟨b,off,none⟩)):=by kernel_rfl) (hi:qI F ix=some i:=by kernel_rfl) (hs:((uf P ty).bind fun p=>(P.info? p.2).map fun q=>(p.1,q.size),dq n d)=(some (m,1),true):=by kernel_rfl) : OG P ⟨d,.indexAddr ty x ix,t,s,af,gu⟩ n D F w K Q:=by
  simp only[Prod.mk.injEq] at hs
  obtain⟨hs,hd⟩:=hs
  obtain⟨k,hi⟩:=i4 hi
  cases he:uf P ty with
  | none=>rw[he] at hs;simp at hs
  | some p =>
    obtain⟨m',e⟩:=p
    rw[he] at hs
    obtain⟨q,hq,h3⟩:=Option.map_eq_some_iff.1 (show(P.info? e).map (fun q=>(m',q.size))=some (m,1) from hs)
    injection h3 with h4 h5
    subst h4
    exact⟨fun a ha K' hK=>dG _ rfl (mV rfl (pE he) (by rw[hq];simp[h5]) (ha.ev hx) (ha.ev hi) hj hlt) (hK _ _ _ h (ha.put hd))⟩
end
theorem to{a b:Int}(ha:0≤a∧a<256)(hb:0≤b∧b<256) : bits .xor .u8 a b=xi a b:=u8_xor a b ha.1 ha.2 hb.1 hb.2
theorem pU{a b:Int}(ha:0≤a∧a<65536)(hb:0≤b∧b<65536) : bits .xor .u16 a b=xi a b:=u16_xor a b ha.1 ha.2 hb.1 hb.2
theorem oA{a:Int}(ha:0≤a∧a<65536) : bits .and .u16 a 1=a%2:=by
  rw[u16_and a 1 ha.1 ha.2 (by omega) (by omega)]
  show((a.toNat &&& 1:Nat) : Int)=_
  rw[Nat.and_one_is_mod]
  omega
def ep (k:Nat) : Array Value:=((List.range 256).map fun i=>if i<k then Value.int .u16 (gk i) else Value.int .u16 0).toArray
theorem cA(k:Nat) : (ep k).size=256:=by simp[ep]
theorem jC(k:Nat) : (ep k).all (·.oneCell')=true:=by
  unfold ep
  rw[List.all_toArray,List.all_eq_true]
  intro v hv
  rw[List.mem_map] at hv
  obtain⟨i,_,rfl⟩:=hv
  split<;>rfl
theorem pK{i k:Nat}(hk:k=8)(hi:i<256) : (ep i).setIfInBounds i (.int .u16 ((eH k i:Nat) : Int))=ep (i+1):=by
  subst hk
  unfold ep
  rw[List.setIfInBounds_toArray]
  congr 1
  apply List.ext_getElem?
  intro j
  rw[List.getElem?_set]
  by_cases hj:j<256
  · by_cases hij:i=j
    · subst hij
      simp[hi,gk,qi]
    · simp[hij,hj]
      congr 1
      simp only[eq_iff_iff]
      omega
  · rw[if_neg (by omega)]
    simp[hj]
theorem qN{i:Nat}(h:i<256) : (ep 256)[i]? = some (.int .u16 (gk i)):=by simp[ep,h]
def d9 (s:Int)(b:List Int) : Nat→Int
  | 0=>s
  | k+1=>lK (d9 s b k) (b.getD k 0)
theorem iO(s:Int)(b:List Int) : ∀ k,k≤b.length→d9 s b k=c4 s (b.take k)
  | 0,_=>by simp[d9,c4]
  | k+1,h=>by
    rw[List.take_succ_eq_append_getElem (by omega),pC,← iO s b k (by omega)]
    show lK _ (b.getD k 0)=_
    rw[List.getD_eq_getElem?_getD,List.getElem?_eq_getElem (by omega)]
    rfl
theorem oR{s:Int}{b:List Int}{k:Nat}(h:k=b.length) : d9 s b k=c4 s b:=by
  subst h
  rw[iO _ _ _ (Nat.le_refl _),List.take_length]
theorem jV{s:Int}{b:List Int}(hs:0≤s∧s<65536)(hb:∀ x,x∈b→0≤x∧x<256) : ∀ k,0≤d9 s b k∧d9 s b k<65536
  | 0=>hs
  | k+1=>kA (jV hs hb k) (dQ (by omega) hb k)
theorem pY{i:Int}(h:0≤i) : gk ((i.toNat:Nat) : Int)=gk i:=by rw[Int.toNat_of_nonneg h]
open Go.RowKit
theorem j4{w:World}:Calls Tryz.prog 167 #[] w (bg (.agg (ep 256)) w):=by
 refine en 23 Tryz.func167 rfl<|sg<|L0<|bz (ep 0) fun c G o p q=>ng<|L0<|bz (ep 0) fun a r s t u=>nt<|sq<|sg<|?_
 refine Pl 1<|nt<|bk<|?_
 refine g7 (fun x=>[(0,.pointer (some ⟨c,0,none⟩)),(1,.pointer (some ⟨a,0,none⟩)),(4,.int .i64 ((x:Nat) : Int))]) (fun(x:Nat) w'=>aq [a] r w'∧w'.heap[a]? = some (.cells (ep x) 218 (0,0))∧(x≤256)) (fun x=>256-x) 0 ⟨aq.refl _ _,t,(by(try dsimp only);omega)⟩ ?_
 rintro i g ⟨h,v,y⟩
 refine fZ [(0,.pointer (some ⟨c,0,none⟩)),(1,.pointer (some ⟨a,0,none⟩)),(4,.int .i64 ((i:Nat) : Int))] ?_
 have j:g.heap[a]? = some (.cells (ep i) 218 (0,0)):=v
 have H:i≤256:=y
 refine sg<|Pl 1<|nt<|sq<|?_
 have l:=ud u h s
 have m:=aE q l
 refine cb ((decide (((i:Nat) : Int)<256))) (fun e=>?_) (fun e=>?_)
 have z:=of_decide_eq_true e
 refine bD<|sq<|bk<|sg<|Pl 2<|ng<|Pl 1<|L0<|Oe (.int .u16 (IntKind.u16.wrap ((i:Nat) : Int))) (.int .u16 ((eH 0 i:Nat) : Int)) (congrArg (Value.int .u16) (lU (x:=((i:Nat) : Int)) (by omega)))<|Pl 1<|nl<|?_
 refine tn<|sq<|sg<|Pl 1<|nt<|bk<|?_
 refine g7 (fun x=>[(0,.pointer (some ⟨c,0,none⟩)),(1,.pointer (some ⟨a,0,none⟩)),(2,.int .i64 ((i:Nat) : Int)),(3,.int .u16 ((eH x i:Nat) : Int)),(4,.int .i64 ((i:Nat) : Int)),(5,.bool (decide (((i:Nat) : Int)<256))),(6,.int .i64 ((i:Nat) : Int)),(7,.int .i64 ((i:Nat) : Int)),(8,.int .u16 ((eH 0 i:Nat) : Int)),(9,.int .i64 ((x:Nat) : Int))]) (fun(x:Nat) w'=>aq [] g w'∧(x≤8)) (fun x=>8-x) 0 ⟨aq.refl _ _,(by(try dsimp only);omega)⟩ ?_
 rintro k I ⟨d,A⟩
 refine fZ [(0,.pointer (some ⟨c,0,none⟩)),(1,.pointer (some ⟨a,0,none⟩)),(2,.int .i64 ((i:Nat) : Int)),(3,.int .u16 ((eH k i:Nat) : Int)),(4,.int .i64 ((i:Nat) : Int)),(5,.bool (decide (((i:Nat) : Int)<256))),(6,.int .i64 ((i:Nat) : Int)),(7,.int .i64 ((i:Nat) : Int)),(8,.int .u16 ((eH 0 i:Nat) : Int)),(9,.int .i64 ((k:Nat) : Int))] ?_
 have J:k≤8:=A
 have K:=jj (x:=i) (by omega) k
 refine sg<|Pl 1<|nt<|sq<|?_
 have L:=aE m d
 refine cb ((decide (((k:Nat) : Int)<8))) (fun f=>?_) (fun f=>?_)
 have B:=of_decide_eq_true f
 refine bD<|sq<|bk<|go<|Pl 1<|L0<|Oe (.int .u16 (Int.fdiv ((eH k i:Nat) : Int) (2 ^ 1))) (.int .u16 (((eH k i:Nat) : Int)/2)) (congrArg (Value.int .u16) (j9 _ _ _ (by decide)))<|Pl 1<|L0<|Oe (.int .u16 (bits .and .u16 ((eH k i:Nat) : Int) 1)) (.int .u16 (((eH k i:Nat) : Int)%2)) (congrArg (Value.int .u16) (oA (by omega)))<|Pl 1<|L0<|Oe (.int .u16 (bits .xor .u16 (((eH k i:Nat) : Int)/2) (((((eH k i:Nat) : Int)%2)*40961)%65536))) (.int .u16 ((eH (k+1) i:Nat) : Int)) (congrArg (Value.int .u16) ((pU (by omega) (by omega)).trans (rE _)))<|Pl 1<|nl<|bn<|?_
 exact tn<|go<|L0<|Oi (((k:Nat) : Int)+1)<|Pl 1<|nl<|dY (k+1) ⟨d,(by(try dsimp only);omega)⟩ (by omega)
 have B:=of_decide_eq_false f
 refine xt<|tx<|tx<|bx<|tn<|go<|Pl 2<|L0<|vp (b:=a) (off:=0) 256 i ((i:Nat) : Int) rfl (by omega)<|?_
 refine L0<|bO (hl:=(by rw[cA];simp;omega)) (ub d j) (0+i) ((ep i).setIfInBounds (0+i) (.int .u16 ((eH k i:Nat) : Int))) fun M C D=>?_
 have n:=C
 rw[Nat.zero_add,pK (by omega) (by omega)] at n
 refine nl<|bn<|tn<|go<|L0<|Oi (((i:Nat) : Int)+1)<|Pl 1<|nl<|?_
 exact dY (i+1) ⟨(u1 h (uz d D) im),n,(by(try dsimp only);omega)⟩ (by omega)
 have z:=of_decide_eq_false e
 refine xt<|tx<|tx<|bx<|tn<|sg<|L0<|c5 (hz:=(by rw[cA];kernel_rfl)) j<|?_
 refine L0<|b6 (hz:=(by rw[cA];kernel_rfl)) (hv:=(by rw[cA,cA])) (h1:=(jC _)) (ub l p) ((ep i)) fun N E F=>nt<|rt<|ux 256 (cA _) E<|?_
 have hi:i=256:=by omega
 subst hi
 exact⟨rfl,(ud m F o)⟩
theorem jb{m:Bool}{A:Option Addr}{cp:Nat}{b:List Int}{w:World}{s:Int}(hsl:aL m w (.slice A b.length cp) b)(hs:0≤s∧s<65536) :
    Calls Tryz.prog 166 #[.int .u16 s,.slice A b.length cp] w (bg (.int .u16 (c4 s b)) w):=by
 have hln:=aG.len hsl
 have hb:=aL.range hsl
 refine en 26 Tryz.func166 rfl<|sg<|Pl 1<|ng<|L0<|Oc<|m1 (@j4 w) fun D g=>L0<|bz (ep 0) fun c E h j l=>L0<|b6 (hz:=(by rw[cA];kernel_rfl)) (hv:=(by rw[cA,cA])) (h1:=(jC _)) j ((ep 256)) fun n o q=>nt<|sq<|?_
 refine sg<|Pl 3<|nt<|bk<|?_
 refine g7 (fun x=>[(0,.int .u16 (d9 s b x)),(4,.int .u16 0),(5,.pointer (some ⟨c,0,none⟩)),(9,.slice A b.length cp),(10,.int .i64 ((b.length:Nat) : Int)),(11,.int .i64 ((x:Nat) : Int))]) (fun(x:Nat) w'=>aq [] n w'∧(x≤b.length)∧(0≤d9 s b x∧d9 s b x<65536)) (fun x=>b.length-x) 0 ⟨aq.refl _ _,(by(try dsimp only);omega),hs⟩ ?_
 rintro k F ⟨d,r,t⟩
 refine fZ [(0,.int .u16 (d9 s b k)),(4,.int .u16 0),(5,.pointer (some ⟨c,0,none⟩)),(9,.slice A b.length cp),(10,.int .i64 ((b.length:Nat) : Int)),(11,.int .i64 ((k:Nat) : Int))] ?_
 have G:k≤b.length:=r
 have H:0≤d9 s b k∧d9 s b k<65536:=t
 refine sg<|Pl 1<|nt<|sq<|?_
 have f:=aE g (ud l (aE q d) h)
 refine cb ((decide (((k:Nat) : Int)<((b.length:Nat) : Int)))) (fun e=>?_) (fun e=>?_)
 have u:=of_decide_eq_true e
 refine bD<|sq<|bk<|sg<|?_
 refine fA (aL.at_ (aL.old hsl f) k (by omega)) fun y z B C I=>L0<|nh b.length k B (by omega)<|L0<|iX (p:=⟨y,z+k,none⟩) (v:=.int .u8 (b.getD k 0)) C<|Pl 1<|nt<|go<|Pl 1<|L0<|Oe (.int .u16 (Int.fdiv (d9 s b k) (2 ^ 8))) (.int .u16 ((d9 s b k)/256)) (congrArg (Value.int .u16) (j9 _ _ _ (by decide)))<|Pl 3<|?_
 have J:=w9 (a:=((d9 s b k)%256)) (b:=(b.getD k 0)) (by omega) (by omega)
 refine L0<|Oe (.int .u8 (bits .xor .u8 ((d9 s b k)%256) (b.getD k 0))) (.int .u8 (xi ((d9 s b k)%256) (b.getD k 0))) (congrArg (Value.int .u8) (to (by omega) (by omega)))<|L0<|vp (b:=c) (off:=0) 256 (((xi ((d9 s b k)%256) (b.getD k 0))).toNat) (xi ((d9 s b k)%256) (b.getD k 0)) (by omega) (by omega)<|?_
 have K:=jW (i:=(xi ((d9 s b k)%256) (b.getD k 0))) (by omega)
 exact L0<|iX (p:=⟨c,0+((xi ((d9 s b k)%256) (b.getD k 0))).toNat,none⟩) (v:=.int .u16 (gk ((xi ((d9 s b k)%256) (b.getD k 0))))) (ai (ub d o) (by rw[Nat.zero_add,qN (by omega),pY (by omega)]))<|L0<|Oe (.int .u16 (bits .xor .u16 ((d9 s b k)/256) (gk (xi ((d9 s b k)%256) (b.getD k 0))))) (.int .u16 (d9 s b (k+1))) (congrArg (Value.int .u16) (pU (by omega) (jW (by omega))))<|Pl 1<|nl<|bn<|tn<|go<|L0<|Oi (((k:Nat) : Int)+1)<|Pl 1<|nl<|dY (k+1) ⟨d,(by(try dsimp only);omega),(jV hs hb _)⟩ (by omega)
 have u:=of_decide_eq_false e
 refine xt<|tx<|tx<|bx<|tn<|sg<|Pl 2<|nt<|rt<|rr (.int .u16 (d9 s b k))<|?_
 have hk:d9 s b k=c4 s b:=oR (by omega)
 rw[hk]
 exact⟨rfl,f⟩
theorem jH{m:Bool}{v:Value}{b:List Int}{w:World}(h:aL m w v b) : Calls Tryz.prog 166 #[.int .u16 65535,v] w (bg (.int .u16 (c4 65535 b)) w):=by
  obtain⟨A,cp,rfl,_,_⟩:=h.shape
  exact jb h (by decide)
theorem lP{m:Bool}{A:Option Addr}{cp:Nat}{b:List Int}{w:World}(hsl:aL m w (.slice A b.length cp) b) :
    Calls Tryz.prog 164 #[.slice A b.length cp] w (bg (.int .u16 (c4 65535 b)) w):=by
 refine en 5 Tryz.func164 rfl<|sg<|Pl 1<|ng<|Pl 1<|L0<|Oc<|m1 (jH hsl) fun c a=>Pl 1<|nt<|rt<|?_
 refine rr (.int .u16 (c4 65535 b))<|?_
 exact⟨rfl,a⟩
theorem iB{m:Bool}{v:Value}{b:List Int}{w:World}(h:aL m w v b) : Calls Tryz.prog 164 #[v] w (bg (.int .u16 (c4 65535 b)) w):=by
  obtain⟨A,cp,rfl,_,_⟩:=h.shape
  exact lP h
theorem fe{w:World}{s:Int}(hs:0≤s∧s<65536) : Calls Tryz.prog 163 #[.int .u16 s] w (fun e w'=>∃ v,e = .returned v∧cI w.heap.size w' v (bL s)∧aq [] w w'):=by
 refine en 9 Tryz.func163 rfl<|sg<|Pl 1<|ng<|Pl 3<|L0<|Oe (.int .u16 (Int.fdiv s (2 ^ 8))) (.int .u16 (s/256)) (congrArg (Value.int .u16) (j9 _ _ _ (by decide)))<|Pl 1<|L0<|eS (m:=2) (e:=5) #[.int .u8 (s%256),.int .u8 ((s/256)%256)] fun a g b c d=>?_
 have f:=ia b (xs:=[(s%256),((s/256)%256)]) (by as_aux_lemma=>kernel_rfl) (aF (by omega) (aF (by omega) cQ)) (by(try simp only[List.length_cons,List.length_nil]);omega) c
 refine Pl 1<|nt<|rt<|rr (.slice (some ⟨a,0,none⟩) 2 2)<|?_
 exact⟨_,rfl,f,d⟩
theorem gl{b:List Int}{n:Nat}(h:2≤b.length)(hn:n=b.length-2) : dw b=decide (bL (c4 65535 (b.take n))=b.drop n):=by
  subst hn
  unfold dw
  simp[h]
theorem rz{b:List Int}(h:b.length<2) : dw b=false:=by
  unfold dw
  simp
  omega
theorem l6{m:Bool}{A:Option Addr}{cp:Nat}{b:List Int}{w:World}(hsl:aL m w (.slice A b.length cp) b)(hb:b.length≤1048576)(hcp:b.length≤cp) :
    Calls Tryz.prog 161 #[.slice A b.length cp] w (bg (.bool (dw b)) w):=by
 have hc:=aG.len hsl
 refine en 22 Tryz.func161 rfl<|sg<|Pl 1<|ng<|Pl 2<|L0<|Oi (((b.length:Nat) : Int)-2)<|Pl 1<|nt<|sq<|?_
 refine Rg 16 (fun w'=>True) fun R f=>b9 trivial fun d=>Rt 0 d<|Rt 1 d<|Rt 2 d<|tT 9 ((decide (0≤(((b.length:Nat) : Int)-2)))) (fun p=>?_) (fun p=>?_)
 have I:=of_decide_eq_true p
 refine Rt 3 d<|Rt 4 d<|kV (mv (P:=Tryz.prog) 27 5 1 Tryz.underlying27 rfl rfl A b.length cp (k:=(((b.length:Nat) : Int)-2)) (((((b.length:Nat) : Int)-2)).toNat) (by omega) (by omega) (by omega)) fun q hrun60 i=>Rr 5 d (.slice q (((((b.length:Nat) : Int)-2)).toNat) cp) (fun _ _=>fq (kl:=.i64) (k:=(((b.length:Nat) : Int)-2)) (A:=A) (n:=b.length) (c:=cp) rfl Tryz.underlying27 (by kernel_rfl) (by kernel_rfl) (hrun60 _ _))<|Rt 9 d<|Rt 10 d<|kV (eK (P:=Tryz.prog) 27 5 1 Tryz.underlying27 rfl rfl A b.length cp (lo:=(((b.length:Nat) : Int)-2)) (((((b.length:Nat) : Int)-2)).toNat) (by omega) (by omega)) fun g hrun63 e=>Rr 11 d (.slice g (b.length-(((((b.length:Nat) : Int)-2)).toNat)) (cp-(((((b.length:Nat) : Int)-2)).toNat))) (fun _ _=>cV (kl:=.i64) (k:=(((b.length:Nat) : Int)-2)) (A:=A) (n:=b.length) (c:=cp) rfl Tryz.underlying27 (by kernel_rfl) (by kernel_rfl) (hrun63 _ _))<|?_
 refine R2 6 12 rfl rfl ?_ ?_
 have h:=aL.old hsl f
 refine  Oc (args:=#[.slice q (((((b.length:Nat) : Int)-2)).toNat) cp])<|m1 (iB (i _ _ _ _ _ h)) fun S j=>?_
 have T:=hG (b.take (((((b.length:Nat) : Int)-2)).toNat)) (s:=65535) (by decide) (aL.range (i _ _ _ _ _ h))
 refine b9 trivial fun U=>?_
 refine R2 7 12 rfl rfl ?_ ?_
 refine  Oc<|pu (fe (s:=(c4 65535 (b.take (((((b.length:Nat) : Int)-2)).toNat)))) (by omega)) fun x y V l W X z=>b9 trivial fun Y=>?_
 refine R2 8 12 rfl rfl ?_ ?_
 refine  fN (.string (strOfNums (bL (c4 65535 (b.take (((((b.length:Nat) : Int)-2)).toNat)))))) (bQ (A:=x) (n:=(bL (c4 65535 (b.take (((((b.length:Nat) : Int)-2)).toNat)))).length) (c:=y) rfl (by kernel_rfl) Tryz.underlying27 Tryz.underlying5 Tryz.underlying9 (l).rd)<|b9 trivial fun Z=>?_
 have B:=aE j z
 have C:=aL.old h B
 refine R0 12 rfl<|fN (.string (strOfNums (b.drop (((((b.length:Nat) : Int)-2)).toNat)))) (bQ (A:=g) (n:=(b.length-(((((b.length:Nat) : Int)-2)).toNat))) (c:=(cp-(((((b.length:Nat) : Int)-2)).toNat))) rfl (by kernel_rfl) Tryz.underlying27 Tryz.underlying5 Tryz.underlying9 (e _ _ _ _ _ C))<|b9 trivial fun r=>Rr 13 r (.bool (decide ((bL (c4 65535 (b.take (((((b.length:Nat) : Int)-2)).toNat))))=(b.drop (((((b.length:Nat) : Int)-2)).toNat))))) (fun _ _=>dC (a:=(strOfNums (bL (c4 65535 (b.take (((((b.length:Nat) : Int)-2)).toNat)))))) (b:=(strOfNums (b.drop (((((b.length:Nat) : Int)-2)).toNat)))) rfl (by kernel_rfl) (by kernel_rfl) (fI (l).rd (e _ _ _ _ _ C)))<|Rt 14 r<|Rt 15 r<|re<|tn<|rt<|rr (.bool (decide ((bL (c4 65535 (b.take (((((b.length:Nat) : Int)-2)).toNat))))=(b.drop (((((b.length:Nat) : Int)-2)).toNat)))))<|?_
 have hs:dw b=(decide ((bL (c4 65535 (b.take (((((b.length:Nat) : Int)-2)).toNat))))=(b.drop (((((b.length:Nat) : Int)-2)).toNat)))):=(gl (by omega) (by omega))
 rw[hs]
 exact⟨rfl,(aE f B)⟩
 have D:=aE j z
 have E:=aL.old h D
 refine  fN (.string (strOfNums (b.drop (((((b.length:Nat) : Int)-2)).toNat)))) (bQ (A:=g) (n:=(b.length-(((((b.length:Nat) : Int)-2)).toNat))) (c:=(cp-(((((b.length:Nat) : Int)-2)).toNat))) rfl (by kernel_rfl) Tryz.underlying27 Tryz.underlying5 Tryz.underlying9 (e _ _ _ _ _ E))<|b9 trivial fun a0=>R0 8 rfl<|fN (.string (strOfNums (bL (c4 65535 (b.take (((((b.length:Nat) : Int)-2)).toNat)))))) (bQ (A:=x) (n:=(bL (c4 65535 (b.take (((((b.length:Nat) : Int)-2)).toNat)))).length) (c:=y) rfl (by kernel_rfl) Tryz.underlying27 Tryz.underlying5 Tryz.underlying9 (l).rd)<|b9 trivial fun t=>Rr 13 t (.bool (decide ((bL (c4 65535 (b.take (((((b.length:Nat) : Int)-2)).toNat))))=(b.drop (((((b.length:Nat) : Int)-2)).toNat))))) (fun _ _=>dC (a:=(strOfNums (bL (c4 65535 (b.take (((((b.length:Nat) : Int)-2)).toNat)))))) (b:=(strOfNums (b.drop (((((b.length:Nat) : Int)-2)).toNat)))) rfl (by kernel_rfl) (by kernel_rfl) (fI (l).rd (e _ _ _ _ _ E)))<|Rt 14 t<|Rt 15 t<|re<|tn<|rt<|rr (.bool (decide ((bL (c4 65535 (b.take (((((b.length:Nat) : Int)-2)).toNat))))=(b.drop (((((b.length:Nat) : Int)-2)).toNat)))))<|?_
 have hs:dw b=(decide ((bL (c4 65535 (b.take (((((b.length:Nat) : Int)-2)).toNat))))=(b.drop (((((b.length:Nat) : Int)-2)).toNat)))):=(gl (by omega) (by omega))
 rw[hs]
 exact⟨rfl,(aE f D)⟩
 have F:=aL.old h j
 refine  fN (.string (strOfNums (b.drop (((((b.length:Nat) : Int)-2)).toNat)))) (bQ (A:=g) (n:=(b.length-(((((b.length:Nat) : Int)-2)).toNat))) (c:=(cp-(((((b.length:Nat) : Int)-2)).toNat))) rfl (by kernel_rfl) Tryz.underlying27 Tryz.underlying5 Tryz.underlying9 (e _ _ _ _ _ F))<|b9 trivial fun a1=>R0 7 rfl<|Oc<|pu (fe (s:=(c4 65535 (b.take (((((b.length:Nat) : Int)-2)).toNat)))) (by omega)) fun J K a2 G a3 a4 L=>b9 trivial fun a5=>R0 8 rfl<|fN (.string (strOfNums (bL (c4 65535 (b.take (((((b.length:Nat) : Int)-2)).toNat)))))) (bQ (A:=J) (n:=(bL (c4 65535 (b.take (((((b.length:Nat) : Int)-2)).toNat)))).length) (c:=K) rfl (by kernel_rfl) Tryz.underlying27 Tryz.underlying5 Tryz.underlying9 (G).rd)<|b9 trivial fun u=>Rr 13 u (.bool (decide ((bL (c4 65535 (b.take (((((b.length:Nat) : Int)-2)).toNat))))=(b.drop (((((b.length:Nat) : Int)-2)).toNat))))) (fun _ _=>dC (a:=(strOfNums (bL (c4 65535 (b.take (((((b.length:Nat) : Int)-2)).toNat)))))) (b:=(strOfNums (b.drop (((((b.length:Nat) : Int)-2)).toNat)))) rfl (by kernel_rfl) (by kernel_rfl) (fI (G).rd (e _ _ _ _ _ F)))<|Rt 14 u<|Rt 15 u<|re<|tn<|rt<|rr (.bool (decide ((bL (c4 65535 (b.take (((((b.length:Nat) : Int)-2)).toNat))))=(b.drop (((((b.length:Nat) : Int)-2)).toNat)))))<|?_
 have hs:dw b=(decide ((bL (c4 65535 (b.take (((((b.length:Nat) : Int)-2)).toNat))))=(b.drop (((((b.length:Nat) : Int)-2)).toNat)))):=(gl (by omega) (by omega))
 rw[hs]
 exact⟨rfl,(aE f (aE j L))⟩
 have o:=aL.old hsl f
 refine  fN (.string (strOfNums (b.drop (((((b.length:Nat) : Int)-2)).toNat)))) (bQ (A:=g) (n:=(b.length-(((((b.length:Nat) : Int)-2)).toNat))) (c:=(cp-(((((b.length:Nat) : Int)-2)).toNat))) rfl (by kernel_rfl) Tryz.underlying27 Tryz.underlying5 Tryz.underlying9 (e _ _ _ _ _ o))<|b9 trivial fun a6=>R0 6 rfl<|Oc (args:=#[.slice q (((((b.length:Nat) : Int)-2)).toNat) cp])<|m1 (iB (i _ _ _ _ _ o)) fun a7 M=>?_
 have a8:=hG (b.take (((((b.length:Nat) : Int)-2)).toNat)) (s:=65535) (by decide) (aL.range (i _ _ _ _ _ o))
 refine b9 trivial fun a9=>R0 7 rfl<|Oc<|pu (fe (s:=(c4 65535 (b.take (((((b.length:Nat) : Int)-2)).toNat)))) (by omega)) fun N O aa H ab ac Q=>b9 trivial fun ad=>R0 8 rfl<|fN (.string (strOfNums (bL (c4 65535 (b.take (((((b.length:Nat) : Int)-2)).toNat)))))) (bQ (A:=N) (n:=(bL (c4 65535 (b.take (((((b.length:Nat) : Int)-2)).toNat)))).length) (c:=O) rfl (by kernel_rfl) Tryz.underlying27 Tryz.underlying5 Tryz.underlying9 (H).rd)<|b9 trivial fun v=>Rr 13 v (.bool (decide ((bL (c4 65535 (b.take (((((b.length:Nat) : Int)-2)).toNat))))=(b.drop (((((b.length:Nat) : Int)-2)).toNat))))) (fun _ _=>dC (a:=(strOfNums (bL (c4 65535 (b.take (((((b.length:Nat) : Int)-2)).toNat)))))) (b:=(strOfNums (b.drop (((((b.length:Nat) : Int)-2)).toNat)))) rfl (by kernel_rfl) (by kernel_rfl) (fI (H).rd (e _ _ _ _ _ o)))<|Rt 14 v<|Rt 15 v<|re<|tn<|rt<|rr (.bool (decide ((bL (c4 65535 (b.take (((((b.length:Nat) : Int)-2)).toNat))))=(b.drop (((((b.length:Nat) : Int)-2)).toNat)))))<|?_
 have hs:dw b=(decide ((bL (c4 65535 (b.take (((((b.length:Nat) : Int)-2)).toNat))))=(b.drop (((((b.length:Nat) : Int)-2)).toNat)))):=(gl (by omega) (by omega))
 rw[hs]
 exact⟨rfl,(aE f (aE M Q))⟩
 have I:=of_decide_eq_false p
 refine Ro 3 d<|Ro 4 d<|Ro 5 d<|Ro 6 d<|Ro 7 d<|Ro 8 d<|Ro 9 d<|Ro 10 d<|Ro 11 d<|Ro 12 d<|Ro 13 d<|Rt 14 d<|Rt 15 d<|re<|?_
 refine tn<|rt<|rr (.bool false)<|?_
 have hs:dw b=false:=(rz (by omega))
 rw[hs]
 exact⟨rfl,f⟩
theorem mU{m:Bool}{v:Value}{b:List Int}{w:World}(h:aL m w v b)(hb:b.length≤1048576) : Calls Tryz.prog 161 #[v] w (bg (.bool (dw b)) w):=by
  obtain⟨A,cp,rfl,hc,_⟩:=h.shape
  exact l6 h hb hc
open Go.RowKit
def fm (b:List Int) : List Int:=(b.take (b.length-2)).drop 1
theorem gC(b:List Int) : fm b=(b.take (((b.length:Nat) : Int)-2).toNat).drop 1:=by
  unfold fm
  rw[show(((b.length:Nat) : Int)-2).toNat=b.length-2 from by omega]
def ed (dir:Int)(b:List Int) : cK × Int :=
  if dir != 0&&dir != 1 then (cK.zero,1)
  else if decide ((b.length:Int)<4) then (cK.zero,2)
  else if decide (256<(b.length:Int)) then (cK.zero,3)
  else if !(dw b) then (cK.zero,10)
  else cn (b.getD 0 0) 0 (cj dir (fm b))
theorem lZ{m:Bool}{A:Option Addr}{cp:Nat}{b:List Int}{w:World}{dir:Int}(hsl:aL m w (.slice A b.length cp) b)(hb:b.length≤1048576)(hcp:b.length≤cp) :
    Calls Tryz.prog 160 #[.int .i64 dir,.slice A b.length cp] w (j3 (ed dir b) w):=by
 have hln:(b.length:Int)≤1048576:=by omega
 refine en 51 Tryz.func160 rfl<|sg<|L0<|bz #[.int .u8 0,.int .u16 0,.int .u8 0,.int .u8 0,.int .u16 0,.int .u16 0,.int .u16 0,.int .u16 0,.int .u16 0,.int .u16 0,.int .u16 0,.int .u16 0,.int .u16 0,.int .u16 0,.slice none 0 0,.slice none 0 0,.slice none 0 0,.slice none 0 0,.int .u8 0,.int .u8 0,.int .u8 0,.int .u8 0,.int .u8 0,.slice none 0 0] fun aX aY j e B=>Pl 1<|nt<|sq<|bk<|sg<|Pl 3<|cu 3 [11] 14 (((dir != 0)&&(dir != 1))) (fun K O=>?_) ?_
 refine bl 11 ((dir != 0)) (fun C=>?_) (fun C=>?_)
 have a7:=ax C
 exact Pl 3<|ce O (dir != 1) (by rw[C];rfl)
 have a7:=ag C
 exact Pl 3<|ce O false (by rw[C];rfl)
 refine Pl 1<|nt<|cb (((dir != 0)&&(dir != 1))) (fun d=>?_) (fun d=>?_)
 have Q:=(bM d).1
 have R:=(bM d).2
 have aZ:=ax Q
 have b0:=ax R
 refine sg<|Pl 1<|L0<|b6 e #[.int .u8 0,.int .u16 0,.int .u8 0,.int .u8 0,.int .u16 0,.int .u16 0,.int .u16 0,.int .u16 0,.int .u16 0,.int .u16 0,.int .u16 0,.int .u16 0,.int .u16 0,.int .u16 0,.slice none 0 0,.slice none 0 0,.slice none 0 0,.slice none 0 0,.int .u8 0,.int .u8 0,.int .u8 0,.int .u8 0,.int .u8 0,.slice none 0 0] fun b1 a8 a9=>Pl 1<|nt<|rt<|br<|tr<|c7 a8 (.int .i64 1)<|?_
 have hs:ed dir b=(cK.zero,1):=by
   unfold ed
   (try simp only[d,Q,R,bs,if_true,if_false,decide_true,decide_false,cn,reduceIte])
   all_goals rfl
 refine cJ hs ?_
 exact bV (ud B a9 j)
 refine sg<|Pl 4<|nt<|cb ((decide (((b.length:Nat) : Int)<4))) (fun f=>?_) (fun f=>?_)
 have aa:=of_decide_eq_true f
 refine sg<|Pl 1<|L0<|b6 e #[.int .u8 0,.int .u16 0,.int .u8 0,.int .u8 0,.int .u16 0,.int .u16 0,.int .u16 0,.int .u16 0,.int .u16 0,.int .u16 0,.int .u16 0,.int .u16 0,.int .u16 0,.int .u16 0,.slice none 0 0,.slice none 0 0,.slice none 0 0,.slice none 0 0,.int .u8 0,.int .u8 0,.int .u8 0,.int .u8 0,.int .u8 0,.slice none 0 0] fun b2 ab ac=>Pl 1<|nt<|rt<|br<|tr<|c7 ab (.int .i64 2)<|?_
 have hs:ed dir b=(cK.zero,2):=by
   unfold ed
   (try simp only[d,f,bs,if_true,if_false,decide_true,decide_false,cn,reduceIte])
   all_goals rfl
 refine cJ hs ?_
 exact bV (ud B ac j)
 have aa:=of_decide_eq_false f
 refine sg<|Pl 4<|nt<|cb ((decide (256<((b.length:Nat) : Int)))) (fun h=>?_) (fun h=>?_)
 have ad:=of_decide_eq_true h
 refine sg<|Pl 1<|L0<|b6 e #[.int .u8 0,.int .u16 0,.int .u8 0,.int .u8 0,.int .u16 0,.int .u16 0,.int .u16 0,.int .u16 0,.int .u16 0,.int .u16 0,.int .u16 0,.int .u16 0,.int .u16 0,.int .u16 0,.slice none 0 0,.slice none 0 0,.slice none 0 0,.slice none 0 0,.int .u8 0,.int .u8 0,.int .u8 0,.int .u8 0,.int .u8 0,.slice none 0 0] fun b3 ae af=>Pl 1<|nt<|rt<|br<|tr<|c7 ae (.int .i64 3)<|?_
 have hs:ed dir b=(cK.zero,3):=by
   unfold ed
   (try simp only[d,f,h,bs,if_true,if_false,decide_true,decide_false,cn,reduceIte])
   all_goals rfl
 refine cJ hs ?_
 exact bV (ud B af j)
 have ad:=of_decide_eq_false h
 refine sg<|Pl 1<|?_
 have S:=aL.old hsl B
 refine L0<|Oc (args:=#[.slice A b.length cp])<|m1 (mU S (by omega)) fun ai i=>Pl 2<|nt<|?_
 have T:=aE B i
 refine cb ((!(dw b))) (fun k=>?_) (fun k=>?_)
 have G:(dw b)=false:=by simpa using k
 refine sg<|Pl 1<|?_
 refine L0<|b6 (ub i e) #[.int .u8 0,.int .u16 0,.int .u8 0,.int .u8 0,.int .u16 0,.int .u16 0,.int .u16 0,.int .u16 0,.int .u16 0,.int .u16 0,.int .u16 0,.int .u16 0,.int .u16 0,.int .u16 0,.slice none 0 0,.slice none 0 0,.slice none 0 0,.slice none 0 0,.int .u8 0,.int .u8 0,.int .u8 0,.int .u8 0,.int .u8 0,.slice none 0 0] fun b4 ak al=>Pl 1<|nt<|rt<|br<|tr<|c7 ak (.int .i64 10)<|?_
 have hs:ed dir b=(cK.zero,10):=by
   unfold ed
   (try simp only[d,f,h,k,G,bs,if_true,if_false,decide_true,decide_false,cn,reduceIte])
   all_goals rfl
 refine cJ hs ?_
 exact bV (ud T al j)
 have G:(dw b)=true:=by simpa using k
 refine sk<|bn<|tn<|sg<|Pl 4<|L0<|Oi (((b.length:Nat) : Int)-2)<|kV (mg (P:=Tryz.prog) 27 5 1 Tryz.underlying27 rfl rfl A b.length cp (lo:=1) (up:=(((b.length:Nat) : Int)-2)) 1 (((((b.length:Nat) : Int)-2)).toNat) (by omega) (by omega) (by omega) (by omega) (by omega)) fun am hrun43 an=>L0<|fN (.slice am ((((((b.length:Nat) : Int)-2)).toNat)-1) (cp-1)) (iN (kl:=.i64) (kh:=.i64) (lo:=1) (hi:=(((b.length:Nat) : Int)-2)) (A:=A) (n:=b.length) (c:=cp) rfl Tryz.underlying27 (by kernel_rfl) (by kernel_rfl) (by kernel_rfl) (hrun43 _ _ _))<|?_
 obtain⟨a,D,L⟩ : ∃ M E,cj dir ((b.take (((((b.length:Nat) : Int)-2)).toNat)).drop 1)=(M,E):=⟨_,_,rfl⟩
 have U:=aL.old S i
 have V:=fV (dir:=dir) (w:=ai) (an _ _ _ _ _ U) (by rw[List.length_drop,List.length_take];omega)
 rw[L] at V
 refine L0<|Oc<|e2 V fun ao b5 W N=>?_
 have ap:=W
 obtain⟨aq,ar,au,av,aw,ay,aA,aC,aF,aG,aH,b7⟩:=ap
 obtain rfl:ao=(dA a aq ar au av aw).toArray:=by apply Array.toList_inj.1;simpa using ay
 obtain⟨l,o,rfl,_,_⟩:=aA.shape
 obtain⟨p,q,rfl,_,_⟩:=aC.shape
 obtain⟨r,s,rfl,_,_⟩:=aF.shape
 obtain⟨t,u,rfl,_,_⟩:=aG.shape
 obtain⟨v,y,rfl,_,_⟩:=aH.shape
 refine Pl 3<|L0<|bz mZ fun X ba Y aI aJ=>L0<|b6 aI (mG a.code a.fail a.addr a.count a.value a.and_ a.or_ a.addr2 a.sub a.status a.events a.messages (.slice l a.words.length o) (.slice p a.bits.length q) (.slice r a.data.length s) (.slice t a.recs.length u) a.mei a.kind a.level a.more a.next (.slice v a.objects.length y)) fun bb aK aM=>Pl 1<|nt<|sq<|sg<|Pl 2<|nt<|?_
 have Z:=ud aJ aM Y
 have H:=aE N Z
 have a0:=aE T H
 refine cb ((D != 0)) (fun F=>?_) (fun F=>?_)
 have aN:=ax F
 refine sg<|Pl 2<|?_
 refine L0<|b6 (ub (aE i H) e) #[.int .u8 0,.int .u16 0,.int .u8 0,.int .u8 0,.int .u16 0,.int .u16 0,.int .u16 0,.int .u16 0,.int .u16 0,.int .u16 0,.int .u16 0,.int .u16 0,.int .u16 0,.int .u16 0,.slice none 0 0,.slice none 0 0,.slice none 0 0,.slice none 0 0,.int .u8 0,.int .u8 0,.int .u8 0,.int .u8 0,.int .u8 0,.slice none 0 0] fun bc aP aQ=>Pl 1<|nt<|rt<|tr<|c7 aP (.int .i64 D)<|?_
 have hX2:cj dir (fm b)=(a,D):=(congrArg (cj dir) (gC b)).trans L
 have hs:ed dir b=(cK.zero,D):=by
   unfold ed
   (try simp only[d,f,h,k,G,F,bs,if_true,if_false,decide_true,decide_false,cn,hX2,reduceIte])
   all_goals rfl
 refine cJ hs ?_
 exact bV (ud a0 aQ j)
 have aN:=ag F
 refine bD<|sq<|?_
 refine fA (aL.at_ (aL.old U H) 0 (by omega)) fun aR aS a1 aT bd=>Rg 8 (fun w'=>w'.cell? ⟨aR,aS+0,none⟩=some (.int .u8 (b.getD 0 0))∧w'.heap[X]? = some (.cells (mG a.code a.fail a.addr a.count a.value a.and_ a.or_ a.addr2 a.sub a.status a.events a.messages (.slice l a.words.length o) (.slice p a.bits.length q) (.slice r a.data.length s) (.slice t a.recs.length u) a.mei a.kind a.level a.more a.next (.slice v a.objects.length y)) 31 (0,0))) fun be I=>?_
 have a2:=ub I aK
 refine b9 ⟨(uc I aT),a2⟩ fun z=>Rt 0 z<|lN 1 z b.length 0 0 rfl a1 (by omega)<|Rl 2 z (fun _ hs=>hs.1)<|Rt 3 z<|Rr 4 z (.agg (mG a.code a.fail a.addr a.count a.value a.and_ a.or_ a.addr2 a.sub a.status a.events a.messages (.slice l a.words.length o) (.slice p a.bits.length q) (.slice r a.data.length s) (.slice t a.recs.length u) a.mei a.kind a.level a.more a.next (.slice v a.objects.length y))) (fun w' hs=>mz (g:=X) (off:=0) [.int .u8 a.code,.int .u8 a.fail,.int .u16 a.addr,.int .u16 a.count,.int .u16 a.value,.int .u16 a.and_,.int .u16 a.or_,.int .u16 a.addr2,.int .u16 a.sub,.int .u16 a.status,.int .u16 a.events,.int .u16 a.messages,.slice l a.words.length o,.slice p a.bits.length q,.slice r a.data.length s,.slice t a.recs.length u,.int .u8 a.mei,.int .u8 a.kind,.int .u8 a.level,.int .u8 a.more,.int .u8 a.next,.slice v a.objects.length y] rfl (by kernel_rfl) hs.2 (by kernel_rfl) (by kernel_rfl) rfl)<|Rt 5 z<|?_
 have a3:=aE H I
 have a4:=aE i a3
 refine R0 6 rfl<|b6 (ub a4 e) #[.int .u8 (b.getD 0 0),.int .u16 0,.int .u8 a.code,.int .u8 a.fail,.int .u16 a.addr,.int .u16 a.count,.int .u16 a.value,.int .u16 a.and_,.int .u16 a.or_,.int .u16 a.addr2,.int .u16 a.sub,.int .u16 a.status,.int .u16 a.events,.int .u16 a.messages,.slice l a.words.length o,.slice p a.bits.length q,.slice r a.data.length s,.slice t a.recs.length u,.int .u8 a.mei,.int .u8 a.kind,.int .u8 a.level,.int .u8 a.more,.int .u8 a.next,.slice v a.objects.length y] fun bf aV J=>?_
 have a5:=uz I J
 have bg:=uz a3 J
 have bh:=uz a4 J
 have a6:=ud a0 a5 j
 refine b9 ⟨(cB (aL.old hsl a6) a1 0 (by omega)),(aO J (Ne.symm (nb (aj e) (le i.size N.size) Y)) a2)⟩ fun aW=>Rt 7 aW<|re<|tn<|rt<|c7 aV (.int .i64 0)<|?_
 have hX2:cj dir (fm b)=(a,D):=(congrArg (cj dir) (gC b)).trans L
 have hs:ed dir b=(⟨(b.getD 0 0),0,a⟩,0):=by
   unfold ed
   (try simp only[d,f,h,k,G,F,bs,if_true,if_false,decide_true,decide_false,cn,hX2,reduceIte])
   all_goals rfl
 refine cJ hs ?_
 exact⟨_,rfl,⟨#[.int .u8 a.code,.int .u8 a.fail,.int .u16 a.addr,.int .u16 a.count,.int .u16 a.value,.int .u16 a.and_,.int .u16 a.or_,.int .u16 a.addr2,.int .u16 a.sub,.int .u16 a.status,.int .u16 a.events,.int .u16 a.messages,.slice l a.words.length o,.slice p a.bits.length q,.slice r a.data.length s,.slice t a.recs.length u,.int .u8 a.mei,.int .u8 a.kind,.int .u8 a.level,.int .u8 a.more,.int .u8 a.next,.slice v a.objects.length y],(by as_aux_lemma=>kernel_rfl),(aU.upd W (uz Z a5) (ah (aD (ub (aE i N) e) (by decide)) az)),b8 (x:=(b.getD 0 0)) (by omega),aB (x:=0) (by omega)⟩,a6⟩
theorem nI{m:Bool}{v:Value}{b:List Int}{w:World}{dir:Int}(h:aL m w v b)(hb:b.length≤1048576) : Calls Tryz.prog 160 #[.int .i64 dir,v] w (j3 (ed dir b) w):=by
  obtain⟨A,cp,rfl,hc,_⟩:=h.shape
  exact lZ h hb hc
open Go.RowKit
theorem oG(a b c d:Int)(w:World) : (Op.equalIn 10000 24 (.agg #[.int .u8 a,.int .u16 b]) (.agg #[.int .u8 c,.int .u16 d])).run Tryz.prog w = .ok ((a==c)&&(b==d)) w:=by
  have hS:Tryz.prog.underlying 24=some (.struct (Tryz.prog.fieldsOf 24)):=by kernel_rfl
  have hp:Tryz.prog.stoodInHeld 24=false:=by kernel_rfl
  rw[show(10000:Nat)=9998+1+1 from rfl,run_equalIn_agg w (9998+1) 24 _ _ hS hp]
  simp only[Program.fieldsOf,Tryz.underlying24]
  have p0:∀ v:Int,(part 5 #[.int .u8 v,.int .u16 b] 0).run Tryz.prog w = .ok (.int .u8 v) w:=fun v=>by simp[part,isAgg,run_underlying Tryz.underlying5,Result.andThen]
  have p0':∀ v:Int,(part 5 #[.int .u8 v,.int .u16 d] 0).run Tryz.prog w = .ok (.int .u8 v) w:=fun v=>by simp[part,isAgg,run_underlying Tryz.underlying5,Result.andThen]
  have p1:∀ v u:Int,(part 22 #[.int .u8 u,.int .u16 v] 1).run Tryz.prog w = .ok (.int .u16 v) w:=fun v u=>by simp[part,isAgg,run_underlying Tryz.underlying22,Result.andThen]
  have e0:=run_equalIn_int (P:=Tryz.prog) w 9998 5 .u8 _ a c Tryz.underlying5
  have e1:=run_equalIn_int (P:=Tryz.prog) w 9998 22 .u16 _ b d Tryz.underlying22
  simp only[Op.eqFields,Sem.run_bind,p0,p0',p1,e0,e1,Result.andThen_ok,ne_eq,String.reduceEq,not_false_eq_true,if_true,Sem.run_ite]
  cases (a==c)<;>cases (b==d)<;>simp
theorem lm{ev:Operand→Value}{o:Oper}{x y:Operand}{t:TypeId}(a b c d:Int){v:Bool}{w:World}(ho:o.op = .binOp .eql 24 x y t)
    (hx:ev x = .agg #[.int .u8 a,.int .u16 b]) (hy:ev y = .agg #[.int .u8 c,.int .u16 d]) (hv:((a==c)&&(b==d))=v) : (execOp ev o).run Tryz.prog w = .ok (.value (.bool v)) w:=by
  subst hv
  have hg:(eqGuard .eql 24 x y (.agg #[.int .u8 a,.int .u16 b]) (.agg #[.int .u8 c,.int .u16 d])).run Tryz.prog w = .ok () w:=run_eqGuard_agg w _ _ _ _ _ _ (by kernel_rfl)
  unfold execOp
  simp only[ho,hx,hy,Sem.run_bind,hg,Result.andThen_ok,run_eql_struct,oG,Sem.run_pure]
open Go.RowKit
open Go.RowKit
theorem kn{m:Bool}{v:Value}{b:List Int}{w:World}{dir:Int}{F:cK}{E:Int}(hX:ed dir b=(F,E))(h:aL m w v b)(hb:b.length≤1048576) : Calls Tryz.prog 160 #[.int .i64 dir,v] w (fun e w'=>∃ x,e = .returned (.tuple #[.agg (nK F.unit F.tid F.msg x),.int .i64 E])∧(aU true w' (oy F.msg x).toList F.msg∧(0≤F.unit∧F.unit<256)∧(0≤F.tid∧F.tid<65536))∧aq [] w w'):=by
  refine(nI h hb).mono ?_
  rintro e w' ⟨cs,rfl,h1,h2⟩
  rw[hX] at h1 ⊢
  obtain⟨c,rfl,h3,h4,h5⟩:=h1
  obtain⟨x,rfl⟩:=kZ h3
  exact⟨x,by rw[gP],⟨h3,h4,h5⟩,h2⟩
open Go.RowKit
structure SS where
  dir:Int
  held:List Int
  off:Bool
def cX (w:World)(g:Nat)(S:SS) : Prop:=∃ A cp,w.heap[g]? = some (.cells #[.int .i64 S.dir,.slice A S.held.length cp,.bool S.off] 127 (0,0))∧aL true w (.slice A S.held.length cp) S.held∧S.held.length≤256∧S.held.length≤cp
def SS.feed (S:SS)(b:List Int) : SS × List Ev :=
  if S.off then (S,[]) else if decide (b.length≤256-S.held.length) then (⟨S.dir,S.held++b,false⟩,[]) else (⟨S.dir,[],true⟩,[Ev.bad 3])
def SS.tick (S:SS) : SS × List Ev:=(⟨S.dir,[],false⟩,if S.held.length=0 then [] else [⟨(ed S.dir S.held).2,(ed S.dir S.held).1⟩])
theorem cX.lt{w:World}{g:Nat}{S:SS}(h:cX w g S) : g<w.heap.size:=by
  obtain⟨A,cp,h1,_⟩:=h
  exact aj h1
theorem cX.upd{w w':World}{g:Nat}{S:SS}{X:List Nat}(h:cX w g S)(hu:aq X w w')(hg:g∉X)(hs:bN true [5] X w) : cX w' g S:=by
  obtain⟨A,cp,h1,h2,h3⟩:=h
  exact⟨A,cp,hu.blk hg h1,h2.upd' hu hs,h3⟩
theorem cX.old{w w':World}{g:Nat}{S:SS}(h:cX w g S)(hu:aq [] w w') : cX w' g S:=h.upd hu (by simp) (bN.nil _ _ _)
theorem cX.cells{w:World}{g:Nat}{S:SS}(h:cX w g S) : ∃ cs fr,w.heap[g]? = some (.cells cs 127 fr):=by
  obtain⟨A,cp,h1,_⟩:=h
  exact⟨_,_,h1⟩
theorem cX.le{w:World}{g:Nat}{S:SS}(h:cX w g S) : S.held.length≤256:=by
  obtain⟨A,cp,_,_,h1,_⟩:=h
  exact h1
theorem cX.safe{w:World}{g:Nat}{S:SS}(h:cX w g S)(D:List TypeId)(hD:D.contains 127=false) : bN true D [g] w:=by
  obtain⟨A,cp,h1,_⟩:=h
  exact aD h1 hD
theorem SS.feed_le{S S2:SS}{b:List Int}{L:List Ev}(h:S.feed b=(S2,L)) : L.length≤1:=by
  have k:=congrArg Prod.snd h
  rw[show L=(S.feed b).2 from k.symm]
  unfold SS.feed
  split
  · exact Nat.zero_le _
  split
  · exact Nat.zero_le _
  · exact Nat.le_refl _
theorem SS.tick_le{S S2:SS}{L:List Ev}(h:S.tick=(S2,L)) : L.length≤1:=by
  have k:=congrArg Prod.snd h
  rw[show L=S.tick.2 from k.symm]
  unfold SS.tick
  dsimp only
  split
  · exact Nat.zero_le _
  · exact Nat.le_refl _
open Go.RowKit
theorem iv{P:Program}{sz:Nat}{A:Option Addr}{c:Nat}(w:World) : (Builtin.firstCells sz 0 (.slice A 0 c)).run P w = .ok #[] w:=by
  cases A with
  | none=>simp[Builtin.firstCells]
  | some a =>
    have:=run_loadCells_list (P:=P) w a [] (fun j v hj=>by simp at hj)
    simpa [Builtin.firstCells] using this
theorem o8{α:Type}{base sz:Nat}{e t:TypeId}{R:World→α→List Value→Prop}{w:World}{A:Option Addr}{n c g:Nat}{xs:List α}(hb:∃ cs fr,w.heap[g]? = some (.cells cs t fr))(h:aN base e sz R w (.slice A n c) xs)(ht:(t==e)=false) : g∉ob A:=by
  obtain⟨cs,fr,hb⟩:=hb
  exact bJ hb h ht
section
variable {P:Program}{n:Nat}{D:List Deferred}{F:Fr}{w:World}{K:Fr→World→Prop}{Q:Exit→Act→World→Prop}{d:Option Tmp}{t:TypeId}{s:String}{af:Array Edge}{gu:Option (Nat × Bool)}
theorem tp{α:Type}{R:World→α→List Value→Prop}{x y:Operand}{e:TypeId}{base m c:Nat}{A:Option Addr}{xs ys:List α}{mm:Bool}{e' ty:TypeId}{u:Value}(z:Value)(sz bytes:Nat)(HO:aN base e sz R w (.slice A m c) xs)(HY:aG mm e' sz R w u ys)
    (hone:∀ x cs,R w x cs→∀ v,v∈cs→v.oneCell'=true) (hRU:∀ w',aq (ob A++[]) w w'→∀ x cs,R w x cs→R w' x cs)
    (hl:xs.length+ys.length≤4611686018427387904) (hmul:(xs.length+ys.length)*bytes≤140737488355328) (hbase:base≤w.heap.size) (h:∀ A' c' w',aN base e sz R w' (.slice A' (xs++ys).length c') (xs++ys)→aq (ob A++[]) w w'→(∀ g,g∈ob A'→g∈ob A∨w.heap.size≤g)→K (pt d (.slice A' (xs++ys).length c') F) w')
    (hx:cU F x=some (.slice A m c):=by kernel_rfl) (hy':cU F y=some u:=by kernel_rfl) (he:jK P ty=some e:=by kernel_rfl) (hs:(kk P ty,z.cells.size,(dq n d&&Nat.ble bytes 65536)&&Nat.blt 0 sz)=(some (some z,sz,bytes),sz,true):=by kernel_rfl) : OG P ⟨d,.call { callee:=.builtin .append,args:=#[x,y],argTypes:=#[ty,ty] },t,s,af,gu⟩ n D F w K Q:=by
  by_cases hne:ys=[]
  · subst hne
    simp only[Prod.mk.injEq] at hs
    have h3:=di (di hs.2.2).1
    obtain⟨A0,c0,e0,hc1,_⟩:=HO.rd.shape
    have e0:=e0.symm
    injection e0 with e1 e2 e3
    subst e2
    subst e1 e3
    obtain⟨B,cB,rfl,_,_⟩:=HY.shape
    have hinf:(P.info? e).map (fun i=>(i.zero,i.size,i.bytes))=some (some z,sz,bytes):=by have:=hs.1;unfold kk at this;rw[he] at this;exact this
    obtain⟨i0,hi,hz0,hz1,hz2⟩:=info_parts hinf
    have hsr:Src P i0.size ty (.slice B 0 cB) 0 [] w:=⟨.inl ⟨e,cY he⟩,fun w'=>by simp[Builtin.lenOf],iv w,iv w.drew,by simp,fun u hu=>by cases hu⟩
    have hr:=run_append_nothing w ty ty t _ i0 (cY he) hi A0 xs.length c0 hc1 _ hsr
    refine⟨fun a ha K' hK=>OW.mk ?_⟩
    have hx':=ha.ev hx
    have hy2:=ha.ev hy'
    simp only[List.length_nil] at hy2
    unfold Oper.wp execOp
    simp only[resolve,invoke,builtin,Sem.run_bind,Sem.run_pure,Result.andThen_ok,List.map_toArray,List.map_cons,List.map_nil,hx',hy2,hr]
    refine hK _ _ _ (h A0 c0 w (by rw[List.append_nil];exact HO) (aq.mono (S':=ob A0++[]) (aq.refl [] w) (fun x hx=>by cases hx)) (fun g hg=>.inl hg)) ?_
    rw[List.append_nil]
    exact ha.put h3.1
  · have hy:0<ys.length:=by
      cases ys with
      | nil=>exact absurd rfl hne
      | cons a r=>simp
    simp only[Prod.mk.injEq] at hs
    have h2:=di hs.2.2
    have h3:=di h2.1
    exact⟨fun a ha K' hK=>jA z sz bytes rfl rfl (cY he) (by have:=hs.1;unfold kk at this;rw[he] at this;exact this) hs.2.1 (by simpa using h2.2) xs (ha.ev hx) HO u ys (ha.ev hy') HY hy hone hRU hl hmul hbase fun A' c' w' hO hu hat=>hK _ _ _ (h A' c' w' hO hu hat) (ha.put h3.1)⟩
theorem ff{α:Type}{R:World→α→List Value→Prop}{x y:Operand}{e:TypeId}{base m c:Nat}{A:Option Addr}{xs ys:List α}{mm:Bool}{e' ty:TypeId}{u:Value}(z:Value)(sz bytes:Nat)(HO:aN base e sz R w (.slice A m c) xs)(HY:aG mm e' sz R w u ys)
    (hone:∀ x cs,R w x cs→∀ v,v∈cs→v.oneCell'=true) (hRU:∀ w',aq (ob A++[]) w w'→∀ x cs,R w x cs→R w' x cs)
    (hl:xs.length+ys.length≤4194304) (hbase:base≤w.heap.size) (h:∀ A' c' w',aN base e sz R w' (.slice A' (xs++ys).length c') (xs++ys)→aq (ob A++[]) w w'→(∀ g,g∈ob A'→g∈ob A∨w.heap.size≤g)→K (pt d (.slice A' (xs++ys).length c') F) w')
    (hx:cU F x=some (.slice A m c):=by kernel_rfl) (hy':cU F y=some u:=by kernel_rfl) (he:jK P ty=some e:=by kernel_rfl) (hs:(kk P ty,z.cells.size,(dq n d&&Nat.ble bytes 65536)&&Nat.blt 0 sz)=(some (some z,sz,bytes),sz,true):=by kernel_rfl) : OG P ⟨d,.call { callee:=.builtin .append,args:=#[x,y],argTypes:=#[ty,ty] },t,s,af,gu⟩ n D F w K Q:=by
  have hb:bytes≤65536:=by
    simp only[Prod.mk.injEq] at hs
    simpa using (di (di hs.2.2).1).2
  exact tp z sz bytes HO HY hone hRU (by omega) (Nat.le_trans (Nat.mul_le_mul hl hb) (by decide)) hbase h hx hy' he hs
end
open Go.RowKit
theorem bW{α β:Type}{base sz base2 sz2:Nat}{e e2:TypeId}{R:World→α→List Value→Prop}{R2:World→β→List Value→Prop}{w:World}{A A2:Option Addr}{n c n2 c2:Nat}{xs:List α}{ys:List β}(h:aN base e sz R w (.slice A n c) xs)(h2:aN base2 e2 sz2 R2 w (.slice A2 n2 c2) ys)(ht:(e==e2)=false) : ∀ x,x∈ob A→x∉ob A2:=fun x hx hx2=>by
  rcases co h with rfl|⟨g,cells,rfl,_,h1⟩
  · simp[ob] at hx
  rcases co h2 with rfl|⟨g2,cells2,rfl,_,h3⟩
  · simp[ob] at hx2
  simp[ob] at hx hx2
  subst hx
  subst hx2
  rw[h1] at h3
  injection h3 with h3
  injection h3 with _ h3 _
  subst h3
  simp at ht
theorem gy{A A0:Option Addr}{w w0:World}{S:List Nat}(hat:∀ x,x∈ob A→x∈ob A0∨w.heap.size≤x)(h:∀ x,x∈ob A0→x∈S∨w0.heap.size≤x)(hs:w0.heap.size≤w.heap.size) : ∀ x,x∈ob A→x∈S∨w0.heap.size≤x:=fun x hx=>by
  rcases hat x hx with k|k
  · exact h x k
  · exact .inr (Nat.le_trans hs k)
theorem fP{A A1 A0:Option Addr}{w w0:World}(hat:∀ x,x∈ob A→x∈ob A1∨w.heap.size≤x)(h:∀ x,x∈ob A1→x∈ob A0∨w0.heap.size≤x)(hs:w0.heap.size≤w.heap.size) : ∀ x,x∈ob A→x∈ob A0∨w0.heap.size≤x:=gy hat h hs
theorem cW{A0:Option Addr}{w:World}:∀ x,x∈ob none→x∈ob A0∨w.heap.size≤x:=fun x hx=>by simp[ob] at hx
theorem fC{A0:Option Addr}{w:World}:∀ x,x∈ob A0→x∈ob A0∨w.heap.size≤x:=fun x hx=>.inl hx
theorem mI{w:World}:∀ x cs,kO w x cs→∀ v,v∈cs→v.oneCell'=true:=fun x cs h v hv=>by
  rw[h.1] at hv
  simp at hv
  subst hv
  rfl
section
variable {n:Nat}{B:Option Addr}
def iu (n:Nat)(B:Option Addr)(X:List Nat) : Prop:=0<n→∀ x,x∈ob B→x∉X
theorem db:iu n B []:=fun _ x _=>by simp
theorem cL{g:Nat}{X:List Nat}(h:0<n→∀ x,x∈ob B→x≠g)(k:iu n B X) : iu n B (g :: X):=fun hn x hx=>by
  rw[List.mem_cons]
  rintro(e|e)
  · exact h hn x hx e
  · exact k hn x hx e
theorem ca{A:Option Addr}{X:List Nat}(h:iu n B (ob A))(k:iu n B X) : iu n B (ob A++X):=fun hn x hx=>by
  rw[List.mem_append]
  rintro(e|e)
  · exact h hn x hx e
  · exact k hn x hx e
theorem dN{A A0:Option Addr}{w:World}(h:iu n B (ob A0))(hl:0<n→∀ x,x∈ob B→x<w.heap.size)(hat:∀ x,x∈ob A→x∈ob A0∨w.heap.size≤x) : iu n B (ob A):=fun hn x hx hx2=>by
  rcases hat x hx2 with k|k
  · exact h hn x hx k
  · have:=hl hn x hx;omega
theorem dL{α:Type}{base sz:Nat}{e:TypeId}{R:World→α→List Value→Prop}{w w':World}{A:Option Addr}{m c:Nat}{xs:List α}(hl:0<n→∀ x,x∈ob B→x<w.heap.size)(h:aN base e sz R w' (.slice A m c) xs)(hs:w.heap.size≤base) : iu n B (ob A):=fun hn x hx hx2=>by
  have:=hl hn x hx
  have:=dU h x hx2
  omega
theorem aG.low{α:Type}{m:Bool}{e:TypeId}{sz c:Nat}{R:World→α→List Value→Prop}{w:World}{xs:List α}(h:aG m e sz R w (.slice B n c) xs) : 0<n→∀ x,x∈ob B→x<w.heap.size:=fun hn x hx=>by
  obtain⟨A',c',hv,_,_,_,h3⟩:=h
  injection hv with e1 e2 e3
  subst e1 e2 e3
  obtain⟨b,off,cells,t,fr,rfl,hh,_⟩:=h3 hn
  simp[ob] at hx
  subst hx
  exact aj hh
theorem aL.far{m:Bool}{c:Nat}{w w':World}{xs:List Int}{X:List Nat}(h:aL m w (.slice B n c) xs)(hu:aq X w w')(hd:iu n B X) : aL m w' (.slice B n c) xs:=by
  obtain⟨A',c',hv,h1,h2,h0,h3⟩:=h
  injection hv with e1 e2 e3
  subst e1 e2 e3
  refine⟨_,_,rfl,h1,h2,h0,fun hp=>?_⟩
  obtain⟨b,off,cells,t,fr,rfl,hh,h4,h5⟩:=h3 hp
  exact⟨b,off,cells,t,fr,rfl,hu.blk (hd hp b (by simp[ob])) hh,h4,h5⟩
end
open Go.RowKit
def nw (n:Nat)(X:List Nat)(w:World) : Prop:=∀ y,y∈X→n≤y∨∃ cells t fr,w.heap[y]? = some (.cells cells t fr)∧t∉ek
def aZ (n:Nat)(w:World)(x:Ev)(cs:List Value) : Prop:=n≤w.heap.size∧∀ (w':World)(X:List Nat),aq X w w'→nw n X w→kz true w' x cs
theorem aZ.mk{w:World}{x:Ev}{cs:List Value}(h:kz true w x cs) : aZ w.heap.size w x cs:=⟨Nat.le_refl _,fun w' X hu ha=>kz.upd hu (fun y hy=>by
  rcases ha y hy with k|k
  · exact .inl k
  · exact .inr ⟨rfl,k⟩) x cs h⟩
theorem aZ.ev{n:Nat}{w:World}{x:Ev}{cs:List Value}(h:aZ n w x cs) : kz true w x cs:=h.2 w [] (aq.refl _ _) (fun y hy=>by cases hy)
theorem aZ.mono{n n':Nat}{w:World}{x:Ev}{cs:List Value}(hn:n≤n')(hs:n'≤w.heap.size)(h:aZ n w x cs) : aZ n' w x cs:=⟨hs,fun w' X hu ha=>h.2 w' X hu fun y hy=>by
  rcases ha y hy with k|k
  · exact .inl (Nat.le_trans hn k)
  · exact .inr k⟩
theorem aZ.upd{n:Nat}{w w':World}{X:List Nat}{x:Ev}{cs:List Value}(hu:aq X w w')(ha:nw n X w)(h:aZ n w x cs) : aZ n w' x cs:=by
  refine⟨Nat.le_trans h.1 hu.size,fun w2 X2 hu2 ha2=>h.2 w2 (X++X2) ?_ ?_⟩
  · exact aq.trans' (aq.mono hu (fun y hy=>.inl (List.mem_append_left _ hy))) hu2 (fun y hy=>.inl (List.mem_append_right _ hy))
  · intro y hy
    rcases List.mem_append.1 hy with hy|hy
    · exact ha y hy
    · rcases ha2 y hy with k | ⟨cells,t,fr,k1,k2⟩
      · exact .inl k
      · by_cases hl:y<w.heap.size
        · by_cases hX:y∈X
          · exact ha y hX
          · exact .inr ⟨cells,t,fr,by rw[← hu.block y hl hX];exact k1,k2⟩
        · exact .inl (Nat.le_trans h.1 (by omega))
theorem aZ.ones{n:Nat}{w:World}:∀ (x:Ev)(cs:List Value),aZ n w x cs→∀ v,v∈cs→v.oneCell'=true:=fun x cs h=>kz.ones x cs h.ev
abbrev ck (n base:Nat) (w:World) (v:Value) (xs:List Ev) : Prop:=aN base 66 25 (aZ n) w v xs
theorem aN.map{α:Type}{base sz:Nat}{e:TypeId}{R R':World→α→List Value→Prop}{w:World}{v:Value}{xs:List α}(h:aN base e sz R w v xs)(k:∀ x cs,R w x cs→R' w x cs) : aN base e sz R' w v xs:=by
  obtain⟨cells,ho,hx⟩:=h
  refine⟨cells,ho,fun j x hj=>?_⟩
  obtain⟨cs,h1,h2,h3⟩:=hx j x hj
  exact⟨cs,h1,k _ _ h2,h3⟩
theorem eR.low{base:Nat}{w:World}{v:Value}{xs:List Ev}(h:eR base w v xs) : ck w.heap.size base w v xs:=aN.map h fun _ _=>aZ.mk
theorem ck.own{n base:Nat}{w:World}{v:Value}{xs:List Ev}(h:ck n base w v xs) : eR base w v xs:=aN.map h fun _ _ q=>q.ev
theorem ck.up{n n' base:Nat}{w:World}{v:Value}{xs:List Ev}(hn:n≤n')(hs:n'≤w.heap.size)(h:ck n base w v xs) : ck n' base w v xs:=aN.map h fun _ _ q=>q.mono hn hs
theorem bu{n:Nat}{w:World}:nw n [] w:=fun y hy=>by cases hy
theorem dk{n g:Nat}{w:World}{cs:Array Value}{t:TypeId}{fr:Nat × Nat}{X:List Nat}(hb:w.heap[g]? = some (.cells cs t fr))(ht:ek.contains t=false)(k:nw n X w) : nw n (g :: X) w:=fun y hy=>by
  rcases List.mem_cons.1 hy with rfl|hy
  · exact .inr ⟨cs,t,fr,hb,by simpa using ht⟩
  · exact k y hy
theorem eE{n:Nat}{w:World}{A:Option Addr}{X:List Nat}(h:∀ x,x∈ob A→n≤x)(k:nw n X w) : nw n (ob A++X) w:=fun y hy=>by
  rcases List.mem_append.1 hy with hy|hy
  · exact .inl (h y hy)
  · exact k y hy
theorem fk{α:Type}{n base sz m c:Nat}{e:TypeId}{R:World→α→List Value→Prop}{w:World}{A:Option Addr}{xs:List α}{X:List Nat}(h:aN base e sz R w (.slice A m c) xs)(ht:ek.contains e=false)(k:nw n X w) : nw n (ob A++X) w:=fun y hy=>by
  rcases List.mem_append.1 hy with hy|hy
  · rcases co h with rfl | ⟨g,cells,rfl,_,h1⟩
    · simp[ob] at hy
    · simp[ob] at hy
      subst hy
      exact .inr ⟨_,_,_,h1,by simpa using ht⟩
  · exact k y hy
theorem bR{n:Nat}:∀ x,x∈ob none→n≤x:=fun x hx=>by simp[ob] at hx
theorem mB{n:Nat}{A A0:Option Addr}{w:World}(hat:∀ x,x∈ob A→x∈ob A0∨w.heap.size≤x)(h:∀ x,x∈ob A0→n≤x)(hs:n≤w.heap.size) : ∀ x,x∈ob A→n≤x:=fun x hx=>by
  rcases hat x hx with k|k
  · exact h x k
  · exact Nat.le_trans hs k
section
variable {n base g cp:Nat}{w w':World}{A:Option Addr}{X:List Nat}
theorem lM{n':Nat}(hn:n≤n')(h:∀ x,x∈ob A→n'≤x) : ∀ x,x∈ob A→n≤x:=fun x hx=>Nat.le_trans hn (h x hx)
theorem q6{k:Nat}{B:Option Addr}(hl:0<k→∀ x,x∈ob B→x<w.heap.size)(hg:w.heap.size≤g) : 0<k→∀ x,x∈ob B→x≠g:=fun hk x hx e=>by
  have:=hl hk x hx
  omega
end
theorem oM{α:Type}{b0 b1 sz:Nat}{e:TypeId}{R:World→α→List Value→Prop}{w:World}{v:Value}{xs:List α}(hb:b0≤b1)(h:aN b1 e sz R w v xs) : aN b0 e sz R w v xs:=by
  obtain⟨cells,⟨h1,h2⟩,h3⟩:=h
  refine⟨cells,⟨h1,?_⟩,h3⟩
  rcases h2 with h2|⟨g,cap,cur,k0,k1,k2⟩
  · exact .inl h2
  · exact .inr ⟨g,cap,cur,k0,Nat.le_trans hb k1,k2⟩
theorem rK{α:Type}{b1 sz m c:Nat}{e:TypeId}{R:World→α→List Value→Prop}{w w1:World}{A A0:Option Addr}{xs:List α}(h:aN b1 e sz R w1 (.slice A m c) xs)(hb:w.heap.size≤b1) : ∀ x,x∈ob A→x∈ob A0∨w.heap.size≤x:=fun x hx=>.inr (Nat.le_trans hb (dU h x hx))
theorem qQ{α:Type}{n b1 sz m c:Nat}{e:TypeId}{R:World→α→List Value→Prop}{w1:World}{A:Option Addr}{xs:List α}(h:aN b1 e sz R w1 (.slice A m c) xs)(hb:n≤b1) : ∀ x,x∈ob A→n≤x:=fun x hx=>Nat.le_trans hb (dU h x hx)
open Go.RowKit
theorem sX{base g:Nat}{w:World}{cur:Array Value}(hb:base≤g)(hg:w.heap[g]? = some (.cells cur 5 (0,0)))(hc:cur.size≤maxLen) : cI base w (.slice (some ⟨g,0,none⟩) 0 cur.size) [] :=
  ⟨[],⟨rfl,.inr ⟨g,cur.size,cur,rfl,hb,hg,Nat.zero_le _,hc,(Nat.mul_one _).symm,by simp⟩⟩,fun j x hj=>by simp at hj⟩
theorem mj{base:Nat}{w:World}{A:Option Addr}{n c:Nat}{xs:List Int}(h:cI base w (.slice A n c) xs) : cI base w (.slice A 0 c) []:=by
  obtain⟨cells,⟨_,h2⟩,_⟩:=h
  rcases h2 with⟨e,_⟩|⟨g,cap,cur,e,h3,h4,h5,h6,h7,_⟩
  · injection e with e1 e2 e3
    subst e1 e3
    exact aN.nil ..
  · injection e with e1 e2 e3
    subst e1 e3
    exact⟨[],⟨rfl,.inr ⟨g,c,cur,rfl,h3,h4,Nat.zero_le _,h6,h7,by simp⟩⟩,fun j x hj=>by simp at hj⟩
theorem fM{P:Program}{m:Bool}{w:World}(t ty e:TypeId)(ht:P.underlying t=some (.slice e))(hte:e=5)(hinfo:(P.info? e).map (fun i=>(i.zero,i.size,i.bytes))=some (some (.int .u8 0),1,1))
    {A:Option Addr} {xs ys:List Int} (HX:aL true w (.slice A xs.length xs.length) xs) {u:Value} (HY:aL m w u ys) (hl:xs.length+ys.length≤4194304) :
    ∃ A' cp w',(Builtin.append_ #[t,t] ty #[.slice A xs.length xs.length,u]).run P w = .ok (.slice A' (xs++ys).length cp) w'∧aL true w' (.slice A' (xs++ys).length cp) (xs++ys)∧aq [] w w'∧((A'=A∧w'=w)∨∃ c,cI w.heap.size w' (.slice A' 0 c) []):=by
  subst hte
  obtain⟨i0,hi,hz0,hz1,hz2⟩:=info_parts hinfo
  obtain⟨B,c,rfl,hc1,hc2⟩:=HY.shape
  by_cases hy:ys=[]
  · have hs:=sH (P:=P) ht HY hy
    subst hy
    rw[← hz1] at hs
    rw[List.append_nil]
    exact⟨A,_,w,run_append_nothing w t t ty _ i0 ht hi A xs.length xs.length (Nat.le_refl _) _ hs,HX,aq.refl _ _,.inl ⟨rfl,rfl⟩⟩
  have hyl:0<ys.length:=by
    cases ys with
    | nil=>exact absurd rfl hy
    | cons a r=>simp
  cases B with
  | none =>
    obtain⟨B,c',hv,_,_,h0,h3⟩:=HY
    injection hv with e1 e2 e3
    subst e1 e3
    obtain⟨b,off,cells,t,fr,hh,_⟩:=h3 hyl
    cases hh
  | some ad =>
    obtain⟨_,hnews⟩:=eI iZ.cell HY
    have hby:∀ x,x∈xs++ys→0≤x∧x<256:=fun x hx=>by
      rcases List.mem_append.1 hx with h|h
      · exact HX.rng x h
      · exact HY.rng x h
    have fin:∀ (cp:Nat) (w':World) (zs:Array Value),xs.length+ys.length≤cp→cp≤maxLen→zs.size=cp-(xs.length+ys.length)→w'.heap[w.heap.size]? = some (.cells (((xs++ys).map (Value.int .u8)).toArray++zs) 5 (0,0))→aL true w' (.slice (some ⟨w.heap.size,0,none⟩) (xs++ys).length cp) (xs++ys)∧∃ c,cI w.heap.size w' (.slice (some ⟨w.heap.size,0,none⟩) 0 c) []:=fun cp w' zs h1 h2 hz h3=>by
      refine⟨⟨_,cp,rfl,by rw[List.length_append];exact h1,h2,(fun hA=>by cases hA),fun hp=>⟨w.heap.size,0,_,_,_,rfl,h3,fun _=>rfl,fun j x hj=>?_⟩⟩,_,sX (Nat.le_refl _) h3 ?_⟩
      · refine⟨[.int .u8 x],rfl,⟨rfl,hby x (List.mem_of_getElem? hj)⟩,fun i u hi=>?_⟩
        cases i with
        | succ i=>simp at hi
        | zero =>
          have hi:Value.int .u8 x=u:=by simpa using hi
          subst hi
          have hlt:=(List.getElem?_eq_some_iff.1 hj).1
          rw[Array.getElem?_append_left (by simp;simpa using hlt)]
          simp only[Nat.zero_add,Nat.mul_one,Nat.add_zero]
          rw[List.getElem?_toArray,List.getElem?_map,hj]
          rfl
      · rw[Array.size_append,hz]
        simp
        omega
    have hzc:∀ k,(Builtin.zeroCells (Value.int .u8 0).cells k).size=k:=fun k=>by simp[Builtin.zeroCells,Value.cells]
    cases A with
    | none =>
      have hx0:xs=[]:=by
        obtain⟨B,c',hv,_,_,h0,h3⟩:=HX
        injection hv with e1 e2 e3
        subst e1
        have:=h0 rfl
        exact List.eq_nil_of_length_eq_zero (by omega)
      subst hx0
      have hr:=run_append_nil (P:=P) w t ty _ i0 (.int .u8 0) ht hi hz0 ad ys.length c (ys.map (Value.int .u8)) (by rw[hz1];simp) hnews hyl (by omega) (by rw[hz2];omega)
      have f:=fin (grownCap w ys.length 0 5) (w.drew.alloc (.cells ((ys.map (Value.int .u8)).toArray++Builtin.zeroCells (Value.int .u8 0).cells (grownCap w ys.length 0 5-ys.length)) 5)) (Builtin.zeroCells (Value.int .u8 0).cells (grownCap w ys.length 0 5-ys.length)) (by simpa using grownCap_ge w ys.length 0 _) (grownCap_le_maxLen _ _ _ _ (by unfold maxLen;omega)) (by rw[hzc];simp) (by simpa using cO w.drew _)
      exact⟨_,_,_,hr,f.1,((aq.refl _ _).drew).alloc _,.inr f.2⟩
    | some bd =>
      obtain⟨_,holds⟩:=eI iZ.cell HX
      have hr:=run_append_grow (P:=P) w t ty _ i0 (.int .u8 0) ht hi hz0 bd xs.length xs.length (xs.map (Value.int .u8)) (by rw[hz1];simp) holds ad ys.length c (ys.map (Value.int .u8)) (by rw[hz1];simp) hnews (by omega) (by omega) (by
        rw[hz2]
        have:=nextslicecap_le (need:=xs.length+ys.length) (old:=xs.length) (by omega)
        omega)
      have f:=fin (grownCap w (xs.length+ys.length) xs.length 5) (w.drew.alloc (.cells ((xs.map (Value.int .u8)).toArray++(ys.map (Value.int .u8)).toArray++Builtin.zeroCells (Value.int .u8 0).cells (grownCap w (xs.length+ys.length) xs.length 5-(xs.length+ys.length))) 5)) (Builtin.zeroCells (Value.int .u8 0).cells (grownCap w (xs.length+ys.length) xs.length 5-(xs.length+ys.length))) (grownCap_ge w _ _ _) (grownCap_le_maxLen _ _ _ _ (by unfold maxLen;omega)) (by rw[hzc]) (by simpa using cO w.drew _)
      exact⟨some ⟨w.heap.size,0,none⟩,grownCap w (xs.length+ys.length) xs.length 5,_,by rw[hr,List.length_append],f.1,((aq.refl _ _).drew).alloc _,.inr f.2⟩
section
variable {P:Program}{n:Nat}{D:List Deferred}{F:Fr}{w:World}{K:Fr→World→Prop}{Q:Exit→Act→World→Prop}{d:Option Tmp}{t:TypeId}{s:String}{af:Array Edge}{gu:Option (Nat × Bool)}
theorem v6{ty:TypeId}{x y:Operand}{m:Bool}{A:Option Addr}{xs ys:List Int}{u:Value}(HX:aL true w (.slice A xs.length xs.length) xs)(HY:aL m w u ys)(hl:xs.length+ys.length≤4194304)
    (h:∀ A' cp w',aL true w' (.slice A' (xs++ys).length cp) (xs++ys)→((A'=A∧w'=w)∨∃ c,cI w.heap.size w' (.slice A' 0 c) [])→aq [] w w'→K (pt d (.slice A' (xs++ys).length cp) F) w') (hx:cU F x=some (.slice A xs.length xs.length):=by kernel_rfl) (hy:cU F y=some u:=by kernel_rfl)
    (hs:(jK P ty,(P.info? 5).map (fun i=>(i.zero,i.size,i.bytes)),dq n d)=(some 5,some (some (.int .u8 0),1,1),true):=by kernel_rfl) : OG P ⟨d,.call { callee:=.builtin .append,args:=#[x,y],argTypes:=#[ty,ty] },t,s,af,gu⟩ n D F w K Q:=by
  simp only[Prod.mk.injEq] at hs
  obtain⟨h1,h2,h3⟩:=hs
  obtain⟨A',cp,w',hr,hv,hu,ho⟩:=fM (P:=P) (w:=w) ty t _ (cY h1) rfl h2 HX HY hl
  refine⟨fun a ha K' hK=>OW.mk ?_⟩
  have hx':=ha.ev hx
  have hy':=ha.ev hy
  unfold Oper.wp execOp
  simp only[resolve,invoke,builtin,Sem.run_bind,Sem.run_pure,Result.andThen_ok,List.map_toArray,List.map_cons,List.map_nil,hx',hy',hr]
  exact hK _ _ _ (h A' cp w' hv ho hu) (ha.put h3)
end
open Go.RowKit
def bT (n base:Nat)(w:World)(g:Nat)(A:Option Addr)(c:Nat)(S:SS) : Prop:=(∃ cp,w.heap[g]? = some (.cells #[.int .i64 S.dir,.slice A S.held.length cp,.bool S.off] 127 (0,0))∧aL true w (.slice A S.held.length cp) S.held∧S.held.length≤256∧S.held.length≤cp)∧cI base w (.slice A 0 c) []∧n≤w.heap.size∧(∀ x,x∈ob A→n≤x)∧base≤w.heap.size
section
variable {n base g c:Nat}{w w':World}{A:Option Addr}{S:SS}{X:List Nat}
theorem bT.row(h:bT n base w g A c S) : cI base w (.slice A 0 c) []:=h.2.1
theorem bT.low(h:bT n base w g A c S) : ∀ x,x∈ob A→n≤x:=h.2.2.2.1
theorem bT.nle(h:bT n base w g A c S) : n≤w.heap.size:=h.2.2.1
theorem bT.le(h:bT n base w g A c S) : S.held.length≤256:=by
  obtain⟨⟨cp,_,_,h1,_⟩,_⟩:=h
  exact h1
theorem bT.lt(h:bT n base w g A c S) : g<w.heap.size:=by
  obtain⟨⟨cp,h1,_⟩,_⟩:=h
  exact aj h1
theorem bT.cells(h:bT n base w g A c S) : ∃ cs fr,w.heap[g]? = some (.cells cs 127 fr):=by
  obtain⟨⟨cp,h1,_⟩,_⟩:=h
  exact⟨_,_,h1⟩
theorem bT.upd(h:bT n base w g A c S)(hu:aq X w w')(hg:g∉X)(hr:∀ x,x∈ob A→x∉X) : bT n base w' g A c S:=by
  obtain⟨⟨cp,h1,h2,h3⟩,h4,h5,h6,h7⟩:=h
  exact⟨⟨cp,hu.blk hg h1,aL.far h2 hu (fun _=>hr),h3⟩,am h4 hu hr (fun _ _ q=>q),Nat.le_trans h5 hu.size,h6,Nat.le_trans h7 hu.size⟩
end
theorem aZ.bad{n:Nat}{w:World}(hn:n≤w.heap.size){e:Int}{cs:List Value}(h:kz true w (Ev.bad e) cs) : aZ n w (Ev.bad e) cs:=⟨hn,fun w' X hu ha=>by
  obtain⟨s,h1,h2,h3⟩:=h
  obtain⟨vw,vb,vd,vr,vo,k0,kw,kb,kd,kr,ko,kR⟩:=h2
  have nl:∀ {α:Type} {e:TypeId} {sz:Nat} {R:World→α→List Value→Prop} {v:Value},aG true e sz R w v []→aG true e sz R w' v []:=fun⟨A,c,hv,q1,q2,q3,q4⟩=>⟨A,c,hv,q1,q2,q3,fun hp=>absurd hp (Nat.lt_irrefl 0)⟩
  exact⟨s,h1,⟨vw,vb,vd,vr,vo,k0,nl kw,nl kb,nl kd,nl kr,nl ko,kR⟩,h3⟩⟩
theorem ck.nil{n base:Nat}{w:World}:ck n base w (.slice none 0 0) []:=aN.nil ..
theorem ck.bad{n base:Nat}{w:World}{v:Value}{e:Int}(hn:n≤w.heap.size)(h:eR base w v [Ev.bad e]) : ck n base w v [Ev.bad e]:=by
  obtain⟨cells,ho,hx⟩:=h
  refine⟨cells,ho,fun j x hj=>?_⟩
  obtain⟨cs,h1,h2,h3⟩:=hx j x hj
  cases j with
  | succ j=>simp at hj
  | zero =>
    have hj:Ev.bad e=x:=by simpa using hj
    subst hj
    exact⟨cs,h1,aZ.bad hn h2,h3⟩
def uM (n base:Nat)(S2:SS)(L:List Ev)(g:Nat)(A:Option Addr)(w:World)(e:Ending)(w':World) : Prop:=∃ v A2 c2 n2,e = .returned v∧ck n2 w.heap.size w' v L∧bT n2 base w' g A2 c2 S2∧(∀ x,x∈ob A2→x∈ob A∨w.heap.size≤x)∧n≤n2∧aq (g :: (ob A++[])) w w'
theorem gT{g:Nat}{A:Option Addr}{w w':World}(h:aq [g] w w') : aq (g :: (ob A++[])) w w':=aq.mono h fun x hx=>.inl (by rw[List.mem_singleton] at hx;rw[hx];exact List.mem_cons_self ..)
theorem qG{w:World}{d:Int}(hd:d=0∨d=1) : Calls Tryz.prog 46 #[.int .i64 d] w (fun e w'=>∃ g,e = .returned (.pointer (some ⟨g,0,none⟩))∧w.heap.size≤g∧bT w.heap.size w.heap.size w' g none 0 ⟨d,[],false⟩∧aq [] w w'):=by
 have h:((d != 0)&&(d != 1))=false:=by rcases hd with rfl | rfl<;>rfl
 refine en 12 Tryz.func46 rfl<|sg<|Pl 1<|nt<|sq<|sg<|Pl 3<|cu 3 [5] 8 (((d != 0)&&(d != 1))) (fun K c=>?_) ?_
 refine bl 5 ((d != 0)) (fun a=>?_) (fun a=>?_)
 have i:=ax a
 exact Pl 3<|ce c (d != 1) (by rw[a];rfl)
 have i:=ag a
 exact Pl 3<|ce c false (by rw[a];rfl)
 refine nt<|cf h<|bD<|sg<|Pl 2<|L0<|cP #[.int .i64 d,.slice none 0 0,.bool false] fun f l j k b=>Pl 1<|nt<|rt<|rr (.pointer (some ⟨f,0,none⟩))<|?_
 exact⟨f,rfl,j,⟨⟨0,k,aG.nil ..,Nat.zero_le _,Nat.zero_le _⟩,aN.nil ..,b.size,bR,b.size⟩,b⟩
theorem oz{w:World}{n base g c:Nat}{A:Option Addr}{S:SS}(h:bT n base w g A c S) : Calls Tryz.prog 158 #[.pointer (some ⟨g,0,none⟩)] w (bg (.int .i64 ((S.held.length:Nat) : Int)) w):=by
 obtain⟨⟨cp,hb,hr,hl,hcp⟩,hrow,hn0,hlow,hbs⟩:=h
 have hcm:=aG.len hr
 refine en 8 Tryz.func158 rfl<|sg<|Pl 1<|ng<|Pl 3<|L0<|aR hb 1<|Pl 2<|nt<|rt<|?_
 refine rr (.int .i64 ((S.held.length:Nat) : Int))<|?_
 exact⟨rfl,(aq.refl [] _)⟩
theorem nJ{w:World}{n base g c:Nat}{A:Option Addr}{S:SS}(h:bT n base w g A c S){m:Bool}{B:Option Addr}{cpb:Nat}{b:List Int}(hgA:g∉ob A)(hsl:aL m w (.slice B b.length cpb) b)(hbl:b.length≤1048576)(hcb:b.length≤cpb) :
    Calls Tryz.prog 157 #[.pointer (some ⟨g,0,none⟩),.slice B b.length cpb] w (uM n base (S.feed b).1 (S.feed b).2 g A w):=by
 obtain⟨⟨cp,hb,hr,hl,hcp⟩,hrow,hn0,hlow,hbs⟩:=h
 have hcm:=aG.len hr
 have hbm:=aG.len hsl
 refine en 53 Tryz.func157 rfl<|sg<|Pl 1<|nt<|sq<|sg<|Pl 3<|L0<|aR hb 2<|nt<|cb (S.off) (fun l=>?_) (fun l=>?_)
 refine sg<|Pl 1<|nt<|rt<|tr<|rr (.slice none 0 0)<|?_
 have hs:S.feed b=(S,[]):=by unfold SS.feed;rw[l];rfl
 rw[hs]
 exact⟨_,A,c,n,rfl,ck.nil,⟨⟨cp,hb,hr,hl,hcp⟩,am hrow (aq.refl [] _) (fun x hx=>(by simp)) (fun _ _ q=>q),Nat.le_trans hn0 lr,hlow,Nat.le_trans hbs lr⟩,fC,Nat.le_refl _,gT (aq.mono (S':=[g]) (aq.refl [] _) av)⟩
 refine bD<|sg<|Pl 5<|L0<|aR hb 1<|Pl 1<|L0<|Oi (256-((S.held.length:Nat) : Int))<|L0<|fN (.int .i64 (min ((b.length:Nat) : Int) (256-((S.held.length:Nat) : Int)))) (qa (a:=((b.length:Nat) : Int)) (b:=(256-((S.held.length:Nat) : Int))) rfl (by kernel_rfl) (by kernel_rfl))<|Pl 1<|nt<|sq<|Rg 23 (fun w'=>w'.cell? ⟨g,1,none⟩=some (.slice A S.held.length cp)) fun R f=>?_
 have z:=ub f hb
 refine b9 (ai z rfl) fun d=>Rt 0 d<|Rt 1 d<|Rt 2 d<|Rt 3 d<|Rl 4 d (fun _ hs=>hs)<|Rt 5 d<|Rt 6 d<|Rt 7 d<|Rl 8 d (fun _ hs=>hs)<|Rt 9 d<|Rt 10 d<|Rt 11 d<|Rt 12 d<|?_
 refine Rl 13 d (fun _ hs=>hs)<|Rt 14 d<|?_
 have u:=aL.upd' hr f az
 refine Rr 15 d (.slice A S.held.length S.held.length) (fun _ _=>pV (k1:=.i64) (k2:=.i64) (i1:=((S.held.length:Nat) : Int)) (i2:=((S.held.length:Nat) : Int)) (A:=A) (n:=S.held.length) (c:=cp) rfl Tryz.underlying27 (by kernel_rfl) (by kernel_rfl) (by kernel_rfl) (by kernel_rfl) rfl rfl (aG.cap u) (aG.adr u))<|Rt 16 d<|Rt 17 d<|kV (mv (P:=Tryz.prog) 27 5 1 Tryz.underlying27 rfl rfl B b.length cpb (k:=(min ((b.length:Nat) : Int) (256-((S.held.length:Nat) : Int)))) (((min ((b.length:Nat) : Int) (256-((S.held.length:Nat) : Int)))).toNat) (by omega) (by omega) (by omega)) fun G hrun30 H=>Rr 18 d (.slice G (((min ((b.length:Nat) : Int) (256-((S.held.length:Nat) : Int)))).toNat) cpb) (fun _ _=>fq (kl:=.i64) (k:=(min ((b.length:Nat) : Int) (256-((S.held.length:Nat) : Int)))) (A:=B) (n:=b.length) (c:=cpb) rfl Tryz.underlying27 (by kernel_rfl) (by kernel_rfl) (hrun30 _ _))<|?_
 refine R0 19 rfl<|v6 (xs:=S.held) (ys:=(b.take (((min ((b.length:Nat) : Int) (256-((S.held.length:Nat) : Int)))).toNat))) (u).full (H _ _ _ _ _ (aL.upd' hsl f az)) (by(try simp only[List.length_take]);omega) fun o C T I J j=>?_
 have v:=ub j z
 refine b9 (ai v rfl) fun D=>Rt 20 D<|Rt 21 D<|vD 22 rfl<|bO v 1 #[.int .i64 S.dir,.slice o ((S.held++(b.take (((min ((b.length:Nat) : Int) (256-((S.held.length:Nat) : Int)))).toNat))).length) C,.bool S.off] fun E F i=>re<|tn<|sq<|sg<|Pl 4<|nt<|?_
 have p:=uz f (uz j i)
 refine cb (((min ((b.length:Nat) : Int) (256-((S.held.length:Nat) : Int)))==((b.length:Nat) : Int))) (fun y=>?_) (fun y=>?_)
 have K:=aA y
 refine sg<|Pl 1<|nt<|rt<|tr<|rr (.slice none 0 0)<|?_
 have hle:b.length≤256-S.held.length:=by omega
 have hs:S.feed b=(⟨S.dir,S.held++b,false⟩,[]):=by unfold SS.feed;rw[l,decide_eq_true hle];rfl
 rw[hs]
 have hz:(b.take (((min ((b.length:Nat) : Int) (256-((S.held.length:Nat) : Int)))).toNat))=b:=List.take_of_length_le (by omega)
 have hB:=F
 have hR:=(aL.upd' I i (ah (aD v (by decide)) az))
 rw[hz] at hB hR
 have hsh:=hR.cap
 have hgr:g∉ob A:=fun e=>hgA e
 have fin:∀ c2,cI base E (.slice o 0 c2) []→(∀ x,x∈ob o→n≤x)→(∀ x,x∈ob o→x∈ob A∨w.heap.size≤x)→uM n base ⟨S.dir,S.held++b,false⟩ [] g A w (.returned (.slice none 0 0)) E:=fun c2 k1 k2 k3=>⟨_,o,c2,n,rfl,ck.nil,⟨⟨C,by rw[← l];exact hB,hR,by rw[List.length_append];omega,hsh⟩,k1,Nat.le_trans hn0 p.size,k2,Nat.le_trans hbs p.size⟩,k3,Nat.le_refl _,gT p⟩
 rcases J with⟨e1,e2⟩|⟨c2,k⟩
 · refine fin c ?_ ?_ ?_
   · rw[e1];exact am hrow p (fun x hx=>(by rw[List.mem_singleton];intro e;exact hgA (e▸hx))) (fun _ _ q=>q)
   · rw[e1];exact hlow
   · rw[e1];exact fC
 · refine fin c2 ?_ ?_ ?_
   · exact aN.weaken (am k i (fun x hx=>(by rw[List.mem_singleton];intro e;have:=dU k x hx;have:=aj hb;have:=f.size;omega)) (fun _ _ q=>q)) (Nat.le_trans hbs f.size)
   · exact fun x hx=>Nat.le_trans (Nat.le_trans hn0 f.size) (dU k x hx)
   · exact fun x hx=>.inr (Nat.le_trans f.size (dU k x hx))
 have K:=aH y
 refine bD<|sg<|Pl 4<|L0<|bO F 1 #[.int .i64 S.dir,.slice none 0 0,.bool S.off] fun U L r=>Pl 2<|L0<|bO L 2 #[.int .i64 S.dir,.slice none 0 0,.bool true] fun V M s=>ng<|Pl 1<|L0<|eS (m:=1) (e:=66) #[.int .i64 3,.int .u8 0,.int .u16 0,.int .u8 0,.int .u8 0,.int .u16 0,.int .u16 0,.int .u16 0,.int .u16 0,.int .u16 0,.int .u16 0,.int .u16 0,.int .u16 0,.int .u16 0,.int .u16 0,.slice none 0 0,.slice none 0 0,.slice none 0 0,.slice none 0 0,.int .u8 0,.int .u8 0,.int .u8 0,.int .u8 0,.int .u8 0,.slice none 0 0] fun N W O Q t=>?_
 refine Pl 1<|nt<|rt<|rr (.slice (some ⟨N,0,none⟩) 1 1)<|?_
 have hle:¬ b.length≤256-S.held.length:=by omega
 have hs:S.feed b=(⟨S.dir,[],true⟩,[Ev.bad 3]):=by unfold SS.feed;rw[l,decide_eq_false hle];rfl
 rw[hs]
 have hE:=j2 (w0:=w) (x:=Ev.bad 3) (Nat.le_trans (le (le (le (le f.size j.size) i.size) r.size) s.size) O) Q ⟨⟨none,0,none,0,none,0,none,0,none,0⟩,by kernel_rfl,je,by decide,by decide⟩
 exact⟨_,none,0,n,rfl,ck.bad (Nat.le_trans hn0 (le (le (le (le (le f.size j.size) i.size) r.size) s.size) t.size)) hE,⟨⟨0,(ub t M),aG.nil ..,(Nat.zero_le _),(Nat.zero_le _)⟩,aN.nil ..,Nat.le_trans hn0 (le (le (le (le (le f.size j.size) i.size) r.size) s.size) t.size),bR,Nat.le_trans hbs (le (le (le (le (le f.size j.size) i.size) r.size) s.size) t.size)⟩,cW,Nat.le_refl _,gT (u1 p (u1 r (aE s t) im) im)⟩
theorem nE{w:World}{n base g c:Nat}{A:Option Addr}{S:SS}(h:bT n base w g A c S) : Calls Tryz.prog 159 #[.pointer (some ⟨g,0,none⟩)] w (uM n base S.tick.1 S.tick.2 g A w):=by
 obtain⟨⟨cp,hb,hr,hl,hcp⟩,hrow,hn0,hlow,hbs⟩:=h
 have hcm:=aG.len hr
 refine en 32 Tryz.func159 rfl<|sg<|Pl 1<|ng<|Pl 3<|L0<|aR hb 1<|Pl 1<|nt<|sq<|?_
 refine go<|Pl 4<|L0<|bO hb 1 #[.int .i64 S.dir,.slice none 0 0,.bool S.off] fun L u d=>Pl 2<|L0<|bO u 2 #[.int .i64 S.dir,.slice none 0 0,.bool false] fun v l f=>nt<|sq<|sg<|Pl 3<|nt<|?_
 have b:=u1 d f im
 refine cb ((((S.held.length:Nat) : Int)==0)) (fun o=>?_) (fun o=>?_)
 have y:=aA o
 refine sg<|Pl 1<|nt<|rt<|tr<|rr (.slice none 0 0)<|?_
 have hs:S.tick=(⟨S.dir,[],false⟩,[]):=by unfold SS.tick;rw[if_pos (by omega)]
 rw[hs]
 exact⟨_,none,0,v.heap.size,rfl,ck.nil,⟨⟨0,l,aG.nil ..,(Nat.zero_le _),(Nat.zero_le _)⟩,aN.nil ..,Nat.le_refl _,bR,Nat.le_trans hbs b.size⟩,cW,Nat.le_trans hn0 b.size,gT b⟩
 have y:=aH o
 refine bD<|sg<|Pl 3<|L0<|aR l 0<|Pl 1<|?_
 refine pr (ed S.dir S.held) fun a p r=>?_
 refine L0<|Oc<|e2 (kn r (aL.upd' hr b (ah (aD hb (by decide)) az)) (by omega)) fun t7 M z i=>?_
 obtain⟨B,C,D⟩:=z
 refine Pl 3<|L0<|bz #[.int .u8 0,.int .u16 0,.int .u8 0,.int .u8 0,.int .u16 0,.int .u16 0,.int .u16 0,.int .u16 0,.int .u16 0,.int .u16 0,.int .u16 0,.int .u16 0,.int .u16 0,.int .u16 0,.slice none 0 0,.slice none 0 0,.slice none 0 0,.slice none 0 0,.int .u8 0,.int .u8 0,.int .u8 0,.int .u8 0,.int .u8 0,.slice none 0 0] fun N O E F j=>L0<|b6 F (nK a.unit a.tid a.msg t7) fun P G k=>Pl 1<|ng<|Pl 1<|L0<|c5 G<|Pl 1<|L0<|eS (m:=1) (e:=66) (kN ⟨p,a⟩ t7) fun H I J K q=>Pl 1<|nl<|?_
 refine tn<|rt<|rr (.slice (some ⟨H,0,none⟩) 1 1)<|?_
 have hs:S.tick=(⟨S.dir,[],false⟩,[⟨p,a⟩]):=by unfold SS.tick;rw[if_neg (by omega),r]
 rw[hs]
 have s:=ud j (aE k q) E
 have hE:=j2 (w0:=w) (x:=⟨p,a⟩) (Nat.le_trans (le (le (le (le d.size f.size) i.size) j.size) k.size) J) K ⟨t7,rfl,(aU.upd B s az),C,D⟩
 have t:=aE i s
 exact⟨_,none,0,I.heap.size,rfl,eR.low hE,⟨⟨0,(ub t l),aG.nil ..,(Nat.zero_le _),(Nat.zero_le _)⟩,aN.nil ..,Nat.le_refl _,bR,Nat.le_trans hbs (le (le (le (le (le d.size f.size) i.size) j.size) k.size) q.size)⟩,cW,Nat.le_trans hn0 (le (le (le (le (le d.size f.size) i.size) j.size) k.size) q.size),gT (aE b t)⟩
open Go.RowKit
def qp (b:List Int) : ak:=⟨b,false,0⟩
def qK (b:List Int) : ak:=(qp b).wordsC 1
def rf (b:List Int) : ak:=(qK b).wordsC 1
def rH (b:List Int) : ak:=(rf b).wordsC 1
def qW (b:List Int) : ak:=(rH b).bytesC 1
def lR (b:List Int) : List Int:=(qW b).bytesR (((qW b).l.length:Nat) : Int)
def c6 (dir:Int)(b:List Int) : cK × Int :=
  if dir != 0&&dir != 1 then (cK.zero,1)
  else if decide ((b.length:Int)<8) then (cK.zero,2)
  else if decide (260<(b.length:Int)) then (cK.zero,3)
  else if (qK b).wordV != 0 then (cK.zero,13)
  else if (rf b).wordV != (b.length:Int)-6 then (cK.zero,5)
  else cn (rH b).byteV (qp b).wordV (cj dir (lR b))
theorem kj{m:Bool}{A:Option Addr}{cp:Nat}{b:List Int}{w:World}{dir:Int}(hsl:aL m w (.slice A b.length cp) b)(hb:b.length≤1048576) :
    Calls Tryz.prog 192 #[.int .i64 dir,.slice A b.length cp] w (j3 (c6 dir b) w):=by
 have hln:(b.length:Int)≤1048576:=by omega
 refine en 75 Tryz.func192 rfl<|sg<|L0<|bz #[.int .u8 0,.int .u16 0,.int .u8 0,.int .u8 0,.int .u16 0,.int .u16 0,.int .u16 0,.int .u16 0,.int .u16 0,.int .u16 0,.int .u16 0,.int .u16 0,.int .u16 0,.int .u16 0,.slice none 0 0,.slice none 0 0,.slice none 0 0,.slice none 0 0,.int .u8 0,.int .u8 0,.int .u8 0,.int .u8 0,.int .u8 0,.slice none 0 0] fun b0 b1 g e i=>Pl 1<|nt<|sq<|bk<|sg<|Pl 3<|cu 3 [17] 20 (((dir != 0)&&(dir != 1))) (fun K N=>?_) ?_
 refine bl 17 ((dir != 0)) (fun o=>?_) (fun o=>?_)
 have Z:=ax o
 exact Pl 3<|ce N (dir != 1) (by rw[o];rfl)
 have Z:=ag o
 exact Pl 3<|ce N false (by rw[o];rfl)
 refine Pl 1<|nt<|cb (((dir != 0)&&(dir != 1))) (fun c=>?_) (fun c=>?_)
 have O:=(bM c).1
 have P:=(bM c).2
 have b2:=ax O
 have b3:=ax P
 refine sg<|Pl 1<|L0<|b6 e #[.int .u8 0,.int .u16 0,.int .u8 0,.int .u8 0,.int .u16 0,.int .u16 0,.int .u16 0,.int .u16 0,.int .u16 0,.int .u16 0,.int .u16 0,.int .u16 0,.int .u16 0,.int .u16 0,.slice none 0 0,.slice none 0 0,.slice none 0 0,.slice none 0 0,.int .u8 0,.int .u8 0,.int .u8 0,.int .u8 0,.int .u8 0,.slice none 0 0] fun b4 a0 a1=>Pl 1<|nt<|rt<|br<|tr<|c7 a0 (.int .i64 1)<|?_
 have hs:c6 dir b=(cK.zero,1):=by
   unfold c6
   (try simp only[c,O,P,bs,if_true,if_false,decide_true,decide_false,cn,qW,rH,rf,qK,qp,reduceIte])
   all_goals rfl
 refine cJ hs ?_
 exact bV (ud i a1 g)
 refine sg<|Pl 4<|nt<|cb ((decide (((b.length:Nat) : Int)<8))) (fun d=>?_) (fun d=>?_)
 have a2:=of_decide_eq_true d
 refine sg<|Pl 1<|L0<|b6 e #[.int .u8 0,.int .u16 0,.int .u8 0,.int .u8 0,.int .u16 0,.int .u16 0,.int .u16 0,.int .u16 0,.int .u16 0,.int .u16 0,.int .u16 0,.int .u16 0,.int .u16 0,.int .u16 0,.slice none 0 0,.slice none 0 0,.slice none 0 0,.slice none 0 0,.int .u8 0,.int .u8 0,.int .u8 0,.int .u8 0,.int .u8 0,.slice none 0 0] fun b5 a3 a4=>Pl 1<|nt<|rt<|br<|tr<|c7 a3 (.int .i64 2)<|?_
 have hs:c6 dir b=(cK.zero,2):=by
   unfold c6
   (try simp only[c,d,bs,if_true,if_false,decide_true,decide_false,cn,qW,rH,rf,qK,qp,reduceIte])
   all_goals rfl
 refine cJ hs ?_
 exact bV (ud i a4 g)
 have a2:=of_decide_eq_false d
 refine sg<|Pl 4<|nt<|cb ((decide (260<((b.length:Nat) : Int)))) (fun f=>?_) (fun f=>?_)
 have a5:=of_decide_eq_true f
 refine sg<|Pl 1<|L0<|b6 e #[.int .u8 0,.int .u16 0,.int .u8 0,.int .u8 0,.int .u16 0,.int .u16 0,.int .u16 0,.int .u16 0,.int .u16 0,.int .u16 0,.int .u16 0,.int .u16 0,.int .u16 0,.int .u16 0,.slice none 0 0,.slice none 0 0,.slice none 0 0,.slice none 0 0,.int .u8 0,.int .u8 0,.int .u8 0,.int .u8 0,.int .u8 0,.slice none 0 0] fun b7 a6 a7=>Pl 1<|nt<|rt<|br<|tr<|c7 a6 (.int .i64 3)<|?_
 have hs:c6 dir b=(cK.zero,3):=by
   unfold c6
   (try simp only[c,d,f,bs,if_true,if_false,decide_true,decide_false,cn,qW,rH,rf,qK,qp,reduceIte])
   all_goals rfl
 refine cJ hs ?_
 exact bV (ud i a7 g)
 have a5:=of_decide_eq_false f
 refine sk<|bn<|tn<|sg<|Pl 1<|?_
 refine L0<|Oc<|e3 (cc (aL.old hsl i) (by omega)) fun u b9 p a8 a9=>Pl 1<|ng<|Pl 1<|ng<|Pl 2<|L0<|eD #[] #[] (args:=#[.pointer (some ⟨u,0,none⟩)])<|m3 (bi a8) fun ba aa ac bb=>Pl 2<|L0<|eD #[] #[] (args:=#[.pointer (some ⟨u,0,none⟩)])<|m3 (bi aa) fun bc ad af bd=>?_
 refine ab ad fun x46 s ai=>?_
 refine Pl 2<|L0<|eD #[] #[] (args:=#[.pointer (some ⟨u,0,none⟩)])<|m3 (bi ai) fun be aj al bf=>Pl 3<|nt<|sq<|bk<|sg<|Pl 3<|nt<|?_
 have j:=ud a9 (u1 ac (u1 af al im) im) p
 have v:=aE i j
 refine cb (((((ak.mk b false 0).wordsC 1).wordV)!=0)) (fun h=>?_) (fun h=>?_)
 have am:=ax h
 refine sg<|Pl 1<|?_
 refine L0<|b6 (ub j e) #[.int .u8 0,.int .u16 0,.int .u8 0,.int .u8 0,.int .u16 0,.int .u16 0,.int .u16 0,.int .u16 0,.int .u16 0,.int .u16 0,.int .u16 0,.int .u16 0,.int .u16 0,.int .u16 0,.slice none 0 0,.slice none 0 0,.slice none 0 0,.slice none 0 0,.int .u8 0,.int .u8 0,.int .u8 0,.int .u8 0,.int .u8 0,.slice none 0 0] fun bg an ao=>Pl 1<|nt<|rt<|br<|tr<|c7 an (.int .i64 13)<|?_
 subst s
 have hs:c6 dir b=(cK.zero,13):=by
   unfold c6
   (try simp only[c,d,f,h,bs,if_true,if_false,decide_true,decide_false,cn,qW,rH,rf,qK,qp,reduceIte])
   all_goals rfl
 refine cJ hs ?_
 exact bV (ud v ao g)
 have am:=ag h
 refine sg<|Pl 1<|L0<|Oi x46.wordV<|Pl 2<|L0<|Oi (((b.length:Nat) : Int)-6)<|Pl 2<|nt<|cb ((x46.wordV != (((b.length:Nat) : Int)-6))) (fun k=>?_) (fun k=>?_)
 have ap:=ax k
 refine sg<|Pl 1<|?_
 refine L0<|b6 (ub j e) #[.int .u8 0,.int .u16 0,.int .u8 0,.int .u8 0,.int .u16 0,.int .u16 0,.int .u16 0,.int .u16 0,.int .u16 0,.int .u16 0,.int .u16 0,.int .u16 0,.int .u16 0,.int .u16 0,.slice none 0 0,.slice none 0 0,.slice none 0 0,.slice none 0 0,.int .u8 0,.int .u8 0,.int .u8 0,.int .u8 0,.int .u8 0,.slice none 0 0] fun bj aq ar=>Pl 1<|nt<|rt<|br<|tr<|c7 aq (.int .i64 5)<|?_
 subst s
 have hs:c6 dir b=(cK.zero,5):=by
   unfold c6
   (try simp only[c,d,f,h,k,bs,if_true,if_false,decide_true,decide_false,cn,qW,rH,rf,qK,qp,reduceIte])
   all_goals rfl
 refine cJ hs ?_
 exact bV (ud v ar g)
 have ap:=ag k
 refine sk<|bn<|tn<|sg<|Pl 1<|L0<|Oc<|m3 (bh aj) fun bm t Q bo=>Pl 1<|ng<|Pl 3<|L0<|Oc<|mq (cv t)<|?_
 have bp:=ae.len t
 refine L0<|Oc<|nu (bA (n:=((((x46.wordsC 1).bytesC 1).l.length:Nat) : Int)) t) fun bq bt au av bu bv aw R=>?_
 have bw:=Nat.le_trans (ak.bytesR_le ((x46.wordsC 1).bytesC 1) ((((x46.wordsC 1).bytesC 1).l.length:Nat) : Int)) (ae.len t)
 refine ab aw fun x80 S bx=>?_
 obtain⟨a,q,x⟩ : ∃ M E,cj dir (((x46.wordsC 1).bytesC 1).bytesR ((((x46.wordsC 1).bytesC 1).l.length:Nat) : Int))=(M,E):=⟨_,_,rfl⟩
 have T:=fV (dir:=dir) (w:=au) av (by omega)
 rw[x] at T
 refine L0<|Oc<|e2 T fun ay bB U V=>?_
 have aA:=U
 obtain⟨aC,aF,aG,aH,aI,aJ,aK,aM,aN,aO,aP,bC⟩:=aA
 obtain rfl:ay=(dA a aC aF aG aH aI).toArray:=by apply Array.toList_inj.1;simpa using aJ
 obtain⟨y,z,rfl,_,_⟩:=aK.shape
 obtain⟨B,C,rfl,_,_⟩:=aM.shape
 obtain⟨D,F,rfl,_,_⟩:=aN.shape
 obtain⟨G,H,rfl,_,_⟩:=aO.shape
 obtain⟨I,J,rfl,_,_⟩:=aP.shape
 refine Pl 3<|L0<|bz mZ fun bE bF aQ aR aS=>L0<|b6 aR (mG a.code a.fail a.addr a.count a.value a.and_ a.or_ a.addr2 a.sub a.status a.events a.messages (.slice y a.words.length z) (.slice B a.bits.length C) (.slice D a.data.length F) (.slice G a.recs.length H) a.mei a.kind a.level a.more a.next (.slice I a.objects.length J)) fun bG aT aV=>Pl 1<|nt<|sq<|sg<|Pl 2<|nt<|?_
 have W:=ud aS aV aQ
 have L:=u1 Q (aE R (aE V W)) im
 have X:=ud v L (le i.size p)
 refine cb ((q != 0)) (fun r=>?_) (fun r=>?_)
 have aW:=ax r
 refine sg<|Pl 2<|?_
 refine L0<|b6 (ub (ud j L p) e) #[.int .u8 0,.int .u16 0,.int .u8 0,.int .u8 0,.int .u16 0,.int .u16 0,.int .u16 0,.int .u16 0,.int .u16 0,.int .u16 0,.int .u16 0,.int .u16 0,.int .u16 0,.int .u16 0,.slice none 0 0,.slice none 0 0,.slice none 0 0,.slice none 0 0,.int .u8 0,.int .u8 0,.int .u8 0,.int .u8 0,.int .u8 0,.slice none 0 0] fun bH aX aY=>Pl 1<|nt<|rt<|tr<|c7 aX (.int .i64 q)<|?_
 subst S s
 have hX2:cj dir (lR b)=(a,q):=x
 have hs:c6 dir b=(cK.zero,q):=by
   unfold c6
   (try simp only[c,d,f,h,k,r,bs,if_true,if_false,decide_true,decide_false,cn,qW,rH,rf,qK,qp,hX2,reduceIte])
   all_goals rfl
 refine cJ hs ?_
 exact bV (ud X aY g)
 have aW:=ag r
 refine bD<|sg<|Pl 3<|L0<|c5 aT<|Pl 1<|?_
 refine L0<|b6 (ub (ud j L p) e) #[.int .u8 ((x46.wordsC 1).byteV),.int .u16 ((ak.mk b false 0).wordV),.int .u8 a.code,.int .u8 a.fail,.int .u16 a.addr,.int .u16 a.count,.int .u16 a.value,.int .u16 a.and_,.int .u16 a.or_,.int .u16 a.addr2,.int .u16 a.sub,.int .u16 a.status,.int .u16 a.events,.int .u16 a.messages,.slice y a.words.length z,.slice B a.bits.length C,.slice D a.data.length F,.slice G a.recs.length H,.int .u8 a.mei,.int .u8 a.kind,.int .u8 a.level,.int .u8 a.more,.int .u8 a.next,.slice I a.objects.length J] fun bI aZ Y=>Pl 1<|nt<|rt<|c7 aZ (.int .i64 0)<|?_
 subst S s
 have hX2:cj dir (lR b)=(a,q):=x
 have hs:c6 dir b=(⟨((((ak.mk b false 0).wordsC 1).wordsC 1).wordsC 1).byteV,(ak.mk b false 0).wordV,a⟩,0):=by
   unfold c6
   (try simp only[c,d,f,h,k,r,bs,if_true,if_false,decide_true,decide_false,cn,qW,rH,rf,qK,qp,hX2,reduceIte])
   all_goals rfl
 refine cJ hs ?_
 exact⟨_,rfl,⟨#[.int .u8 a.code,.int .u8 a.fail,.int .u16 a.addr,.int .u16 a.count,.int .u16 a.value,.int .u16 a.and_,.int .u16 a.or_,.int .u16 a.addr2,.int .u16 a.sub,.int .u16 a.status,.int .u16 a.events,.int .u16 a.messages,.slice y a.words.length z,.slice B a.bits.length C,.slice D a.data.length F,.slice G a.recs.length H,.int .u8 a.mei,.int .u8 a.kind,.int .u8 a.level,.int .u8 a.more,.int .u8 a.next,.slice I a.objects.length J],(by as_aux_lemma=>kernel_rfl),(aU.upd U (uz W Y) (ah (aD (ub (ud j (u1 Q (aE R V) im) p) e) (by decide)) az)),b8 (by omega),aB (by omega)⟩,(ud X Y g)⟩
theorem lh{m:Bool}{v:Value}{b:List Int}{w:World}{dir:Int}(h:aL m w v b)(hb:b.length≤1048576) : Calls Tryz.prog 192 #[.int .i64 dir,v] w (j3 (c6 dir b) w):=by
  obtain⟨A,cp,rfl,_,_⟩:=h.shape
  exact kj h hb
open Go.RowKit
open Go.RowKit
theorem fo{m:Bool}{v:Value}{b:List Int}{w:World}{dir:Int}{F:cK}{E:Int}(hX:c6 dir b=(F,E))(h:aL m w v b)(hb:b.length≤1048576) : Calls Tryz.prog 192 #[.int .i64 dir,v] w (fun e w'=>∃ x,e = .returned (.tuple #[.agg (nK F.unit F.tid F.msg x),.int .i64 E])∧(aU true w' (oy F.msg x).toList F.msg∧(0≤F.unit∧F.unit<256)∧(0≤F.tid∧F.tid<65536))∧aq [] w w'):=by
  refine(lh h hb).mono ?_
  rintro e w' ⟨cs,rfl,h1,h2⟩
  rw[hX] at h1 ⊢
  obtain⟨c,rfl,h3,h4,h5⟩:=h1
  obtain⟨x,rfl⟩:=kZ h3
  exact⟨x,by rw[gP],⟨h3,h4,h5⟩,h2⟩
end Go.Proofs.YtpglhicfhppaiaaGreat
